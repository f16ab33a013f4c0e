/- Part 10 of a proof. Conditions: each theorem's own. -/
import Derived.Test.YtmaoeopjnhfplaaGreatQk08
set_option linter.all false
set_option maxHeartbeats 8000000
set_option maxRecDepth 20000
namespace Go.Abs
variable {B:Nat} {u:List (List Rat)} {x:Re}
theorem ij {r:Rat} {n:Int} (h:r*r=n):∃m:Int,r=m:=by
 have c:(r*r).den=1:=by rw[h];rfl
 have a:(r*r).den=r.den*r.den:=by
  have f:Nat.gcd (r.num*r.num).natAbs (r.den*r.den)=1:=by
   rw[Int.natAbs_mul];exact Nat.Coprime.mul_left (Nat.Coprime.mul_right r.reduced r.reduced) (Nat.Coprime.mul_right r.reduced r.reduced)
  rw[Rat.mul_def,Rat.normalize_eq];simp only[f,Nat.div_one]
 rw[c] at a;have h3:r.den=1:=Nat.eq_one_of_mul_eq_one_left a.symm;refine⟨r.num,?_⟩;have:=LU r;rw[h3] at this;have e:((1:Nat):Rat)=1:=rfl
 grind
theorem Yw {Y:Nat} {c e:Re} (h:e=2*(c*c)):Re.ofRat ((2*Y:Nat):Rat)*c*(Re.ofRat ((2*Y:Nat):Rat)*c)=Re.ofRat ((2*Y*Y:Nat):Rat)*e:=by
 subst h;have e2:Re.ofRat ((2:Nat):Rat)=2:=rfl;simp only[HN,Re.ofRat_mul,e2]
 grind
theorem W0:∀{u:List (List Rat)} {R:Nat},Al u->TB R u->∃G:Nat,0<G/\G<=2^GG u.length R/\∀{x w:Re} {D:Nat},In u w->w*w=x->DN D (co u x)->DN (D*G) (co u w)
 | [],R,_,_=>⟨1,by decide,by simp[GG],fun {x w D} hw e h=>by
  obtain⟨p,rfl⟩:=Cs.1 hw;subst e;rw[<-Re.ofRat_mul,Dl] at h;rw[Dl];intro z hz;rw[List.mem_singleton.1 hz];obtain⟨n,v⟩:=h _ List.mem_cons_self
  obtain⟨m,hm⟩:=ij (r:=p*D) (n:=n*D) (by
   rw[Rat.intCast_mul,<-v];have:((D:Int):Rat)=(D:Rat):=rfl
   grind)
  exact⟨m,by rw[Nat.mul_one];exact hm⟩⟩
 | r::u,R,h,O=>by
  obtain⟨G,hG,L,Q⟩:=W0 h.1 O.tail;obtain⟨K,hK,F,hm⟩:=Js h.1 O.tail;obtain⟨E,hE,W,U,_⟩:=O.head;have hr:=Ct h;have a5:DN E (co u (AP u r)):=by rw[FL h];exact U
  obtain⟨i,hi,T⟩:=E1 h.1 (B6 h) (by have:=h.2.2.1;grind);obtain⟨I,hI,Z,Y,_⟩:=IS h.1 O.tail (B6 h) hi T (QS h O);refine⟨2*(K*K*E)*G*G*I*K,Nat.mul_pos (Nat.mul_pos (Nat.mul_pos (Nat.mul_pos (Nat.mul_pos (by decide) (Nat.mul_pos (Nat.mul_pos hK hK) hE)) hG) hG) hI) hK,?_,fun {x w D} hw e H=>?_⟩
  ·have h1:=Nat.mul_le_mul (Nat.mul_le_mul (Nat.mul_le_mul (Nat.mul_le_mul (Nat.mul_le_mul (Nat.le_refl (2^1)) (Nat.mul_le_mul (Nat.mul_le_mul F F) W)) L) L) Z) F;simp only[<-Nat.pow_add] at h1;exact Nat.le_trans h1 (CW (by rw[List.length_cons,GG];omega))
  obtain⟨c,d,hc,j,rfl⟩:=CZ.1 hw
  have f:In u (2*c*d):=by
   have:=DP (BD h.1 hc j) (BD h.1 hc j);rwa [show c*d+c*d=2*c*d by grind] at this
  have g:=B6 h;have ha:=DP (BD h.1 hc hc) (BD h.1 (BD h.1 j j) g);have ex:x=(c*c+d*d*AP u r)+(2*c*d)*rt u r:=by rw[<-e];grind
  rw[ex,C4 h ha f rfl,DN.app] at H
  generalize hA:c*c+d*d*AP u r=a at*
  generalize hB:2*c*d=b at*
  have v:=Fi (BD h.1 hc hc) (BD h.1 (BD h.1 j j) g)
  generalize hN:c*c-d*d*AP u r=n at*
  have M:=Fi (BD h.1 ha ha) (BD h.1 (BD h.1 f f) g);have a1:n*n=a*a-b*b*AP u r:=by grind
  have d1:DN (D*D*(K*K*E)) (co u (a*a-b*b*AP u r)):=
   DN.Iy h.1 (BD h.1 ha ha) (BD h.1 (BD h.1 f f) g) ((hm ha ha H.1 H.1).dvd ⟨K*E,by grind⟩) ((hm (BD h.1 f f) g (hm f f H.2 H.2) a5).dvd ⟨1,by grind⟩)
  generalize K*K*E=C at*
  have d2:DN (D*C*G) (co u n):=by
   have k1:DN 1 (co u (Re.ofRat ((D*C*(D*C):Nat):Rat)*(a*a-b*b*AP u r))):=(Kn h.1 M).1 (d1.dvd ⟨C,by grind⟩);have k2:=Q (x:=Re.ofRat ((D*C*(D*C):Nat):Rat)*(a*a-b*b*AP u r)) (w:=Re.ofRat ((D*C:Nat):Rat)*n) (D:=1) (MT v _) (by rw[HN (D*C),Re.ofRat_mul,<-a1];grind) k1;exact ((Kn h.1 v).2 k2).dvd ⟨1,by grind⟩
  have J:DN (D*C*G) (co u a):=H.1.dvd ⟨C*G,by grind⟩;have d3:DN (D*C*G) (co u (a+n)):=DN.F5 h.1 ha v J d2;have d4:DN (D*C*G) (co u (a-n)):=DN.Iy h.1 ha v J d2
  have d5:DN (2*(D*C*G)*G) (co u c):=by
   have k1:DN 1 (co u (Re.ofRat ((2*(D*C*G)*(D*C*G):Nat):Rat)*(a+n))):=(Kn h.1 (DP ha v)).1 (d3.dvd ⟨2*(D*C*G),by grind⟩);have k2:=Q (x:=Re.ofRat ((2*(D*C*G)*(D*C*G):Nat):Rat)*(a+n)) (w:=Re.ofRat ((2*(D*C*G):Nat):Rat)*c) (D:=1) (MT hc _) (Yw (by clear Q hm k1;grind)) k1;exact ((Kn h.1 hc).2 k2).dvd ⟨1,by grind⟩
  have d6:DN (D*C*G*I*K) (co u ((a-n)*i)):=hm (Fi ha v) hi d4 Y
  have d7:DN (2*(D*C*G*I*K)*G) (co u d):=by
   have a2:=BD h.1 (Fi ha v) hi;have k1:DN 1 (co u (Re.ofRat ((2*(D*C*G*I*K)*(D*C*G*I*K):Nat):Rat)*((a-n)*i))):=(Kn h.1 a2).1 (d6.dvd ⟨2*(D*C*G*I*K),by grind⟩)
   have k2:=Q (x:=Re.ofRat ((2*(D*C*G*I*K)*(D*C*G*I*K):Nat):Rat)*((a-n)*i)) (w:=Re.ofRat ((2*(D*C*G*I*K):Nat):Rat)*d) (D:=1) (MT j _) (Yw (by
    have e3:(a-n)*i=2*(d*d)*(AP u r*i):=by clear Q hm k1;grind
    rw[e3,T];grind)) k1
   exact ((Kn h.1 j).2 k2).dvd ⟨1,by grind⟩
  rw[C4 h hc j rfl,DN.app];exact⟨d5.dvd ⟨I*K,by grind⟩,d7.dvd ⟨1,by grind⟩⟩
theorem jP {p:Rat} (h:p*p<=((B*B:Nat):Rat)): -(B:Rat)<=p/\p<=B:=by
 rw[HN] at h;have c:(0:Rat)<=B:=Rat.natCast_nonneg
 generalize (B:Rat)=b at*
 constructor
 ·apply Classical.byContradiction;intro hc;have:=Rat.mul_pos (a:= -p-b) (b:= -p+b) (by grind) (by grind)
  grind
 apply Classical.byContradiction;intro hc;have:=Rat.mul_pos (a:=p-b) (b:=p+b) (by grind) (by grind)
 grind
theorem MX.half {y:Re} (h:Al u) (g:In u x) (f:In u y) (e:x=2*y) (k:MX (2*B) (co u x)):MX B (co u y):=by
 have a:x=Re.ofRat 2*y:=e;rw[a,Qn h f] at k;intro q c;have:=k _ (List.mem_map.2 ⟨q,c,rfl⟩);rw[HN] at this;have e2:((2:Nat):Rat)=2:=rfl
 grind
theorem YV:∀{u:List (List Rat)} {R:Nat},Al u->TB R u->∀{x w:Re} {B:Nat},In u w->w*w=x->MX (B*B) (co u x)->MX (B*2^GG u.length R) (co u w)
 | [],R,_,_,x,w,B,hw,e,h=>by
  obtain⟨p,rfl⟩:=Cs.1 hw;subst e;rw[<-Re.ofRat_mul,Dl] at h;rw[Dl];intro z hz;rw[List.mem_singleton.1 hz];have:=jP (h _ List.mem_cons_self).2;simpa [GG] using this
 | r::u,R,h,L,x,w,B,hw,e,v=>by
  have H:=fun {x w:Re} {B:Nat}=>YV (R:=R) (x:=x) (w:=w) (B:=B) h.1 L.tail
  have F:=fun {x y:Re} {B C:Nat}=>H2 (R:=R) (x:=x) (y:=y) (B:=B) (C:=C) h.1 L.tail
  obtain⟨E,hE,a6,_,Z⟩:=L.head;have hr:=Ct h;have a5:MX (2^R) (co u (AP u r)):=by rw[FL h];exact Z
  obtain⟨i,hi,O⟩:=E1 h.1 (B6 h) (by have:=h.2.2.1;grind);obtain⟨I,hI,a7,_,T⟩:=IS h.1 L.tail (B6 h) hi O (QS h L);obtain⟨c,d,hc,j,rfl⟩:=CZ.1 hw
  have g:In u (2*c*d):=by
   have:=DP (BD h.1 hc j) (BD h.1 hc j);rwa [show c*d+c*d=2*c*d by grind] at this
  have f:=B6 h;have ha:=DP (BD h.1 hc hc) (BD h.1 (BD h.1 j j) f);have ex:x=(c*c+d*d*AP u r)+(2*c*d)*rt u r:=by rw[<-e];grind
  rw[ex,C4 h ha g rfl,MX.app] at v
  generalize hA:c*c+d*d*AP u r=a at*
  generalize hB:2*c*d=b at*
  have M:=Fi (BD h.1 hc hc) (BD h.1 (BD h.1 j j) f)
  generalize hN:c*c-d*d*AP u r=n at*
  have a1:n*n=a*a-b*b*AP u r:=by clear H F;grind
  have m1:=MX.Iy h.1 (BD h.1 ha ha) (BD h.1 (BD h.1 g g) f) (F ha ha v.1 v.1) (F (BD h.1 g g) f (F g g v.2 v.2) a5);have Q:=DB (EE u.length R);have p1:=DB R;have p2:=DB (GG u.length R);have p3:=DB (II u.length R R)
  have eG:2^GG (r::u).length R=2^EE u.length R*2^EE u.length R*2^EE u.length R*2^R*2*(2^GG u.length R*2^GG u.length R)*2^II u.length R R:=by
   have e2:(2:Nat)=2^1:=rfl;conv=>rhs;rw[show ∀q:Nat,q*2=q*2^1 from fun q=>rfl]
   simp only[<-Nat.pow_add]
   congr 1
   rw[List.length_cons,GG];omega
  rw[eG]
  generalize 2^EE u.length R=K at*
  generalize 2^R=S at*
  generalize 2^GG u.length R=G at*
  generalize 2^II u.length R R=J at*
  have Y:1<=K*S:=Nat.mul_pos Q p1;have m:1<=K*K*S:=Nat.mul_pos (Nat.mul_pos Q Q) p1
  have a2:K+K*S*K<=2*(K*K*S)*(2*(K*K*S)):=by
   have t1:K*1<=K*(K*S):=Nat.mul_le_mul_left _ Y;have t2:(K*K*S)*1<=(K*K*S)*(K*K*S):=Nat.mul_le_mul_left _ m
   grind
  have m2:MX (B*B*(2*(K*K*S))*G) (co u n):=by
   refine H (x:=a*a-b*b*AP u r) M a1 (m1.mono ?_);have:=Nat.mul_le_mul_left (B*B*(B*B)) a2
   grind
  have W:1<=K*K*S*G:=Nat.mul_pos m p2
  have m3:MX (B*B*(2*(K*K*S)*G)) (co u (c*c)):=by
   refine MX.half h.1 (DP ha M) (BD h.1 hc hc) (by clear H F m1 m2;grind) ((MX.F5 h.1 ha M v.1 m2).mono ?_);have:=Nat.mul_le_mul_left (B*B) (show 1<=2*(K*K*S)*G by rw[Nat.mul_assoc];omega)
   grind
  have m4:MX (B*(2*(K*K*S)*G)*G) (co u c):=by
   refine H (x:=c*c) hc rfl (m3.mono ?_);have t:2*(K*K*S)*G*1<=2*(K*K*S)*G*(2*(K*K*S)*G):=Nat.mul_le_mul_left _ (by rw[Nat.mul_assoc];omega);have:=Nat.mul_le_mul_left (B*B) t
   grind
  have m5:MX (B*B*(2*(K*K*S)*G)) (co u (d*d*AP u r)):=by
   refine MX.half h.1 (Fi ha M) (BD h.1 (BD h.1 j j) f) (by clear H F m1 m2 m3;grind) ((MX.Iy h.1 ha M v.1 m2).mono ?_);have:=Nat.mul_le_mul_left (B*B) (show 1<=2*(K*K*S)*G by rw[Nat.mul_assoc];omega)
   grind
  have m6:MX (B*B*(2*(K*K*S)*G)*J*K) (co u (d*d)):=by
   have:=F (BD h.1 (BD h.1 j j) f) hi m5 T;rwa [show d*d*AP u r*i=d*d by rw[show d*d*AP u r*i=d*d*(AP u r*i) by grind,O];grind] at this
  have m7:MX (B*(2*(K*K*S)*G*J*K)*G) (co u d):=by
   refine H (x:=d*d) j rfl (m6.mono ?_);have t0:1<=2*(K*K*S)*G*J*K:=Nat.mul_pos (Nat.mul_pos (by rw[Nat.mul_assoc];omega) p3) Q;have t:2*(K*K*S)*G*J*K*1<=2*(K*K*S)*G*J*K*(2*(K*K*S)*G*J*K):=Nat.mul_le_mul_left _ t0;have:=Nat.mul_le_mul_left (B*B) t
   grind
  rw[C4 h hc j rfl,MX.app];have U:1<=J*K:=Nat.mul_pos p3 Q;refine⟨m4.mono ?_,m7.mono ?_⟩
  ·have:=Nat.mul_le_mul_left (B*(2*(K*K*S)*G)*G) U
   grind
  grind
theorem QT {R s:Nat} {w:Re} (h:Al u) (c:TB R u) (hw:In u w) (e:w*w=x) (C:Bd s (co u x)):Bd (s+GG u.length R) (co u w):=by
 obtain⟨D,f,g,j,h3⟩:=C;obtain⟨G,m,a,v⟩:=W0 h c;refine⟨D*G,Nat.mul_pos f m,?_,v hw e j,?_⟩
 ·have:=Nat.mul_le_mul g a;rwa [<-Nat.pow_add] at this
 have:=YV h c hw e (B:=2^s) (h3.mono (by rw[<-Nat.pow_add];exact CW));rwa [<-Nat.pow_add] at this
end Go.Abs
namespace Go.Abs
structure BH (x:Int) (b:Bool) (l:List UInt32):Prop where
 neg:b=decide (x<0)
 Bj:l=AW x.natAbs
variable {i n xi:Nat} {l o:List UInt32} {y:Int}
theorem BE (x:Int):∃b l,BH x b l:=⟨_,_,rfl,rfl⟩
theorem BH.nat {x:Int} {b:Bool} (h:BH x b l):AI l=x.natAbs:=by rw[h.Bj,BW]
theorem BH.E5 {x:Int} {b:Bool} (h:BH x b l):x=if b=true then -(AI l:Int) else AI l:=by
 rw[h.nat,h.neg];by_cases a:x<0 <;> simp[a] <;> omega
theorem BH.uniq {x:Int} {b b':Bool} {l':List UInt32} (h:BH x b l) (h':BH y b' l') (e:x=y):b=b'/\l=l':=by
 subst e;exact⟨h.neg.trans h'.neg.symm,h.Bj.trans h'.Bj.symm⟩
theorem BH.trim {x:Int} {b:Bool} (h:BH x b l):AW (AI l)=l:=by rw[h.nat,<-h.Bj]
theorem BH.val {x:Int} {b:Bool} (c:AW n=l) (a:x=if b=true then -(n:Int) else n) (h3:n=0->b=false):BH x b l:=by
 constructor
 ·rw[a];cases b
  ·simp
  have:n≠0:=fun e=>absurd (h3 e) (by simp)
  simp;omega
 rw[<-c,a];congr 1;split <;> omega
theorem BH.nil {x:Int} {b:Bool} (h:BH x b l):l=[]↔x=0:=by
 rw[h.Bj,GB];omega
theorem BH.GU {x:Int} {b:Bool} (h:BH x b l):l.length=0↔x=0:=by
 rw[List.length_eq_zero_iff,h.nil]
def Cg (x:Int):Int:=if x<0 then -1 else if x=0 then 0 else 1
def Bv (a b:Int):Int:=if a<b then -1 else if b<a then 1 else 0
theorem SA {x w:UInt32} (h:l[i]? =some x):AI (l.set i w)+2^(32*i)*x.toNat=AI l+2^(32*i)*w.toNat:=by
 induction l generalizing i with
 | nil=>simp at h
 | cons y l a=>
  cases i with
  | zero=>simp at h;subst h;simp[AI];omega
  | succ i=>
   have:=a (i:=i) (by simpa using h);rw[List.set_cons_succ,AI,AI,E3]
   generalize 2^(32*i)=P at*
   grind
theorem H9 {w:UInt32} (h:n<=i:=by omega):(l.set i w).take n=l.take n:=by
 rw[List.take_set];rw[List.set_eq_of_length_le];rw[List.length_take];omega
theorem Fu {w:UInt32} (h:i<l.length):(l.set i w).take (i+1)=l.take i++[w]:=by
 rw[List.take_succ_eq_append_getElem (by simpa using h),H9 (Nat.le_refl _)];simp
theorem K7 {A B Gd Ge yi:Nat} {w:UInt32} (a:i<o.length) (h:AI (o.take i)+B=A+2^(32*i)*Gd) (c:w.toNat+yi+Gd=xi+4294967296*Ge):
  AI ((o.set i w).take (i+1))+(B+2^(32*i)*yi)=(A+2^(32*i)*xi)+2^(32*(i+1))*Ge:=by
 rw[Fu a,FC,E3,List.length_take,Nat.min_eq_left (by omega)]
 generalize 2^(32*i)=P at*
 have e:P*(w.toNat+yi+Gd)=P*(xi+4294967296*Ge):=by rw[c]
 grind
theorem UB {N T c f yk old j:Nat} {q w:UInt32} {Y:Nat} {k:Nat} (g:j=i+k) (m:j<n) (v:o[j]? =some q) (F:q.toNat=old) (h:AI (o.take n)+2^(32*j)*c=T+xi*2^(32*i)*Y)
  (G:w.toNat+4294967296*f=c+xi*yk+old) (_:N=n):
  AI ((o.set j w).take n)+2^(32*(j+1))*f=T+xi*2^(32*i)*(Y+2^(32*k)*yk):=by
 have ht:(o.take n)[j]? =some q:=by rw[List.getElem?_take_of_lt m,v]
 have a:=SA (w:=w) ht;rw[List.take_set,E3];have C:2^(32*j)=2^(32*i)*2^(32*k):=by rw[g,Nat.mul_add,Nat.pow_add]
 generalize H:2^(32*j)=P at*
 have e:P*(w.toNat+4294967296*f)=P*(c+xi*yk+old):=by rw[G]
 rw[F] at a;have e2:xi*2^(32*i)*(2^(32*k)*yk)=P*(xi*yk):=by rw[C];grind
 rw[Nat.mul_add,e2]
 grind
theorem YT {x:Int} {a b:Bool} (ha:a=decide (x<0)) (hb:b=decide (y<0)):x*y=if (a !=b)=true then -((x.natAbs*y.natAbs:Nat):Int) else ((x.natAbs*y.natAbs:Nat):Int):=by
 rw[Int.natCast_mul]
 by_cases c:x<0 <;> by_cases f:y<0 <;> simp[ha,hb,c,f]
 ·rw[show ((x.natAbs:Nat):Int)= -x by omega,show ((y.natAbs:Nat):Int)= -y by omega];grind
 ·rw[show ((x.natAbs:Nat):Int)= -x by omega,show ((y.natAbs:Nat):Int)=y by omega];grind
 ·rw[show ((x.natAbs:Nat):Int)=x by omega,show ((y.natAbs:Nat):Int)= -y by omega];grind
 rw[show ((x.natAbs:Nat):Int)=x by omega,show ((y.natAbs:Nat):Int)=y by omega]
theorem Kh (a b:Int):(a<b/\Bv a b= -1)\/(a=b/\Bv a b=0)\/(b<a/\Bv a b=1):=by
 unfold Bv
 split
 ·exact .inl ⟨by assumption,rfl⟩
 split
 ·exact .inr (.inr ⟨by assumption,rfl⟩)
 exact .inr (.inl ⟨by omega,rfl⟩)
theorem GY (x:Int):(x<0/\Cg x= -1)\/(x=0/\Cg x=0)\/(0<x/\Cg x=1):=by
 unfold Cg
 split
 ·exact .inl ⟨by assumption,rfl⟩
 split
 ·exact .inr (.inl ⟨by assumption,rfl⟩)
 exact .inr (.inr ⟨by omega,rfl⟩)
theorem mN (x a b:Int): -9223372036854775808<=Cg x*Bv a b/\Cg x*Bv a b<9223372036854775808:=by
 rcases GY x with⟨_,h⟩ |⟨_,h⟩ |⟨_,h⟩ <;> rcases Kh a b with⟨_,k⟩ |⟨_,k⟩ |⟨_,k⟩ <;> rw[h,k] <;> decide
theorem gM {x:Int} (h:Cg x=Cg y):Bv x y=Cg x*Bv x.natAbs y.natAbs:=by
 rcases GY x with⟨c,a⟩ |⟨c,a⟩ |⟨c,a⟩ <;> rcases GY y with⟨k1,k2⟩ |⟨k1,k2⟩ |⟨k1,k2⟩ <;>
  rcases Kh x y with⟨p,q⟩ |⟨p,q⟩ |⟨p,q⟩ <;> rcases Kh x.natAbs y.natAbs with⟨u,v⟩ |⟨u,v⟩ |⟨u,v⟩ <;> rw[a,q,v] <;> rw[a,k2] at h <;> omega
theorem gL {x:Int} (h:Cg x≠Cg y):Bv x y=Bv (Cg x) (Cg y):=by
 rcases GY x with⟨c,a⟩ |⟨c,a⟩ |⟨c,a⟩ <;> rcases GY y with⟨k1,k2⟩ |⟨k1,k2⟩ |⟨k1,k2⟩ <;>
  rcases Kh x y with⟨p,q⟩ |⟨p,q⟩ |⟨p,q⟩ <;> rw[a,k2] at h ⊢ <;> rw[q] <;> first | rfl | omega
theorem aD {x:Int} {b:Bool} (h:x=if b=true then -(n:Int) else n): -x=if (!b)=true then -(n:Int) else n:=by
 cases b <;> simp_all
theorem PK {x:Int} {b:Bool} (h:x=if b=true then -(n:Int) else n) (f:n≠0):Cg x=if b=true then -1 else 1:=by
 rcases GY x with⟨c,a⟩ |⟨c,a⟩ |⟨c,a⟩ <;> rw[a] <;> cases b <;> simp at h ⊢ <;> omega
theorem add_same {x:Int} {b:Bool} (a:b=decide (x<0)) (c:b=decide (y<0)):x+y=if b=true then -((x.natAbs+y.natAbs:Nat):Int) else ((x.natAbs+y.natAbs:Nat):Int):=by
 cases b <;> simp at a c ⊢ <;> omega
theorem Nk {x:Int} {a b:Bool} (f:a=decide (x<0)) (g:b=decide (y<0)) (c:a≠b) (h:x.natAbs<=y.natAbs):x+y=if b=true then -((y.natAbs-x.natAbs:Nat):Int) else ((y.natAbs-x.natAbs:Nat):Int):=by
 cases a <;> cases b <;> simp at f g c ⊢ <;> omega
theorem JD {a b:Int} (h:Bv a b<0):a<b:=by rcases Kh a b with⟨_,k⟩ |⟨_,k⟩ |⟨_,k⟩ <;> omega
theorem JC {a b:Int} (h:0<=Bv a b):b<=a:=by rcases Kh a b with⟨_,k⟩ |⟨_,k⟩ |⟨_,k⟩ <;> omega
def Hh (b:Bool) (l:List UInt32):Bool:=match l.getLast? with
 | none=> !b
 | some x=>x !=0
theorem Lo {b:Bool}:Hh b l=true↔∃x,BH x b l:=by
 unfold Hh;cases h:l.getLast? with
 | none=>
  have:l=[]:=List.getLast?_eq_none_iff.1 h;subst this
  constructor
  ·intro hb;exact⟨0,by simpa using hb,rfl⟩
  rintro⟨x,a⟩
  have:=(a.nil).1 rfl;rw[a.neg,this];rfl
 | some w=>
  obtain⟨m,rfl⟩:=List.getLast?_eq_some_iff.1 h
  constructor
  ·intro hw;have hw:w≠0:=by simpa using hw
   have hc:=Qa (o:=m) (w:=w) fun e=>hw (UInt32.toNat_inj.1 e)
   have f:AI (m++[w])≠0:=fun e=>by
    rw[e,Gx] at hc;simp at hc
   exact⟨if b=true then -(AI (m++[w]):Int) else AI (m++[w]),.val hc rfl fun e=>absurd e f⟩
  rintro⟨x,a⟩
  simp only[bne_iff_ne,ne_eq];rintro rfl;have c:=a.trim;rw[<-NL,KR] at c;have:=UC m;rw[c] at this;simp at this;omega
end Go.Abs
namespace Go.Abs
variable {A B xi yi:Nat} {l o:List UInt32}
theorem KF {N k:Nat} (h:N<2^(32*k)):∃z:List UInt32,z.length=k/\AI z=N:=by
 refine⟨AW N++List.replicate (k-(AW N).length) 0,?_,?_⟩
 ·have:=Gw h;simp;omega
 rw[On,Ij,BW];simp
theorem PS (N i:Nat):N%2^(32*(i+1))=N%2^(32*i)+2^(32*i)*(N/2^(32*i)%4294967296):=by
 rw[E3,Nat.mul_comm 4294967296,Nat.mod_mul]
theorem aH {x y r n:Nat} (j:x<4294967296) (w:n<=31):(x+4294967296*(y+4294967296*r))/2^n%4294967296=x/2^n+y*2^(32-n)%4294967296:=by
 obtain⟨d,h⟩:∃d,32-n=d:=⟨_,rfl⟩
 have e:(4294967296:Nat)=2^n*2^d:=by rw[<-Nat.pow_add,show n+d=32 by omega]
 have a:0<2^n:=Nat.two_pow_pos n;have C:0<2^d:=Nat.two_pow_pos d;rw[h];have c:x+4294967296*(y+4294967296*r)=x+2^n*(2^d*(y+4294967296*r)):=by rw[<-Nat.mul_assoc,<-e]
 rw[c,Nat.add_mul_div_left _ _ a];have m:x/2^n<2^d:=Nat.div_lt_of_lt_mul (by rw[<-e];exact j);have e2:x/2^n+2^d*(y+4294967296*r)=(x/2^n+y*2^d)+4294967296*(2^d*r):=by rw[Nat.mul_add];grind
 rw[e2,Nat.add_mul_mod_self_left];have f:y*2^d%4294967296=2^d*(y%2^n):=by rw[e,Nat.mul_comm (2^n),Nat.mul_comm y,Nat.mul_mod_mul_left]
 rw[Nat.add_mod,f]
 have v:2^d*(y%2^n)+2^d<=4294967296:=by
  have:y%2^n+1<=2^n:=Nat.mod_lt _ a;have:=Nat.mul_le_mul_left (2^d) this;rw[e,Nat.mul_comm (2^n)];rw[Nat.mul_add] at this;omega
 have g:x/2^n%4294967296=x/2^n:=Nat.mod_eq_of_lt (by omega);rw[g,Nat.mod_eq_of_lt (by omega)]
theorem LH {a b d:Nat} (h:a<2^d):a ||| (2^d*b)=a+2^d*b:=by
 rw[Nat.or_comm,<-Nat.two_pow_add_eq_or_of_lt h,Nat.add_comm]
theorem EP {i:Nat} {x:UInt32} (h:l[i]? =some x):AI (l.drop i)=x.toNat+4294967296*AI (l.drop (i+1)):=by
 have a:i<l.length:=by
  apply Classical.byContradiction;intro c;rw[List.getElem?_eq_none (by omega)] at h;exact absurd h (by simp)
 rw[List.drop_eq_getElem_cons a,AI];rw[List.getElem?_eq_getElem a] at h;rw[Option.some.inj h]
theorem OA {i:Nat} (h:i<=l.length):AI l/2^(32*i)=AI (l.drop i):=by
 rw[Gj l i h,Nat.add_mul_div_left _ _ (Nat.two_pow_pos _)];have:=Cy (l.take i);rw[List.length_take,Nat.min_eq_left h] at this;rw[Nat.div_eq_of_lt this,Nat.zero_add]
theorem OD {i off:Nat} {w:UInt32}:(l.set (off+i) w).drop off=(l.drop off).set i w:=by
 rw[List.drop_set,if_neg (by omega)]
 congr 1
 omega
theorem nJ {D Gd Ge i:Nat} {w:UInt32} (a:i<o.length) (h:AI (o.take i)+B*D=A+2^(32*i)*Gd) (c:w.toNat+yi*D+Gd=xi+4294967296*Ge):
  AI ((o.set i w).take (i+1))+(B+2^(32*i)*yi)*D=(A+2^(32*i)*xi)+2^(32*(i+1))*Ge:=by
 rw[Fu a,FC,E3,List.length_take,Nat.min_eq_left (by omega)]
 generalize 2^(32*i)=P at*
 have e:P*(w.toNat+yi*D+Gd)=P*(xi+4294967296*Ge):=by rw[c]
 grind
theorem fE {Ny Nz i:Nat} {w:UInt32} (a:i<o.length) (h:AI (o.take i)+2^(32*i)*Ny=A+B) (c:w.toNat+4294967296*Nz=xi+yi+Ny):
  AI ((o.set i w).take (i+1))+2^(32*(i+1))*Nz=(A+2^(32*i)*xi)+(B+2^(32*i)*yi):=by
 rw[Fu a,FC,E3,List.length_take,Nat.min_eq_left (by omega)]
 generalize 2^(32*i)=P at*
 have e:P*(w.toNat+4294967296*Nz)=P*(xi+yi+Ny):=by rw[c]
 grind
end Go.Abs
namespace Go.Abs
variable {D P R R0 R2 S V V0 V2 high next r top u3:Nat}
theorem Z4 {u:List UInt32} {off len:Nat} (c:S<2^(32*len)) (g:off+len<=u.length):
  ∃z:List UInt32,z.length=u.length/\z.take off=u.take off/\z.drop (off+len)=u.drop (off+len)/\AI ((z.drop off).take len)=S:=by
 obtain⟨y,h,a⟩:=KF c;have f:(u.take off).length=off:=by rw[List.length_take];omega
 refine⟨u.take off++(y++u.drop (off+len)),?_,?_,?_,?_⟩
 ·simp;omega
 ·rw[List.take_append_of_le_length (by omega),List.take_of_length_le (by omega)]
 ·rw[<-List.drop_drop,List.drop_append_of_le_length (by omega),List.drop_eq_nil_of_le (by omega:(u.take off).length<=off),List.nil_append,List.drop_append_of_le_length (by omega),List.drop_eq_nil_of_le (by omega:y.length<=len),List.nil_append]
 rw[List.drop_append_of_le_length (by omega),List.drop_eq_nil_of_le (by omega:(u.take off).length<=off),List.nil_append,List.take_append_of_le_length (by omega),List.take_of_length_le (by omega),a]
theorem Wo (hR:R=R2*P+R0) (a:R0<P) (hV:V=V2*P+V0) (h:R2<D*V2):R/V<D:=by
 have j:0<P:=by omega
 have c:0<V2:=by
  apply Nat.pos_of_ne_zero;intro e;subst e;simp at h
 apply Nat.div_lt_of_lt_mul;have f:(R2+1)*P<=D*V2*P:=Nat.mul_le_mul_right _ h;have g:V*D=D*V2*P+V0*D:=by rw[hV];grind
 have h3:(R2+1)*P=R2*P+P:=by grind
 omega
theorem Wp (hR:R=R2*P+R0) (hV:V=V2*P+V0) (f:V0<P) (h:D*V2<=R2) (w:D<=V2+1):D<=R/V+1:=by
 cases D with
 | zero=>exact Nat.zero_le _
 | succ D=>
  have a:0<V\/V=0:=by omega
  rcases a with a | a
  ·have:D<=R/V:=by
    rw[Nat.le_div_iff_mul_le a];have g:(D+1)*V2*P<=R2*P:=Nat.mul_le_mul_right _ h;have j:D*V=D*V2*P+D*V0:=by rw[hV];grind
    have h3:(D+1)*V2*P=D*V2*P+V2*P:=by grind
    have m:D*V0<=D*P:=Nat.mul_le_mul_left _ (by omega);have v:D*P<=V2*P:=Nat.mul_le_mul_right _ (by omega);omega
   exact Nat.succ_le_succ this
  have c:V2*P=0:=by omega
  have C:0<P:=by omega
  have:V2=0:=by
   rcases Nat.mul_eq_zero.1 c with e | e
   ·exact e
   omega
  exact Nat.le_trans (by omega:D+1<=1) (Nat.le_add_left _ _)
structure I0 (R V top high D r:Nat):Prop where
 sum:r+D*high=top
 up:R/V<=D
 Oj:D<=4294967297
 rest:r<4294967296
theorem iH (hR:R=top*P+R0) (a:R0<P) (hV:V=high*P+V0) (j:2147483648<=high) (g:high<4294967296) (ht:top<4294967296*(high+1)):I0 R V top high (top/high) (top%high):=by
 have hm:=Nat.div_add_mod top high;have h:=Nat.mod_lt top (by omega:0<high);refine⟨by rw[Nat.mul_comm] at hm;omega,?_,?_,by omega⟩
 ·have c:top<(top/high+1)*high:=by rw[Nat.add_mul,Nat.mul_comm];omega
  exact Nat.le_of_lt_succ (Wo hR a hV c)
 have f:top<4294967298*high:=by omega
 have h3:top/high<4294967298:=(Nat.div_lt_iff_lt_mul (by omega)).2 f;exact Nat.le_of_lt_succ h3
theorem XX (g:I0 R V top high D r) (a:R/V<4294967296) (h:4294967296<=D:=by omega):R/V<=D-1:=by
 have:=g.up;exact Nat.le_sub_one_of_lt (Nat.lt_of_lt_of_le a h)
theorem XY (g:I0 R V top high D r) (hR:R=(4294967296*top+u3)*P+R0) (a:R0<P) (hV:V=(4294967296*high+next)*P+V0) (h:4294967296*r+u3<D*next):R/V<=D-1:=by
 have f:4294967296*top+u3<D*(4294967296*high+next):=by
  have e:=g.sum
  clear g hR hV
  rw[<-e];have c:D*(4294967296*high+next)=4294967296*(D*high)+D*next:=by grind
  have e2:4294967296*(r+D*high)=4294967296*r+4294967296*(D*high):=by grind
  rw[c,e2]
  generalize D*high=Q at*
  generalize D*next=T at*
  omega
 exact Nat.le_sub_one_of_lt (Wo hR a hV f)
theorem XZ (g:I0 R V top high D r) (a:R/V<=D-1) (f:0<D) (c:r+high<4294967296):I0 R V top high (D-1) (r+high):=by
 refine⟨?_,a,by have:=g.Oj;omega,c⟩;have:=g.sum;obtain⟨D,rfl⟩:∃k,D=k+1:=⟨D-1,by omega⟩
 simp only[Nat.add_sub_cancel];rw[Nat.add_mul] at this;omega
structure Lq (R V D:Nat):Prop where
 up:R/V<=D
 low:D<=R/V+1
 word:D<4294967296
theorem SC (g:I0 R V top high D r) (hR:R=(4294967296*top+u3)*P+R0) (hV:V=(4294967296*high+next)*P+V0) (a:V0<P) (f:2147483648<=high)
  (c:D<4294967296) (h:D*next<=4294967296*r+u3:=by omega):Lq R V D:=by
 refine⟨g.up,Wp hR hV a ?_ (by omega),c⟩;have e:=g.sum;rw[<-e];have:D*(4294967296*high+next)=4294967296*(D*high)+D*next:=by grind
 have:4294967296*(r+D*high)=4294967296*r+4294967296*(D*high):=by grind
 omega
theorem SB (g:I0 R V top high D r) (f:R/V<=D-1) (C:0<D) (hR:R=(4294967296*top+u3)*P+R0) (hV:V=(4294967296*high+next)*P+V0) (c:V0<P) (F:2147483648<=high) (G:next<4294967296)
  (ht:top<4294967296*(high+1)) (h:4294967296<=r+high:=by omega):Lq R V (D-1):=by
 obtain⟨D,rfl⟩:∃k,D=k+1:=⟨D-1,by omega⟩
 simp only[Nat.add_sub_cancel] at f ⊢;have e:=g.sum;have hm:=g.Oj;have j:(r+high)+D*high=top:=by rw[Nat.add_mul] at e;omega
 have a:D<4294967296:=by
  apply Classical.byContradiction;intro hc;have:4294967296*high<=D*high:=Nat.mul_le_mul_right _ (by omega);omega
 refine⟨f,Wp hR hV c ?_ (by omega),a⟩;rw[<-j];have m:D*(4294967296*high+next)=4294967296*(D*high)+D*next:=by grind
 have v:4294967296*(r+high+D*high)=4294967296*(r+high)+4294967296*(D*high):=by grind
 have h3:D*next<=4294967296*4294967296:=Nat.mul_le_mul (by omega) (by omega);have w:4294967296*4294967296<=4294967296*(r+high):=Nat.mul_le_mul_left _ h;omega
theorem YY {M:Nat} {b:Bool} (f:Lq R V D) (hV:0<V) (h:S+V*D=R+M*b.toNat) (m:S<M):
  (b=false->D=R/V/\S=R%V)/\(b=true->D-1=R/V/\0<D/\(R%V<M->(S+V)%M=R%V)):=by
 have v:=Nat.div_add_mod R V;have w:=Nat.mod_lt R hV;obtain⟨g,j,_⟩:=f
 generalize R/V=Q at*
 generalize R%V=T at*
 constructor
 ·rintro rfl;simp at h
  have a:D=Q:=by
   apply Classical.byContradiction;intro hc;have:D=Q+1:=by omega
   rw[this,Nat.mul_add] at h;omega
  exact⟨a,by rw[a] at h;omega⟩
 rintro rfl;simp at h
 have a:D=Q+1:=by
  apply Classical.byContradiction;intro hc;have:D=Q:=by omega
  rw[this] at h;omega
 refine⟨by omega,by omega,fun c=>?_⟩;rw[a,Nat.mul_add] at h;have:S+V=T+M*1:=by omega
 rw[this,Nat.add_mul_mod_self_left,Nat.mod_eq_of_lt c]
end Go.Abs
namespace Go.Abs
variable {A R V b i n q s:Nat} {u:List UInt32}
theorem nK {D M:Nat} (f:Lq R V D) (hV:0<V) (hR:R<M) (c:V<=M):∃(b:Bool) (S:Nat),S+V*D=R+M*b.toNat/\S<M:=by
 have g:=Nat.div_add_mod R V;have a:V*D<=V*(R/V+1):=Nat.mul_le_mul_left _ f.low;rw[Nat.mul_add] at a
 by_cases h:V*D<=R
 ·exact⟨false,R-V*D,by simp;omega,by omega⟩
 refine⟨true,R+M-V*D,?_,by omega⟩;simp
 generalize V*(R/V)=T at*
 omega
theorem nX {x y w:UInt32} (a:u[i+n]? =some x) (h:u[i+n-1]? =some y) (hw:u[i+n-2]? =some w) (j:2<=n) (f:AI (u.drop (i+n+1))=0):
  AI (u.drop i)=(4294967296*(y.toNat+4294967296*x.toNat)+w.toNat)*2^(32*(n-2))+AI ((u.drop i).take (n-2)):=by
 have g:i+n<u.length:=by
  apply Classical.byContradiction;intro hc;rw[List.getElem?_eq_none (by omega)] at a;exact absurd a (by simp)
 have c:=Gj (u.drop i) (n-2) (by rw[List.length_drop];omega);rw[List.drop_drop,show i+(n-2)=i+n-2 by omega,EP hw,show i+n-2+1=i+n-1 by omega,EP h,show i+n-1+1=i+n by omega,EP a,f] at c;rw[c]
 generalize 2^(32*(n-2))=P
 grind
theorem nW {v:List UInt32} {y w:UInt32} (hlen:v.length=n) (f:v[n-1]? =some y) (hw:v[n-2]? =some w) (g:2<=n):
  AI v=(4294967296*y.toNat+w.toNat)*2^(32*(n-2))+AI (v.take (n-2))/\AI v=y.toNat*2^(32*(n-1))+AI (v.take (n-1)):=by
 have a:=Gj v (n-2) (by omega);rw[EP hw,show n-2+1=n-1 by omega,EP f,show n-1+1=n by omega,List.drop_eq_nil_of_le (by omega)] at a;have c:=Gj v (n-1) (by omega);rw[EP f,show n-1+1=n by omega,List.drop_eq_nil_of_le (by omega)] at c
 constructor
 ·rw[a];simp only[AI];generalize 2^(32*(n-2))=P;grind
 rw[c];simp only[AI];generalize 2^(32*(n-1))=P;grind
theorem Lh {l:List UInt32}:AI (l.take n)<2^(32*n):=
 Nat.lt_of_lt_of_le (Cy _) (Nat.pow_le_pow_right (by decide) (by rw[List.length_take];omega))
theorem RE {l:List UInt32} (h:AI l<2^(32*n)) (a:n<=l.length):AI (l.drop n)=0:=by
 have c:=Gj l n a;apply Classical.byContradiction;intro hc;have:2^(32*n)*1<=2^(32*n)*AI (l.drop n):=Nat.mul_le_mul_left _ (by omega);omega
theorem Zo {z:List UInt32} {Q:Nat} (C:z.length=u.length) (a:z.take i=u.take i) (c:z.drop (i+(n+1))=u.drop (i+(n+1))) (hlen:i+(n+1)<=u.length) (h:AI (u.drop (i+n+1))=0)
  (w:q=AI (u.drop i)/V) (v:AI ((z.drop i).take (n+1))=AI (u.drop i)%V) (m:A=AI u+2^(32*(i+1))*Q*V):
  AI (z.drop i)=AI (u.drop i)%V/\A=AI z+2^(32*i)*(q+4294967296*Q)*V:=by
 have f:AI (z.drop i)=AI (u.drop i)%V:=by
  have:=Gj (z.drop i) (n+1) (by rw[List.length_drop];omega);rw[List.drop_drop,c,show i+(n+1)=i+n+1 by omega,h,v] at this;simpa using this
 refine⟨f,?_⟩;have j:=Gj u i (by omega);have h3:=Gj z i (by omega);rw[a,f] at h3;have g:=Nat.div_add_mod (AI (u.drop i)) V;rw[<-w] at g;rw[m,j,h3,E3,<-g]
 generalize 2^(32*i)=P
 grind
theorem Z5 (h:i+n<=u.length) (a:AI (u.drop (i+n))=0):AI ((u.drop i).take n)=AI (u.drop i):=by
 have:=Gj (u.drop i) n (by rw[List.length_drop];omega);rw[List.drop_drop,a] at this;simpa using this.symm
theorem MF {x:UInt32} (h:(AW b)[i]? =some x) (a:i+1=(AW b).length):x.toNat≠0:=by
 intro c;have hb:b≠0:=fun e=>by subst e;simp[Gx] at a
 have f:=YA hb;have g:=Cq h;rw[a,List.take_length,BW,c] at g;have h3:=Cy ((AW b).take i);rw[List.length_take,Nat.min_eq_left (by omega)] at h3;rw[<-a,Nat.add_sub_cancel] at f;omega
theorem aG {k:Nat} {x:UInt32} (a:(AW b).length=n) (g:1<=n) (C:(AW b)[n-1]? =some x) (f:2^(k-1)<=x.toNat) (h:x.toNat<2^k) (K:1<=k) (v:k<=32) (L:s=32-k):
  (AW (b*2^s)).length=n/\2147483648*2^(32*(n-1))<=b*2^s:=by
 have c:2^(k-1)*2^s=2147483648:=by rw[<-Nat.pow_add,show k-1+s=31 by omega]
 have e2:2^k*2^s=4294967296:=by rw[<-Nat.pow_add,show k+s=32 by omega]
 have h3:=Cq C;rw[show n-1+1=n by omega,<-a,List.take_length,BW,a] at h3;have j:=Cy ((AW b).take (n-1));rw[List.length_take,Nat.min_eq_left (by omega)] at j;have w:2^(32*n)=4294967296*2^(32*(n-1)):=by rw[<-E3,show n-1+1=n by omega]
 generalize m:2^(32*(n-1))=P at*
 have low:2147483648*P<=b*2^s:=by
  rw[<-c,h3];have:2^(k-1)*2^s*P<=x.toNat*2^s*P:=Nat.mul_le_mul_right _ (Nat.mul_le_mul_right _ f);have:(AI (List.take (n-1) (AW b))+P*x.toNat)*2^s=AI (List.take (n-1) (AW b))*2^s+x.toNat*2^s*P:=by grind
  omega
 refine⟨?_,low⟩
 have up:b*2^s<2^(32*n):=by
  rw[w,<-e2];have F:b<(x.toNat+1)*P:=by rw[h3,Nat.add_mul,Nat.mul_comm P];omega
  have G:(x.toNat+1)*P<=2^k*P:=Nat.mul_le_mul_right _ h;have H:b*2^s<2^k*P*2^s:=(Nat.mul_lt_mul_right (Nat.two_pow_pos s)).2 (by omega);have:2^k*2^s*P=2^k*P*2^s:=by grind
  omega
 have I:=Gw up;have J:=X2 (n:=b*2^s) (k:=n-1) (by rw[m];omega);omega
theorem PL (l:List UInt32) (h:s<=31:=by omega):AI l*2^s<2^(32*(l.length+1)):=by
 rw[E3,Nat.mul_comm 4294967296];exact Nat.mul_lt_mul_of_lt_of_le (Cy l) (Nat.le_trans (Nat.pow_le_pow_right (by decide) h:2^s<=2^31) (by decide)) (by decide)
theorem iK {a rest:Nat} (h:2147483648*2^(32*(n-1))<=V) (hV:V=a*2^(32*(n-1))+rest) (c:rest<2^(32*(n-1))):2147483648<=a:=by
 generalize 2^(32*(n-1))=P at*
 apply Classical.byContradiction;intro hc;have:(a+1)*P<=2147483648*P:=Nat.mul_le_mul_right _ (by omega);rw[Nat.add_mul] at this;omega
theorem aj {l:List UInt32} {m:Nat} (hu:AI u=AI l*2^s) (h:s<=31) (hlen:u.length=l.length+1) (hm:m+n=l.length+1) (w:1<=n) (hV:2147483648*2^(32*(n-1))<=V):AI (u.drop m)<V:=by
 have a:=Gj u m (by omega);have c:=Cy l;have h3:2^(32*l.length)=2^(32*m)*2^(32*(n-1)):=by rw[<-Nat.pow_add,show 32*m+32*(n-1)=32*l.length by omega]
 have f:2^s<=2147483648:=Nat.le_trans (Nat.pow_le_pow_right (by decide) h:2^s<=2^31) (by decide);have g:AI l*2^s<2^(32*l.length)*2147483648:=Nat.mul_lt_mul_of_lt_of_le c f (by decide);rw[hu,] at a;rw[h3] at g;have C:=Nat.two_pow_pos (32*m)
 generalize 2^(32*m)=P at*
 generalize 2^(32*(n-1))=N at*
 apply Classical.byContradiction;intro hc;have j:P*(2147483648*N)<=P*AI (u.drop m):=Nat.mul_le_mul_left _ (by omega);have v:P*N*2147483648=P*(2147483648*N):=by grind
 omega
theorem nY {x y:UInt32} (a:u[i+n]? =some x) (h:u[i+n-1]? =some y) (j:1<=n) (f:AI (u.drop (i+n+1))=0):
  AI (u.drop i)=(y.toNat+4294967296*x.toNat)*2^(32*(n-1))+AI ((u.drop i).take (n-1)):=by
 have g:i+n<u.length:=by
  apply Classical.byContradiction;intro hc;rw[List.getElem?_eq_none (by omega)] at a;exact absurd a (by simp)
 have c:=Gj (u.drop i) (n-1) (by rw[List.length_drop];omega);rw[List.drop_drop,show i+(n-1)=i+n-1 by omega,EP h,show i+n-1+1=i+n by omega,EP a,f] at c;rw[c]
 generalize 2^(32*(n-1))=P
 grind
theorem nV {top high P c a:Nat} (hR:R=top*P+c) (hV:V=high*P+a) (f:a<P) (h:R<4294967296*V):top<4294967296*(high+1):=by
 apply Classical.byContradiction;intro hc;have g:4294967296*(high+1)*P<=top*P:=Nat.mul_le_mul_right _ (by omega);have j:4294967296*(high+1)*P=4294967296*(high*P)+4294967296*P:=by grind
 omega
theorem Wy {a r:Nat} (g:A=a*2^s) (hV:V=b*2^s) (h:A=r+q*V) (G:r<V) (hb:0<b):q=a/b/\r/2^s=a%b:=by
 have j:=Nat.two_pow_pos s;have C:=Nat.div_add_mod a b;have F:=Nat.mod_lt a hb
 have e:a*2^s=(a%b)*2^s+(a/b)*V:=by rw[hV];conv=>lhs;rw[<-C]
                                    grind
 have f:(a%b)*2^s<V:=by rw[hV];exact (Nat.mul_lt_mul_right j).2 F
 have c:0<V:=by omega
 have m:q=a/b:=by
  have v:A/V=q:=by rw[h,Nat.add_mul_div_right _ _ c,Nat.div_eq_of_lt G,Nat.zero_add]
  have w:A/V=a/b:=by rw[g,e,Nat.add_mul_div_right _ _ c,Nat.div_eq_of_lt f,Nat.zero_add]
  rw[<-v,w]
 refine⟨m,?_⟩;have:r=(a%b)*2^s:=by rw[g,e,m] at h;omega
 rw[this,Nat.mul_div_cancel _ j]
end Go.Abs
namespace Go.Abs
def Cb (x y:Int):Int:=if 0<=y then x/y else (-x)/(-y)
variable {N X:Nat} {b:Bool} {x y:Int}
theorem Km {a b q r:Int} (hb:0<b) (h:a=b*q+r) (c:0<=r) (f:r<b):a/b=q:=((Int.ediv_emod_unique hb).2 ⟨by omega,c,f⟩).1
theorem Wt (j:y≠0) (c:decide (x<0)=decide (y<0)):Cb x y=((x.natAbs/y.natAbs:Nat):Int):=by
 have f:=Nat.div_add_mod x.natAbs y.natAbs;have hm:=Nat.mod_lt x.natAbs (by omega:0<y.natAbs)
 generalize x.natAbs/y.natAbs=q at*
 generalize x.natAbs%y.natAbs=r at*
 have a:(y.natAbs:Int)*q+r=x.natAbs:=by rw[<-f];simp
 unfold Cb
 by_cases h:0<=y
 ·rw[if_pos h]
  have:¬x<0:=by intro g;have:y<0:=by simpa [g] using c
                omega
  rw[show (y.natAbs:Int)=y by omega,show (x.natAbs:Int)=x by omega] at a;exact Km (r:=r) (by omega) a.symm (by omega) (by omega)
 rw[if_neg h]
 have:x<0:=by have:y<0:=by omega
              simpa [this] using c
 rw[show (y.natAbs:Int)= -y by omega,show (x.natAbs:Int)= -x by omega] at a;exact Km (r:=r) (by omega) a.symm (by omega) (by omega)
theorem Wq (m:y≠0) (g:decide (x<0)≠decide (y<0)) (j:x.natAbs%y.natAbs=0):Cb x y= -((x.natAbs/y.natAbs:Nat):Int):=by
 have f:=Nat.div_add_mod x.natAbs y.natAbs;rw[j] at f
 generalize x.natAbs/y.natAbs=q at*
 have a:(y.natAbs:Int)*q=x.natAbs:=by rw[<-f];simp
 unfold Cb
 by_cases h:0<=y
 ·rw[if_pos h]
  have c:x<0:=by
   apply Classical.byContradiction;intro c;exact g (by rw[decide_eq_false c,decide_eq_false (by omega)])
  rw[show (y.natAbs:Int)=y by omega,show (x.natAbs:Int)= -x by omega] at a;exact Km (r:=0) (by omega) (by rw[Int.mul_neg,a];omega) (by omega) (by omega)
 rw[if_neg h]
 have c:¬x<0:=by
  intro c;exact g (by rw[decide_eq_true c,decide_eq_true (by omega)])
 rw[show (y.natAbs:Int)= -y by omega,show (x.natAbs:Int)=x by omega] at a;exact Km (r:=0) (by omega) (by rw[Int.mul_neg,a];omega) (by omega) (by omega)
theorem Wr (m:y≠0) (f:decide (x<0)≠decide (y<0)) (j:x.natAbs%y.natAbs≠0):Cb x y= -((x.natAbs/y.natAbs+1:Nat):Int):=by
 have g:=Nat.div_add_mod x.natAbs y.natAbs;have hm:=Nat.mod_lt x.natAbs (by omega:0<y.natAbs)
 generalize x.natAbs/y.natAbs=q at*
 generalize x.natAbs%y.natAbs=r at*
 have a:(y.natAbs:Int)*q+r=x.natAbs:=by rw[<-g];simp
 unfold Cb
 by_cases h:0<=y
 ·rw[if_pos h]
  have c:x<0:=by
   apply Classical.byContradiction;intro c;exact f (by rw[decide_eq_false c,decide_eq_false (by omega)])
  rw[show (y.natAbs:Int)=y by omega,show (x.natAbs:Int)= -x by omega] at a;refine Km (r:=y-r) (by omega) ?_ (by omega) (by omega);rw[Int.natCast_add,Int.mul_neg,Int.mul_add];omega
 rw[if_neg h]
 have c:¬x<0:=by
  intro c;exact f (by rw[decide_eq_true c,decide_eq_true (by omega)])
 rw[show (y.natAbs:Int)= -y by omega,show (x.natAbs:Int)=x by omega] at a;refine Km (r:= -y-r) (by omega) ?_ (by omega) (by omega);rw[Int.natCast_add,Int.mul_neg,Int.mul_add];omega
def HW (x y:Int):Int:=x-y*Cb x y
theorem R8:(y.natAbs:Int)*((x.natAbs/y.natAbs:Nat):Int)+((x.natAbs%y.natAbs:Nat):Int)=x.natAbs:=by
 rw[<-Int.natCast_mul,<-Int.natCast_add,Nat.div_add_mod]
theorem jz (hb:b=decide (y<0)) (g:y≠0) (a:decide (x<0)=decide (y<0)):HW x y=if b=true then -((x.natAbs%y.natAbs:Nat):Int) else ((x.natAbs%y.natAbs:Nat):Int):=by
 have f:= @R8 x y;unfold HW;rw[Wt g a]
 generalize x.natAbs/y.natAbs=q at*
 generalize x.natAbs%y.natAbs=r at*
 by_cases h:y<0
 ·have c:x<0:=by simpa [h] using a
  rw[hb,decide_eq_true h,if_pos rfl];rw[show (y.natAbs:Int)= -y by omega,show (x.natAbs:Int)= -x by omega,Int.neg_mul] at f;omega
 have c:¬x<0:=by intro c;simp[c,h] at a
 rw[hb,decide_eq_false h,if_neg (by simp)];rw[show (y.natAbs:Int)=y by omega,show (x.natAbs:Int)=x by omega] at f;omega
theorem jx (j:y≠0) (f:decide (x<0)≠decide (y<0)) (g:x.natAbs%y.natAbs=0):HW x y=if b=true then -((x.natAbs%y.natAbs:Nat):Int) else ((x.natAbs%y.natAbs:Nat):Int):=by
 have c:= @R8 x y;unfold HW;rw[Wq j f g];rw[g] at c ⊢
 generalize x.natAbs/y.natAbs=q at*
 have e:x-y* -(q:Int)=0:=by
  by_cases h:y<0
  ·have a:¬x<0:=by intro a;exact f (by rw[decide_eq_true a,decide_eq_true h])
   rw[show (y.natAbs:Int)= -y by omega,show (x.natAbs:Int)=x by omega,Int.neg_mul] at c;rw[Int.mul_neg];omega
  have a:x<0:=by apply Classical.byContradiction;intro a;exact f (by rw[decide_eq_false a,decide_eq_false h])
  rw[show (y.natAbs:Int)=y by omega,show (x.natAbs:Int)= -x by omega] at c;rw[Int.mul_neg];omega
 rw[e];cases b <;> rfl
theorem jy (hb:b=decide (y<0)) (j:y≠0) (c:decide (x<0)≠decide (y<0)) (g:x.natAbs%y.natAbs≠0):
  HW x y=if b=true then -((y.natAbs-x.natAbs%y.natAbs:Nat):Int) else ((y.natAbs-x.natAbs%y.natAbs:Nat):Int):=by
 have f:= @R8 x y;have hm:=Nat.mod_lt x.natAbs (by omega:0<y.natAbs);unfold HW;rw[Wr j c g]
 generalize x.natAbs/y.natAbs=q at*
 generalize x.natAbs%y.natAbs=r at*
 rw[Int.natCast_add,Int.mul_neg,Int.mul_add]
 by_cases h:y<0
 ·have a:¬x<0:=by intro a;exact c (by rw[decide_eq_true a,decide_eq_true h])
  rw[hb,decide_eq_true h,if_pos rfl];rw[show (y.natAbs:Int)= -y by omega,show (x.natAbs:Int)=x by omega,Int.neg_mul] at f;omega
 have a:x<0:=by apply Classical.byContradiction;intro a;exact c (by rw[decide_eq_false a,decide_eq_false h])
 rw[hb,decide_eq_false h,if_neg (by simp)];rw[show (y.natAbs:Int)=y by omega,show (x.natAbs:Int)= -x by omega] at f;omega
theorem ah (w:Br N<=X) (a:0<X):Br N<=(X+N/X)/2:=by
 have h:=MV N
 generalize Br N=s at*
 have j:X*(N/X)+N%X=N:=Nat.div_add_mod N X;have h3:=Nat.mod_lt N a
 generalize N/X=q at*
 rw[Nat.le_div_iff_mul_le (by decide)];apply Classical.byContradiction;intro hc;have m:X+q+1<=2*s:=by omega
 obtain⟨d,rfl⟩:∃d,X=s+d:=⟨X-s,by omega⟩
 have c:q+1<=s-d:=by omega
 have f:(s+d)*(q+1)<=(s+d)*(s-d):=Nat.mul_le_mul_left _ c
 have v:(s+d)*(s-d)<=s*s:=by
  by_cases g:d<=s
  ·obtain⟨e,rfl⟩:∃e,s=e+d:=⟨s-d,by omega⟩
   have:(e+d)*(e+d)=(e+d+d)*e+d*d:=by grind
   rw[Nat.add_sub_cancel];omega
  rw[show s-d=0 by omega];simp
 rw[Nat.mul_add] at f;omega
theorem nG (j:Br N<=X) (a:0<X) (h:X<=(X+N/X)/2):Br N=X:=by
 have c:X<=N/X:=by omega
 have f:X*X<=N:=by
  have:=(Nat.le_div_iff_mul_le a).1 c;exact this
 have h3:=Oe N;have g:X<Br N+1:=Nat.mul_self_lt_mul_self_iff.1 (by omega);omega
theorem nH (h:N≠0):Br N<=2^((Nat.log2 N+1)/2+1):=by
 apply Classical.byContradiction;intro hc;have a:=MV N;have c:N<2^(Nat.log2 N+1):=(Nat.log2_lt h).1 (Nat.lt_succ_self _);have h3:2^((Nat.log2 N+1)/2+1)*2^((Nat.log2 N+1)/2+1)<=Br N*Br N:=Nat.mul_le_mul (by omega) (by omega);rw[<-Nat.pow_add] at h3;have f:2^(Nat.log2 N+1)<=2^((Nat.log2 N+1)/2+1+((Nat.log2 N+1)/2+1)):=Nat.pow_le_pow_right (by decide) (by omega);omega
end Go.Abs
namespace Go.Abs
structure Bm (q:Rat) (b1:Bool) (l1:List UInt32) (b2:Bool) (l2:List UInt32):Prop where
 num:BH q.num b1 l1
 den:BH (q.den:Int) b2 l2
variable {b' Vv b1 b2:Bool} {d y z:Int} {k:Nat} {l l' OW l1 l2:List UInt32}
theorem CI (q:Rat):∃b1 l1 b2 l2,Bm q b1 l1 b2 l2:=⟨_,_,_,_,⟨rfl,rfl⟩,⟨rfl,rfl⟩⟩
theorem Bm.uniq {p q:Rat} {c1 c2:Bool} {m1 m2:List UInt32} (h:Bm p b1 l1 b2 l2) (h':Bm q c1 m1 c2 m2) (e:p=q):(b1=c1/\l1=m1)/\(b2=c2/\l2=m2):=by
 subst e;exact⟨h.num.uniq h'.num rfl,h.den.uniq h'.den rfl⟩
structure CQ (q:Rat):Prop where
 num:(AW q.num.natAbs).length<=4000000000000
 den:(AW q.den).length<=4000000000000
theorem Bm.small {q:Rat} (h:Bm q b1 l1 b2 l2) (s:CQ q):l1.length<=4000000000000/\l2.length<=4000000000000:=by
 rw[h.num.Bj,h.den.Bj];exact⟨s.num,by simpa using s.den⟩
theorem Ws (x:Int):Cb x 1=x:=by unfold Cb;simp
theorem Oc {n:Int} (f:d≠0):(Rat.divInt n d).num=Cb n (if d<0 then -((Nat.gcd n.natAbs d.natAbs:Nat):Int) else ((Nat.gcd n.natAbs d.natAbs:Nat):Int)):=by
 rw[Rat.num_divInt];have c:Int.gcd d n=Nat.gcd n.natAbs d.natAbs:=by rw[Int.gcd_comm];rfl
 have a:0<Nat.gcd n.natAbs d.natAbs:=Nat.gcd_pos_of_pos_right _ (by omega);rw[c];unfold Cb
 by_cases h:d<0
 ·rw[if_pos h,if_neg (by omega),Int.sign_eq_neg_one_of_neg h,Int.neg_neg,Int.neg_one_mul]
 rw[if_neg h,if_pos (by omega),Int.sign_eq_one_of_pos (by omega),Int.one_mul]
theorem Ob {n:Int} (c:d≠0):((Rat.divInt n d).den:Int)=Cb d (if d<0 then -((Nat.gcd n.natAbs d.natAbs:Nat):Int) else ((Nat.gcd n.natAbs d.natAbs:Nat):Int)):=by
 rw[Rat.den_divInt,if_neg c];have f:Int.gcd d n=Nat.gcd n.natAbs d.natAbs:=by rw[Int.gcd_comm];rfl
 have a:0<Nat.gcd n.natAbs d.natAbs:=Nat.gcd_pos_of_pos_right _ (by omega);rw[f,Int.natCast_ediv];unfold Cb
 by_cases h:d<0
 ·rw[if_pos h,if_neg (by omega),Int.neg_neg,show (d.natAbs:Int)= -d by omega]
 rw[if_neg h,if_pos (by omega),show (d.natAbs:Int)=d by omega]
theorem jV:AW 1=[1]:=by decide +kernel
theorem SO {x:Int} {b:Bool} (h:BH x b l) (e:b=true):false=decide (x=1):=by
 have:=h.neg;rw[e] at this;have a:x<0:=by simpa using this.symm
 simp;omega
theorem Y0 {x:Int} {b:Bool} (h:BH x b l) (e:¬l.length=1):false=decide (x=1):=by
 have a:x≠1:=by
  intro c;subst c;apply e;rw[h.Bj];exact congrArg List.length jV
 simp[a]
theorem SQ {x:Int} {b:Bool} {w:UInt32} (h:BH x b l) (hb:b=false) (e:l.length=1) (hw:l[0]? =some w):decide (w.toNat=1)=decide (x=1):=by
 have g:l=[w]:=by
  match l,e,hw with
  | [a],_,hw=>simp at hw;rw[hw]
 have c:=h.nat;rw[g] at c;have f:AI [w]=w.toNat:=by simp[AI]
 rw[f] at c;have h3:=h.neg;rw[hb] at h3;have j:¬x<0:=by simpa using h3.symm
 rw[Bool.eq_iff_iff];simp;omega
theorem Of (n:Nat):n<2^(32*(AW n).length):=by
 have h:=Cy (AW n);rwa [BW] at h
theorem jU (a b:Nat):(AW (a*b)).length<=(AW a).length+(AW b).length:=by
 apply Gw;rw[Nat.mul_add,Nat.pow_add];exact Nat.mul_lt_mul_of_lt_of_le (Of a) (Nat.le_of_lt (Of b)) (Nat.pow_pos (by decide))
theorem jT {a b:Nat} (ha:(AW a).length<=k) (hb:(AW b).length<=k):(AW (a+b)).length<=k+1:=by
 apply Gw;have c:=Nat.lt_of_lt_of_le (Of a) (Nat.pow_le_pow_right (n:=2) (by decide) (Nat.mul_le_mul_left 32 ha));have f:=Nat.lt_of_lt_of_le (Of b) (Nat.pow_le_pow_right (n:=2) (by decide) (Nat.mul_le_mul_left 32 hb));rw[Nat.mul_add,Nat.pow_add];have h3:2^(32*k)*2<=2^(32*k)*2^(32*1):=Nat.mul_le_mul_left _ (by decide);omega
theorem BH.Dp {x:Int} {b:Bool} (h:BH x b l) (h':BH y b' l') (a:BH z Vv OW) (e:z=x*y):OW.length<=l.length+l'.length:=by
 rw[h.Bj,h'.Bj,a.Bj,e,Int.natAbs_mul];exact jU _ _
theorem BH.Nl {x:Int} {b:Bool} (h:BH x b l) (h':BH y b' l') (c:BH z Vv OW) (e:z=x+y) (f:l.length<=k) (a:l'.length<=k):OW.length<=k+1:=by
 rw[h.Bj] at f;rw[h'.Bj] at a;rw[c.Bj,e];exact Nat.le_trans (FB (Int.natAbs_add_le x y)) (jT f a)
theorem HP (q:Rat):(q.den:Int)≠0:=by have:=q.den_nz;omega
theorem QE (p q:Rat):p+q=Rat.divInt (p.num*q.den+q.num*p.den) ((p.den:Int)*q.den):=by
 have h:=Rat.divInt_add_divInt p.num q.num (HP p) (HP q);rwa [Rat.num_divInt_den,Rat.num_divInt_den] at h
theorem Ok (p q:Rat):p*q=Rat.divInt (p.num*q.num) ((p.den:Int)*q.den):=by
 have h:=Rat.divInt_mul_divInt p.num q.num (d₁:=p.den) (d₂:=q.den);rwa [Rat.num_divInt_den,Rat.num_divInt_den] at h
theorem gW (p q:Rat):p/q=Rat.divInt (p.num*q.den) ((p.den:Int)*q.num):=by
 have h:=Rat.divInt_mul_divInt p.num q.den (d₁:=p.den) (d₂:=q.num);rw[<-Rat.inv_divInt q.num q.den,Rat.num_divInt_den,Rat.num_divInt_den] at h;rw[Rat.div_def,h]
theorem Wu (x:Int):Rat.divInt x 1=(x:Rat):=Rat.num_divInt_den (x:Rat)
theorem Wx (x:Int):(Rat.divInt x 1).num=x:=by rw[Wu];rfl
theorem Ww (x:Int):(Rat.divInt x 1).den=1:=by rw[Wu];rfl
theorem I6 {p q:Rat} (a:(p.den:Int)=1) (c:(q.den:Int)=1):(p+q).num=p.num+q.num/\(p+q).den=1:=by
 rw[QE,a,c];simp only[Int.mul_one];exact⟨Wx _,Ww _⟩
theorem mul_ones {p q:Rat} (a:(p.den:Int)=1) (c:(q.den:Int)=1):(p*q).num=p.num*q.num/\(p*q).den=1:=by
 rw[Ok,a,c];simp only[Int.mul_one];exact⟨Wx _,Ww _⟩
theorem aU (r:Rat):(r*r).num=r.num*r.num/\(r*r).den=r.den*r.den:=by
 have hc:(r.num*r.num).natAbs.Coprime (r.den*r.den):=by
  rw[Int.natAbs_mul];have h:=r.reduced;exact Nat.Coprime.mul_right (Nat.Coprime.mul_left h h) (Nat.Coprime.mul_left h h)
 have a:r.den*r.den≠0:=Nat.mul_ne_zero r.den_nz r.den_nz;have h:=Rat.num_divInt_den (⟨r.num*r.num,r.den*r.den,a,hc⟩:Rat);have c:=Ok r r
 have h3:(⟨r.num*r.num,r.den*r.den,a,hc⟩:Rat)=r*r:=by
  rw[c,<-h];exact congrArg _ (Int.natCast_mul _ _)
 rw[<-h3];exact⟨rfl,rfl⟩
theorem Xt (n:Nat):Br (n*n)=n:=Xu (Nat.le_refl _) (by rw[Nat.add_mul,Nat.mul_add];omega)
theorem ag {r q:Rat} (c:0<=r) (h:r*r=q):((Br q.num.toNat:Nat):Int)=r.num/\r.num*r.num=q.num:=by
 have a:=(aU r).1;rw[h] at a;have g:0<=r.num:=Rat.num_nonneg.2 c;refine⟨?_,a.symm⟩;obtain⟨k,f⟩:=Int.eq_ofNat_of_zero_le g;rw[a,f];rw[show ((k:Int)*k).toNat=k*k by rw[<-Int.natCast_mul];rfl,Xt]
theorem af {r q:Rat} (c:0<=r) (h:r*r=q):((Br (q.den:Int).toNat:Nat):Int)=(r.den:Int)/\(r.den:Int)*r.den=(q.den:Int):=by
 have a:=(aU r).2;rw[h] at a;refine⟨?_,by rw[a];exact (Int.natCast_mul _ _).symm⟩;rw[a,Int.toNat_natCast,Xt]
theorem ae {q:Rat} (c:((Br q.num.toNat:Nat):Int)*((Br q.num.toNat:Nat):Int)=q.num) (a:((Br (q.den:Int).toNat:Nat):Int)*((Br (q.den:Int).toNat:Nat):Int)=(q.den:Int)):∃r:Rat,0<=r/\r*r=q:=by
 refine⟨Rat.divInt ((Br q.num.toNat:Nat):Int) ((Br (q.den:Int).toNat:Nat):Int),?_,?_⟩
 ·exact Rat.divInt_nonneg (Int.natCast_nonneg _) (Int.natCast_nonneg _)
 rw[Rat.divInt_mul_divInt,c,a,Rat.num_divInt_den]
def IC (b1:Bool) (l1:List UInt32) (b2:Bool) (l2:List UInt32):Bool:=Hh b1 l1&&(Hh b2 l2&&(!b2&&(decide (l2≠[])&&decide (Nat.gcd (AI l1) (AI l2)=1))))
theorem UM:IC b1 l1 b2 l2=true↔∃q,Bm q b1 l1 b2 l2:=by
 unfold IC;simp only[Bool.and_eq_true,Bool.not_eq_true',decide_eq_true_eq]
 constructor
 ·rintro⟨j,m,h3,v,c⟩
  obtain⟨x,g⟩:=Lo.1 j;obtain⟨y,a⟩:=Lo.1 m;have w:y≠0:=fun e=>v (a.nil.2 e)
  have f:=a.neg;rw[h3] at f;have C:¬y<0:=by simpa using f.symm
  rw[g.nat,a.nat] at c;refine⟨⟨x,y.natAbs,by omega,c⟩,g,?_⟩
  show BH ((y.natAbs:Nat):Int) b2 l2
  rw[show ((y.natAbs:Nat):Int)=y by omega];exact a
 rintro⟨q,h⟩
 refine⟨Lo.2 ⟨_,h.num⟩,Lo.2 ⟨_,h.den⟩,?_,fun e=>q.den_nz (by have:=h.den.nil.1 e;omega),?_⟩
 ·rw[h.den.neg];simp
 rw[h.num.nat,h.den.nat,Int.natAbs_natCast];exact q.reduced
def FQ (q:Rat):Int:=Cg q.num
def HA (p q:Rat):Int:=if p<q then -1 else if q<p then 1 else 0
end Go.Abs
namespace Go.Abs
open Go.RowKit
def rp (q:Rat):el AA:=((decide (q.num<0),AW q.num.natAbs),(decide ((q.den:Int)<0),AW q.den))
theorem HC (q:Rat):Bm q (rp q).1.1 (rp q).1.2 (rp q).2.1 (rp q).2.2:=⟨⟨rfl,rfl⟩,⟨rfl,rfl⟩⟩
theorem Bm.rp {q:Rat} {b1 b2:Bool} {l1 l2:List UInt32} (h:Bm q b1 l1 b2 l2):rp q=((b1,l1),(b2,l2)):=by
 have u:=h.uniq (HC q) rfl;rw[u.1.1,u.1.2,u.2.1,u.2.2]
abbrev BN (X:List Rat):List (el AA):=X.map rp
def Ex (X:List Rat):Prop:=∀q∈X,CQ q
structure NX (ts:List (List Rat)):Prop where
 small:∀x∈ts,Ex x
 RD:ts.length<=16
 form:∀i x,ts[i]? =some x->x.length=2^i
end Go.Abs
namespace Go.Abs
open Go.RowKit
noncomputable def em (u:List (List Rat)) (x:Re):List (el AA):=BN (co u x)
def tw (u:List (List Rat)):List (List (el AA)):=u.reverse.map BN
structure BJ (R:Nat) (u:List (List Rat)):Prop where
 red:Al u
 tb:TB R u
 hR:R<=60000000000000
 ht:u.length<=16
structure El (u:List (List Rat)) (s:Nat) (x:Re):Prop where
 mem:In u x
 bd:Bd s (co u x)
variable {R k n s t:Nat} {p x y:Re}
theorem X9 (h:n<=2^(2*k)) (c:k<=60000000000000):(AW n).length<=4000000000000:=by
 obtain⟨m,hm⟩:=xN 3999999999999;have a:n<2^(32*m):=Nat.lt_of_le_of_lt h (Nat.pow_lt_pow_right (by decide) (by omega));have:=Gw a;omega
theorem gT {q:Rat} {D:Nat} {n:Int} (h:q*D=n) (g:0<D):q.den<=D:=by
 have a:=LU q
 have c:((q.num*D:Int):Rat)=((n*q.den:Int):Rat):=by
  rw[Rat.intCast_mul,Rat.intCast_mul,<-h,<-a];have j:((D:Int):Rat)=(D:Rat):=rfl;have e2:((q.den:Int):Rat)=(q.den:Rat):=rfl
  grind
 have h3:q.num*D=n*q.den:=Rat.intCast_inj.1 c
 have f:q.den∣q.num.natAbs*D:=by
  refine⟨n.natAbs,?_⟩;have:=congrArg Int.natAbs h3;rw[Int.natAbs_mul,Int.natAbs_mul,Int.natAbs_natCast,Int.natAbs_natCast] at this;rw[this,Nat.mul_comm]
 exact Nat.le_of_dvd g ((Nat.Coprime.symm q.reduced).dvd_of_dvd_mul_left f)
theorem Bd.CM {a:List Rat} (h:Bd k a) (j:k<=60000000000000):Ex a:=by
 obtain⟨D,v,w,F,h3⟩:=h;intro q m;obtain⟨n,G⟩:=F q m;have g:q.den<=2^k:=Nat.le_trans (gT G v) w;have hb:=h3 q m
 have c:q.num.natAbs<=2^(2*k):=by
  have f:=R6 (C:=q.den) hb (q:=(q.den:Rat)) ⟨by have:(0:Rat)<=q.den:=Rat.natCast_nonneg;grind,by grind⟩;rw[LU] at f
  have e2:q.num.natAbs<=2^k*q.den:=by
   have H: -((2^k*q.den:Nat):Int)<=q.num:=by
    apply Rat.intCast_le_intCast.1;rw[Rat.intCast_neg];exact f.1
   have I:q.num<=((2^k*q.den:Nat):Int):=Rat.intCast_le_intCast.1 f.2;omega
  have:=Nat.mul_le_mul_left (2^k) g;rw[<-Nat.pow_add] at this;exact Nat.le_trans e2 (Nat.le_trans this (CW))
 exact⟨X9 c j,X9 (Nat.le_trans g (CW)) j⟩
theorem El.CM {u:List (List Rat)} (h:El u s x) (a:s<=60000000000000):Ex (co u x):=h.bd.CM a
theorem El.len {u:List (List Rat)} (h:El u s x):(co u x).length=2^u.length:=Cv h.mem
theorem Bk {u:List (List Rat)} (h:In u x):(em u x).length=2^u.length:=by rw[em,List.length_map,Cv h]
theorem CA (u:List (List Rat)):(tw u).length=u.length:=by rw[tw,List.length_map,List.length_reverse]
theorem De (h:n<=16:=by omega):2^n<=65536:=Nat.le_trans (CW h) (by decide)
theorem NM (r:List Rat) (u:List (List Rat)):tw (r::u)=tw u++[BN r]:=by rw[tw,List.reverse_cons,List.map_append];rfl
theorem EM (r:List Rat) (u:List (List Rat)):(tw (r::u)).take ((tw (r::u)).length-1)=tw u:=by
 rw[NM,List.length_append,CA];simp[List.take_left' (CA u)]
theorem GH (r:List Rat) (u:List (List Rat)):(tw (r::u))[(tw (r::u)).length-1]? =some (BN r):=by
 rw[NM,List.length_append,CA];simp[List.getElem?_append_right (Nat.le_of_eq (CA u))];rw[CA,Nat.sub_self];rfl
theorem FN {r:List Rat} {u:List (List Rat)} (h:Al (r::u)):BN r=em u (AP u r):=by rw[em,FL h]
theorem Cr {u:List (List Rat)} {r:List Rat} {q:Re} (h:Al (r::u)) (c:In u p) (f:In u q) (g:x=p+q*rt u r):(em (r::u) x).take ((em (r::u) x).length/2)=em u p:=by
 have a:In (r::u) x:=CZ.2 ⟨p,q,c,f,g⟩;rw[Bk a,B3,show (2^u.length+2^u.length)/2=2^u.length by omega,em,em,BN,BN,<-List.map_take,gQ h c f g]
theorem CV {u:List (List Rat)} {r:List Rat} {q:Re} (h:Al (r::u)) (c:In u p) (f:In u q) (g:x=p+q*rt u r):(em (r::u) x).drop ((em (r::u) x).length/2)=em u q:=by
 have a:In (r::u) x:=CZ.2 ⟨p,q,c,f,g⟩;rw[Bk a,B3,show (2^u.length+2^u.length)/2=2^u.length by omega,em,em,BN,BN,<-List.map_drop,gP h c f g]
theorem Fx {u:List (List Rat)} {r:List Rat} {q:Re} (h:Al (r::u)) (a:In u p) (c:In u q) (f:x=p+q*rt u r):em (r::u) x=em u p++em u q:=by
 rw[em,C4 h a c f,BN,List.map_append];rfl
theorem W4 {u:List (List Rat)} (h:Al u) (a:In u x) (c:In u y):em u (x+y)=BN (List.zipWith (· + ·) (co u x) (co u y)):=by rw[em,MJ h a c]
theorem W5 {u:List (List Rat)} (h:Al u) (a:In u x):em u (-x)=BN ((co u x).map (- ·)):=by rw[em,Ki h a]
theorem E8 (q:Rat):em [] (Re.ofRat q)=[rp q]:=by rw[em,Dl];rfl
theorem Qw {u:List (List Rat)} (h:Al u):em u 0=BN (List.replicate (2^u.length) 0):=by rw[em,Qo h]
theorem BJ.tail {r:List Rat} {u:List (List Rat)} (h:BJ R (r::u)):BJ R u:=⟨h.red.1,h.tb.tail,h.hR,by have:=h.ht;rw[List.length_cons] at this;omega⟩
theorem IV {α:Type} {l:List α} {i:Nat} {x:α} (h:l[i]? =some x):i<l.length:=by
 apply Classical.byContradiction;intro a;rw[List.getElem?_eq_none (by omega)] at h;exact absurd h (by simp)
theorem LW:∀{u:List (List Rat)},Al u->∀(i:Nat) (x:List Rat),u.reverse[i]? =some x->x.length=2^i
 | [],_,i,x,h=>by simp at h
 | r::u,a,i,x,h=>by
  rw[List.reverse_cons] at h
  by_cases f:i<u.length
  ·rw[List.getElem?_append_left (by rw[List.length_reverse];exact f)] at h;exact LW a.1 i x h
  rw[List.getElem?_append_right (by rw[List.length_reverse];omega),List.length_reverse] at h
  have c:i-u.length=0:=by
   have:=IV h;simp at this;omega
  rw[c] at h;have:r=x:=by simpa using h
  rw[<-this,a.2.1]
  congr 1;omega
theorem BJ.G3 {u:List (List Rat)} (h:BJ R u):NX u.reverse:=
 ⟨fun x a=>(h.tb x (List.mem_reverse.1 a)).CM h.hR,by rw[List.length_reverse];exact h.ht,LW h.red⟩
theorem El.DK {r:List Rat} {u:List (List Rat)} (h:BJ R (r::u)):El u R (AP u r):=⟨B6 h.red,QS h.red h.tb⟩
theorem El.parts {u:List (List Rat)} {r:List Rat} (h:Al (r::u)) (f:El (r::u) s x):∃p q,x=p+q*rt u r/\El u s p/\El u s q:=by
 obtain⟨p,q,a,c,rfl⟩:=CZ.1 f.mem;have:=V6 h a c f.bd;exact⟨p,q,rfl,⟨a,this.1⟩,⟨c,this.2⟩⟩
theorem El.mono {u:List (List Rat)} (h:El u s x) (a:s<=t):El u t x:=⟨h.mem,h.bd.mono a⟩
theorem El.add {u:List (List Rat)} (h:Al u) (a:El u s x) (c:El u t y):El u (s+t+1) (x+y):=⟨DP a.mem c.mem,Vz h a.mem c.mem a.bd c.bd⟩
theorem El.sub {u:List (List Rat)} (h:Al u) (a:El u s x) (c:El u t y):El u (s+t+1) (x-y):=⟨Fi a.mem c.mem,fh h a.mem c.mem a.bd c.bd⟩
theorem El.neg {u:List (List Rat)} (h:Al u) (a:El u s x):El u s (-x):=⟨Gu a.mem,V7 h a.mem a.bd⟩
theorem El.mul {u:List (List Rat)} (h:BJ R u) (a:El u s x) (c:El u t y):El u (s+t+EE u.length R) (x*y):=⟨BD h.red a.mem c.mem,fe h.red h.tb a.mem c.mem a.bd c.bd⟩
theorem El.norm {u:List (List Rat)} {r:List Rat} {q:Re} (h:BJ R (r::u)) (a:In u p) (c:In u q) (f:El (r::u) s (p+q*rt u r)):El u (2*s+2*EE u.length R+R+1) (p*p-q*q*AP u r):=
 ⟨Fi (BD h.red.1 a a) (BD h.red.1 (BD h.red.1 c c) (B6 h.red)),V8 h.red h.tb a c f.bd⟩
theorem El.inv {u:List (List Rat)} (h:BJ R u) (a:El u s x) (c:In u y) (e:x*y=1):El u (II u.length R s) y:=⟨c,IS h.red h.tb a.mem c e a.bd⟩
theorem El.sqrt {u:List (List Rat)} {w:Re} (h:BJ R u) (a:El u s x) (hw:In u w) (e:w*w=x):El u (s+GG u.length R) w:=⟨hw,QT h.red h.tb hw e a.bd⟩
theorem El.rat {u:List (List Rat)} {q:Rat} (h:Al u) (a:Bd s [q]):El u s (Re.ofRat q):=⟨HS q u,ff h a⟩
theorem FT:∀(h R s:Nat),2*s<=II h R s
 | 0,_,_=>Nat.le_refl _
 | h+1,R,s=>by
  have:=FT h R (2*s+2*EE h R+R+1);rw[II];omega
theorem Ym {u:List (List Rat)} {r:List Rat} {q:Re} (h:Al (r::u)) (f:In u p) (g:In u q) (a:p+q*rt u r≠0):p*p-q*q*AP u r≠0:=by
 intro j;have w:=Ct h;have c:(p+q*rt u r)*(p-q*rt u r)=0:=by grind
 rcases Re.Gf c with e2 | e2
 ·exact a e2
 obtain⟨m,v⟩:=indep h f (Gu g) (CK u) (CK u) (show p+ -q*rt u r=0+0*rt u r by grind);exact a (by grind)
theorem L7:Bd 1 [(1/2:Rat)]:=by
 refine⟨2,by decide,by decide,fun q a=>⟨1,?_⟩,fun q a=>?_⟩
 ·rw[List.mem_singleton.1 a];decide +kernel
 rw[List.mem_singleton.1 a];decide +kernel
theorem G7:Bd 0 [(0:Rat)]:=⟨1,by decide,by decide,fun q a=>⟨0,by rw[List.mem_singleton.1 a];decide +kernel⟩,fun q a=>by rw[List.mem_singleton.1 a];decide +kernel⟩
theorem fY:Bd 0 [(1:Rat)]:=⟨1,by decide,by decide,fun q a=>⟨1,by rw[List.mem_singleton.1 a];decide +kernel⟩,fun q a=>by rw[List.mem_singleton.1 a];decide +kernel⟩
end Go.Abs
