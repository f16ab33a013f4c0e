/- Part 18 of a proof. Conditions: each theorem's own. -/
import Derived.Test.YtmhbikooakmagaaGreatRk15
import Derived.Test.YtmhbikooakmagaaGreatRk16
set_option linter.all false
set_option maxHeartbeats 8000000
set_option maxRecDepth 20000
open Go.Proofs
namespace Go.Abs
open Go.RowKit
variable {A B C:LR} {R s t:Nat} {T:List LR} {p x y:Re} {q:Rat} {r:List Rat} {u:List (List Rat)}
theorem Xt {q:Re} (h:Ae R (r::u)) (L:T=tw (r::u)) (J:A=em (r::u) x) (M:El (r::u) s x) (I:x=p+q*rt u r) (F:In u p) (H:In u q) (hs:2*s+2*EE u.length R+R+1<=60000000000000) (K:C=em u (p*p-q*q*AM u r)):CF 347 [.one (.sl (.sl AA) T),.one (.sl AA A)] (.one (.sl AA C)):=by
 have G:=Ui h.red F H (I ▸ M.bd);have D:El u s p:=⟨F,G.1⟩;have i:El u s q:=⟨H,G.2⟩;have z:=El.Cv h;have hR:=h.hR;refine AJ Tryz.func347 fun E w=>?_
 conv=>cbv
 obtain⟨N,d⟩:=xV (tw u);obtain⟨O,j⟩:=xR (Aa r);refine AB w (Sc L d j) ?_;conv=>cbv
 obtain⟨P,f⟩:=xR (em u p);obtain⟨Q,g⟩:=xR (em u q);refine AB w (OB h.red D.mem i.mem I J f g) ?_;conv=>cbv
 obtain⟨S,k⟩:=xR (em u (p*p));refine AB w (L0 h.tail d f f D D (by omega) k) ?_;conv=>cbv
 obtain⟨U,m⟩:=xR (em u (q*q));refine AB w (L0 h.tail d g g i i (by omega) m) ?_;conv=>cbv
 obtain⟨V,n⟩:=xR (em u (q*q*AM u r));refine AB w (L0 h.tail d m (j.trans (EG h.red)) (i.mul h.tail i) z (by omega) n) ?_;conv=>cbv
 obtain⟨W,o⟩:=xR (em u (-(q*q*AM u r)));refine AB w (OY h.tail n ((i.mul h.tail i).mul h.tail z) (by omega) o) ?_;conv=>cbv
 obtain⟨X,v⟩:=xR (em u (p*p+ -(q*q*AM u r)));refine AB w (NO h.tail k o (D.mul h.tail D) (((i.mul h.tail i).mul h.tail z).neg h.red.1) (by omega) (by omega) v) ?_;conv=>cbv
 exact AD ⟨⟨rfl,congrArg _ (by rw[K,v];congr 1),trivial⟩,trivial⟩
theorem il {p:Rat} (N:T=[]) (F:A=[rp p]) (M:B=[rp q]) (hs:Bu p) (w:p≠0) (z:q=1/p):CF 295 [.one (.sl (.sl AA) T),.one (.sl AA A)] (.AG [(false,[.sl AA B]),(false,[.bool true])]):=by
 refine AJ Tryz.func295 fun E G=>?_
 conv=>cbv
 rintro n15 ⟨v,f15⟩;conv=>cbv
 intro n16 h;conv=>cbv
 cases n16 <;> conv=>cbv
 ·have j:=Ah h;exact absurd (by rw[v,N];rfl) j
 have j:=Aj h;obtain⟨J,K,H,I,f⟩:=Be (((1:Int):Rat));refine AB G (G4 (by omega) rfl f) ?_;conv=>cbv
 have L:A.length=1:=by rw[F];rfl
 obtain⟨D,d⟩:=AK (l:=A) (i:=0) (by omega);refine⟨D,fun _=>⟨by omega,d⟩,?_⟩;try conv=>cbv
 have O:=Eh F d;obtain⟨n,o,k,m,g⟩:=Be q;refine AB G (bf f O ⟨by decide +kernel,by decide +kernel⟩ hs w z g) ?_;conv=>cbv
 refine g2 rfl ?_;refine⟨[((n,o),(k,m))],fun _=>⟨rfl,by decide,rfl,⟨rfl,by first | exact t1 | exact t2 | exact t4 | simp[Ao,BA,cells],trivial⟩⟩,.inl ?_⟩;try conv=>cbv
 refine Bc ?_;conv=>cbv
 exact AD ⟨⟨rfl,.inl ⟨_,rfl,by simp,congrArg _ (by rw[M,g.rp];rfl)⟩,trivial⟩,t2,trivial⟩
def TE (f:FuncId) (R:Nat) (u:List (List Rat)):Prop:=∀{T:List LR} {A B:LR} {s:Nat} {x y:Re},T=tw u->A=em u x->El u s x->In u y->x*y=1->II u.length R s<=60000000000000->B=em u y->
 CF f [.one (.sl (.sl AA) T),.one (.sl AA A)] (.AG [(false,[.sl AA B]),(false,[.bool true])])
def oy (f:FuncId) (u:List (List Rat)):Prop:=∀{T:List LR} {A:LR},T=tw u->A=em u 0->
 ∃l,CF f [.one (.sl (.sl AA) T),.one (.sl AA A)] (.AG [(false,[.sl AA l]),(false,[.bool false])])
theorem iv {q i:Re} (h:Ae R (r::u)) (ih:TE 295 R u) (S:T=tw (r::u)) (W:A=em (r::u) x) (hx:El (r::u) s x) (I:x=p+q*rt u r) (K:El u s p) (H:El u s q) (hi:In u i) (M:(p*p-q*q*AM u r)*i=1) (hy:y=p*i+ -(q*i)*rt u r) (hs:II (r::u).length R s<=60000000000000) (hB:B=em (r::u) y):CF 295 [.one (.sl (.sl AA) T),.one (.sl AA A)] (.AG [(false,[.sl AA B]),(false,[.bool true])]):=by
 have a7:II (r::u).length R s=s+EE u.length R+II u.length R (2*s+2*EE u.length R+R+1):=rfl;have X:=El.norm h K.mem H.mem (I ▸ hx);have d:=X.inv h.tail hi M;have a1:=ET u.length R (2*s+2*EE u.length R+R+1);refine AJ Tryz.func295 fun E G=>?_
 conv=>cbv
 rintro n15 ⟨a6,f15⟩;conv=>cbv
 intro n16 L;conv=>cbv
 cases n16 <;> conv=>cbv
 ·have U:=Ah L;obtain⟨a8,f⟩:=xV (tw u);obtain⟨aa,Q⟩:=xR (Aa r);refine AB G (Sc S f Q) ?_;conv=>cbv
  obtain⟨ab,v⟩:=xR (em u (p*p-q*q*AM u r));refine AB G (Xt h S W hx I K.mem H.mem (by omega) v) ?_;conv=>cbv
  obtain⟨ad,g⟩:=xR (em u i);refine AB G (ih f v X hi M (by omega) g) ?_;conv=>cbv
  refine AU ?_;conv=>cbv
  obtain⟨ae,w⟩:=xR (em u p);obtain⟨af,z⟩:=xR (em u q);refine AB G (OB h.red K.mem H.mem I W w z) ?_;conv=>cbv
  obtain⟨n,j⟩:=xR (em u (p*i));obtain⟨a5,k⟩:=xN n.length;refine AB G (mulC h.tail f w g K d (by omega) j k) ?_;conv=>cbv
  obtain⟨ag,D⟩:=xR (em u (q*i));refine AB G (L0 h.tail f z g H d (by omega) D) ?_;conv=>cbv
  obtain⟨o,m⟩:=xR (em u (-(q*i)));refine AB G (OY h.tail D (H.mul h.tail d) (by omega) m) ?_;conv=>cbv
  have Y:n.length=2^u.length:=by rw[j,BJ (K.mul h.tail d).mem]
  have Z:o.length=2^u.length:=by rw[m,BJ ((H.mul h.tail d).neg h.red.1).mem]
  have a2:=DD h.tail.ht;refine .inl ⟨o,fun _=>⟨rfl,k,rfl,by show (n.length+o.length)*64<=140737488355328;(try simp only[List.length_take,List.length_drop]);omega⟩,?_⟩;intro (J:LR) V F;have O:J=(n:LR)++(o:LR):=F.1;have P:V=List.length (α:=(el AA)) J:=F.2;conv=>cbv
  have N:B=J:=by rw[hB,O,j,m];exact En h.red (K.mul h.tail d).mem ((H.mul h.tail d).neg h.red.1).mem hy
  exact AD ⟨⟨rfl,.inl ⟨_,rfl,by omega,congrArg _ (by rw[N,P,List.drop_zero,List.take_length])⟩,trivial⟩,t2,trivial⟩
 have U:=Aj L;exact absurd (List.length_eq_zero_iff.1 (by omega)) (S ▸ K4 r u)
theorem ik (h:Ae R u):TE 295 R u:=by
 induction u with
 | nil=>
  intro T A B s x y w m j D d hs n;obtain⟨p,rfl⟩:=CN.1 j.mem;obtain⟨q,rfl⟩:=CN.1 D;rw[Dx] at m n;rw[<-Re.ofRat_mul] at d;have e:=Re.E0.1 d;have g:=j.Bh (by have:=ET 0 R s;have:II ([]:List (List Rat)).length R s=II 0 R s:=rfl;omega);rw[CQ] at g;exact il w m n (g _ List.mem_cons_self) (by intro F;subst F;grind) (by grind)
 | cons r u o=>
  intro T A B s x y w m j D d hs n;obtain⟨p,q,f,g,z⟩:=El.parts h.red j;have I:=Cb h.red;have G:=El.norm h g.mem z.mem (f ▸ j);have v:p*p-q*q*AM u r≠0:=Xs h.red g.mem z.mem (by intro e;rw[<-f] at e;rw[e] at d;have H:(0:Re)<1:=Re.HO.2 (show (0:Rat)<1 by decide);grind);obtain⟨i,hi,k⟩:=Eg h.red.1 G.mem v;refine iv h (o h.tail) w m j f g z hi k ?_ hs n
  have:y=x*y*((p-q*rt u r)*i):=by
   have:x*y*((p-q*rt u r)*i)=y*((p*p-q*q*AM u r)*i):=by rw[f];clear o;grind
   rw[this,k];clear o;grind
  rw[d] at this
  clear o;grind
theorem Jc (h:Ae R u) (m:T=tw u) (g:A=em u x) (i:B=em u y) (d:El u s x) (f:El u t y) (hs:s<=60000000000000) (ht:t<=60000000000000) (k:C=em u (x+y)):CF 229 [.one (.sl (.sl AA) T),.one (.sl AA A),.one (.sl AA B)] (.one (.sl AA C)):=by
 refine AJ Tryz.func229 fun E j=>?_
 conv=>cbv
 refine AB (r:= .one (.bool true)) j (Qm m h.Fj g (d.Bh (by omega)) (by rw[d.len,List.length_reverse]) i (f.Bh (by omega)) (by rw[f.len,List.length_reverse])) ?_;conv=>cbv
 refine AU ?_;conv=>cbv
 refine AB j (NO h g i d f hs ht k) ?_;conv=>cbv
 exact AD ⟨t2,trivial⟩
theorem M5 (h:Ae R u) (n:T=tw u) (j:A=em u x) (k:B=em u y) (i:El u s x) (f:El u t y) (hs:s<=60000000000000) (ht:t<=60000000000000) (m:C=em u (x-y)):CF 261 [.one (.sl (.sl AA) T),.one (.sl AA A),.one (.sl AA B)] (.one (.sl AA C)):=by
 refine AJ Tryz.func261 fun E g=>?_
 conv=>cbv
 refine AB (r:= .one (.bool true)) g (Qm n h.Fj j (i.Bh (by omega)) (by rw[i.len,List.length_reverse]) k (f.Bh (by omega)) (by rw[f.len,List.length_reverse])) ?_;conv=>cbv
 refine AU ?_;conv=>cbv
 obtain⟨o,d⟩:=xR (em u (-y));refine AB g (OY h k f ht d) ?_;conv=>cbv
 refine AB (r:= .one (.sl AA C)) g (NO h j d i (f.neg h.red) hs ht (by rw[m];congr 1)) ?_;try conv=>cbv
 exact AD ⟨t2,trivial⟩
theorem G3 (h:Ae R u) (m:T=tw u) (i:A=em u x) (j:B=em u y) (f:El u s x) (g:El u t y) (d:s+t+EE u.length R<=60000000000000) (n:C=em u (x*y)):CF 227 [.one (.sl (.sl AA) T),.one (.sl AA A),.one (.sl AA B)] (.one (.sl AA C)):=by
 refine AJ Tryz.func227 fun E k=>?_
 conv=>cbv
 refine AB (r:= .one (.bool true)) k (Qm m h.Fj i (f.Bh (by omega)) (by rw[f.len,List.length_reverse]) j (g.Bh (by omega)) (by rw[g.len,List.length_reverse])) ?_;conv=>cbv
 refine AU ?_;conv=>cbv
 refine AB k (L0 h m i j f g d n) ?_;conv=>cbv
 exact AD ⟨t2,trivial⟩
theorem TP (h:Ae R u) (j:T=tw u) (f:A=em u x) (d:El u s x) (hs:s<=60000000000000) (i:C=em u (-x)):CF 337 [.one (.sl (.sl AA) T),.one (.sl AA A)] (.one (.sl AA C)):=by
 refine AJ Tryz.func337 fun E g=>?_
 conv=>cbv
 refine AB (r:= .one (.bool true)) g (G0 j h.Fj f (d.Bh (by omega)) (by rw[d.len,List.length_reverse];exact (decide_eq_true rfl).symm)) ?_;try conv=>cbv
 refine AU ?_;conv=>cbv
 refine AB g (OY h f d hs i) ?_;conv=>cbv
 exact AD ⟨t2,trivial⟩
theorem Mx (h:Ae R u) (j:T=tw u) (g:A=em u x) (d:El u s x) (n:In u y) (f:x*y=1) (hs:II u.length R s<=60000000000000) (k:C=em u y):CF 223 [.one (.sl (.sl AA) T),.one (.sl AA A)] (.AG [(false,[.sl AA C]),(false,[.int .i64 0])]):=by
 have m:=ET u.length R s;refine AJ Tryz.func223 fun E i=>?_
 conv=>cbv
 refine AB (r:= .one (.bool true)) i (G0 j h.Fj g (d.Bh (by omega)) (by rw[d.len,List.length_reverse];exact (decide_eq_true rfl).symm)) ?_;try conv=>cbv
 refine AU ?_;conv=>cbv
 refine AB i (ik h j g d n f hs k) ?_;conv=>cbv
 refine AU ?_;conv=>cbv
 exact AD ⟨t2,t2,trivial⟩
theorem PZ {q:Re} (h:Ae R (r::u)) (f:T=tw (r::u)) (o:A=em (r::u) x) (j:El (r::u) s x) (k:x=p+q*rt u r) (g:In u p) (i:In u q) (hs:2*s+2*EE u.length R+R+1<=60000000000000) (z:C=em u (p*p-q*q*AM u r)):CF 331 [.one (.sl (.sl AA) T),.one (.sl AA A)] (.one (.sl AA C)):=by
 refine AJ Tryz.func331 fun E v=>?_
 conv=>cbv
 refine AB (r:= .one (.bool true)) v (G0 f h.Fj o (j.Bh (by omega)) (by rw[j.len,List.length_reverse];exact (decide_eq_true rfl).symm)) ?_;try conv=>cbv
 refine AU ?_;conv=>cbv
 rintro D ⟨w,f11⟩;conv=>cbv
 intro n d;conv=>cbv
 cases n <;> conv=>cbv
 ·have m:=Ah d;refine AB v (Xt h f o j k g i hs z) ?_;conv=>cbv
  exact AD ⟨t2,trivial⟩
 have m:=Aj d;exact absurd (List.length_eq_zero_iff.1 (by omega)) (f ▸ K4 r u)
theorem mH {n:Nat} (h:0<n):(List.replicate n (rp 0)).set 0 (rp q)=rp q::List.replicate (n-1) (rp 0):=by
 cases n with
 | zero=>omega
 | succ n=>rfl
theorem V4 (h:AT u):em u (Re.ofRat q)=(em u 0).set 0 (rp q):=by
 rw[em,Hh q h,Qc h,Aa,Aa,List.map_cons,List.map_replicate,List.map_replicate,mH (De _)]
theorem V6 (h:AT (r::u)):em (r::u) (rt u r)=(em (r::u) 0).set (2^u.length) (rp 1):=by
 have e:rt u r=0+1*rt u r:=by grind
 rw[En h (Bx u) (OD u) e,En (x:=0) h (Bx u) (Bx u) (by grind),List.set_append_right _ _ (by rw[BJ (Bx u)];omega),BJ (Bx u),Nat.sub_self]
 congr 1
 exact V4 (q:=1) h.1
theorem Iw {b1 b2:Bool} {l1 l2:List UInt32} (h:Ae R u) (F:T=tw u) (w:BH q b1 l1 b2 l2) (hs:Bu q) (J:C=em u (Re.ofRat q)):CF 330 [.one (.sl (.sl AA) T),.agg (BS b1 l1 b2 l2)] (.one (.sl AA C)):=by
 refine AJ Tryz.func330 fun E o=>?_
 conv=>cbv
 refine AB o (R7 F h.Fj rfl) ?_;conv=>cbv
 refine AU ?_;conv=>cbv
 have L:=w.small hs;refine AB o (TV (PE.2 ⟨q,w⟩).symm (by omega) (by omega)) ?_;conv=>cbv
 refine AU ?_;conv=>cbv
 have v:T.length=u.length:=by rw[F,Bb]
 have k:=h.ht;rintro n15 ⟨n,f15⟩;conv=>cbv
 intro n16 k;conv=>cbv
 refine AH ?_;obtain⟨f,d⟩:=xR (em u (0));obtain⟨I,i⟩:=xN f.length;refine AB o (PL h (Dt k (n.trans (congrArg _ v))) d i) ?_;conv=>cbv
 have H:f.length=2^u.length:=by rw[d,BJ (Bx u)]
 have K:=De u.length;refine AH ?_;intro z G;conv=>cbv
 refine⟨((b1,l1),(b2,l2)),fun _=>⟨by show _<List.length (α:=(el AA)) f;(first | omega | (simp;omega)),by first | exact t1 | exact t2 | exact t4 | simp[Ao,BA,cells]⟩,?_⟩;intro (j:LR) (g:j=List.set (α:=(el AA)) f z (((b1,l1),(b2,l2))));have D:j.length=f.length:=by rw[g,List.length_set]
 conv=>cbv
 have m:C=j:=by rw[J,V4 h.red,g,d,w.rp];congr 1;omega
 exact AD ⟨⟨rfl,.inl ⟨_,rfl,by omega,congrArg _ (by rw[m,List.drop_zero,List.take_of_length_le (by omega)])⟩,trivial⟩,trivial⟩
theorem bx {k:Int} (h:Ae R (r::u)) (Q:T=tw (r::u)) (hk:AO k u.length) (hC:C=em (r::u) (rt u r)):CF 308 [.one (.sl (.sl AA) T),.one (.int .i64 k)] (.one (.sl AA C)):=by
 have Z:=hk.eq;have M:T.length=u.length+1:=by rw[Q,Bb];rfl
 have a1:=h.ht;have S:(r::u).length=u.length+1:=rfl;refine AJ Tryz.func308 fun E L=>?_
 conv=>cbv
 refine AB L (R7 Q h.Fj rfl) ?_;conv=>cbv
 refine AU ?_;conv=>cbv
 intro O z;conv=>cbv
 cases O <;> conv=>cbv
 ·have G:=AW z;rintro n16 ⟨Y,f16⟩;conv=>cbv
  intro n17 D;conv=>cbv
  cases n17 <;> conv=>cbv
  ·have H:=EI D;rintro n20 ⟨I,f20⟩;conv=>cbv
   intro n21 J;conv=>cbv
   refine AH ?_;obtain⟨f,d⟩:=xR (em (r::u) (0));obtain⟨X,v⟩:=xN f.length;refine AB L (PL h (Dt J (I.trans (congrArg _ M))) d v) ?_;conv=>cbv
   intro n25 K;conv=>cbv
   refine AH ?_;obtain⟨n,o,j,m,i⟩:=Be (((1:Int):Rat));refine AB L (G4 (by omega) rfl i) ?_;conv=>cbv
   have V:f.length=2^(r::u).length:=by rw[d,BJ (Bx _)]
   have a5:=De u.length;have a2:=Bk r u;have W:=(Dt K Z).eq;refine AH ?_;intro N U;conv=>cbv
   refine⟨((n,o),(j,m)),fun _=>⟨by show _<List.length (α:=(el AA)) f;(first | omega | (simp;omega)),by first | exact t1 | exact t2 | exact t4 | simp[Ao,BA,cells]⟩,?_⟩;intro (w:LR) (g:w=List.set (α:=(el AA)) f N (((n,o),(j,m))));have P:w.length=f.length:=by rw[g,List.length_set]
   conv=>cbv
   refine g2 rfl ?_;have F:C=w:=by rw[hC,V6 h.red,g,d];congr 1 <;> first | omega | exact i.rp
   exact AD ⟨⟨rfl,.inl ⟨_,rfl,by omega,congrArg _ (by rw[F,List.drop_zero,List.take_of_length_le (by omega)])⟩,trivial⟩,trivial⟩
  have H:=EJ D;exact absurd H (by omega)
 have G:=AY z;exact absurd G (by omega)
end Go.Abs
namespace Go.Abs
open Go.RowKit
variable {a b:Nat} {b1 b2 c c1 c2 d1 d2:Bool} {k1 k2 l l' l1 l2 m1 m2:List UInt32} {r:Rat} {x y:Int}
theorem OU (p q:Rat):(p*q).num=(p.num/((Nat.gcd p.num.natAbs q.den:Nat):Int))*(q.num/((Nat.gcd q.num.natAbs p.den:Nat):Int)):=by
 show (Rat.mul p q).num=_
 unfold Rat.mul
 dsimp only
 rw[Int.divExact_eq_ediv,Int.divExact_eq_ediv]
theorem OT (p q:Rat):((p*q).den:Int)=((p.den:Int)/((Nat.gcd q.num.natAbs p.den:Nat):Int))*((q.den:Int)/((Nat.gcd p.num.natAbs q.den:Nat):Int)):=by
 have:(p*q).den=(p.den/Nat.gcd q.num.natAbs p.den)*(q.den/Nat.gcd p.num.natAbs q.den):=by
  show (Rat.mul p q).den=_
  unfold Rat.mul
  dsimp only
  rw[Nat.divExact_eq_div,Nat.divExact_eq_div]
 rw[this,Int.natCast_mul,Int.natCast_ediv,Int.natCast_ediv]
theorem UM (p q:Rat) (h:Nat.gcd p.den q.den=1):(p+q).num=p.num*q.den+q.num*p.den/\((p+q).den:Int)=(p.den:Int)*q.den:=by
 have:(p+q)=Rat.add p q:=rfl;rw[this];unfold Rat.add
 dsimp only
 rw[dif_pos h];exact⟨rfl,by rw[Int.natCast_mul]⟩
theorem UN (p q:Rat) {g h:Nat} {N:Int} (i:g=Nat.gcd p.den q.den) (m:g≠1) (v:x=(p.den:Int)/g) (w:y=(q.den:Int)/g) (n:N=p.num*y+q.num*x) (k:h=Nat.gcd N.natAbs g):
  (p+q).num=N/h/\((p+q).den:Int)=x*((q.den:Int)/h):=by
 have e:(p+q)=Rat.add p q:=rfl;have d:x=((p.den/g:Nat):Int):=by rw[v,Int.natCast_ediv]
 have j:y=((q.den/g:Nat):Int):=by rw[w,Int.natCast_ediv]
 have f:p.num*((q.den/Nat.gcd p.den q.den:Nat):Int)+q.num*((p.den/Nat.gcd p.den q.den:Nat):Int)=N:=by rw[n,d,j,i]
 have o:h∣q.den:=by rw[k];exact Nat.dvd_trans (Nat.gcd_dvd_right _ _) (by rw[i];exact Nat.gcd_dvd_right _ _)
 subst i;rw[e];unfold Rat.add
 dsimp only
 rw[dif_neg m,Rat.maybeNormalize_eq]
 dsimp only
 rw[Int.divExact_eq_ediv,f,<-k];refine⟨rfl,?_⟩;rw[d,Nat.mul_div_assoc _ o,Int.natCast_mul,Int.natCast_ediv (q.den)]
theorem Ef {a:Int} (hb:b≠0):a=a/((Nat.gcd a.natAbs b:Nat):Int)*((Nat.gcd a.natAbs b:Nat):Int)/\(b:Int)=(b:Int)/((Nat.gcd a.natAbs b:Nat):Int)*((Nat.gcd a.natAbs b:Nat):Int):=by
 exact⟨(Int.ediv_mul_cancel (Int.ofNat_dvd_left.2 (Nat.gcd_dvd_left _ _))).symm,(Int.ediv_mul_cancel (Int.natCast_dvd_natCast.2 (Nat.gcd_dvd_right _ _))).symm⟩
theorem EU (hb:b≠0):((Nat.gcd a b:Nat):Int)≠0:=by
 have:=Nat.gcd_pos_of_pos_right a (n:=b) (by omega);omega
theorem Fh {q:Int} {b b':Bool} (f:Ad x b l) (d:Ad q b' l') (g:y≠0) (h:x=q*y):l'.length<=l.length:=by
 rw[f.BC,d.BC];exact D1 (by rw[h,Int.natAbs_mul];exact Nat.le_mul_of_pos_right _ (by omega))
theorem GF {x:Int} {d:Bool} (hb:b≠0) (h:Ad (b:Int) c l) (h':Ad ((Nat.gcd a b:Nat):Int) d l'):l'.length<=l.length:=by
 rw[h.BC,h'.BC,Int.natAbs_natCast,Int.natAbs_natCast];exact D1 (Nat.le_of_dvd (by omega) (Nat.gcd_dvd_right _ _))
theorem H8 {b:Bool} (h:Ad x b l) (k:c=decide (x=1)):CF 342 [.agg (BD b l)] (.one (.bool c)):=by
 refine AJ Tryz.func342 fun E H=>?_
 conv=>cbv
 rintro I ⟨G,f5⟩;conv=>cbv
 intro F v;conv=>cbv
 cases F <;> conv=>cbv
 ·have z:=Ah v;exact AD ⟨⟨rfl,congrArg _ (by rw[k];exact (YK h (by omega)).symm),trivial⟩,trivial⟩
 have z:=Aj v;obtain⟨o,d⟩:=AK (l:=l) (i:=0) (by omega);refine⟨o,fun _=>⟨by omega,d⟩,?_⟩;try conv=>cbv
 intro D f;have w:=f.eq;have f11:=f.lt;conv=>cbv
 intro n g;conv=>cbv
 cases n <;> conv=>cbv
 ·have m:=Ah g;exact AD ⟨⟨rfl,congrArg _ (by rw[k];cases b with | true=>exact (Rp h rfl).symm | false=>rw[<-Rr h rfl (by omega) d];simp only[decide_eq_false_iff_not];omega),trivial⟩,trivial⟩
 have m:=Aj g;intro n17 j;conv=>cbv
 exact AD ⟨⟨rfl,congrArg _ (by rw[k,j];cases b with | true=>exact (Rp h rfl).symm | false=>rw[<-Rr h rfl (by omega) d];simp;omega),trivial⟩,trivial⟩
theorem ED {q:Int} {b3:Bool} {l3:List UInt32} (i:Ad x b1 l1) (j:Ad y b2 l2) (f:y≠0) (d:x=q*y) (h:Ad q b3 l3) (s1:l1.length<=17592186043000) (s2:l2.length<=17592186043000):CF 298 [.agg (BD b1 l1),.agg (BD b2 l2)] (.agg (BD b3 l3)):=by
 refine AJ Tryz.func298 fun E g=>?_
 conv=>cbv
 refine AB g (cK i j f d h s1 s2) ?_;conv=>cbv
 exact AD ⟨t3,trivial⟩
theorem Ej {q:Rat} (j: -9223372036854775808<=x/\x<9223372036854775808) (g:q=(x:Rat)) (h:BH q c1 m1 c2 m2):CF 182 [.one (.int .i64 x)] (.agg (BS c1 m1 c2 m2)):=by
 refine AJ Tryz.func182 fun E i=>?_
 conv=>cbv
 obtain⟨k,n,d⟩:=Ac (x);refine AB i (M9 j d) ?_;conv=>cbv
 obtain⟨m,o,f⟩:=Ac (1);refine AB i (M9 (by omega) f) ?_;conv=>cbv
 exact AD ⟨⟨rfl,congrArg _ ((d.uniq h.num (by rw[g];rfl)).1.symm),congrArg _ ((d.uniq h.num (by rw[g];rfl)).2.symm),congrArg _ ((f.uniq h.den (by rw[g];rfl)).1.symm),congrArg _ ((f.uniq h.den (by rw[g];rfl)).2.symm),trivial⟩,trivial⟩
theorem Tp {q:Rat} {c:Int} (h:BH q b1 l1 b2 l2) (g:c=DR q):CF 243 [.agg (BS b1 l1 b2 l2)] (.one (.int .i64 c)):=by
 refine AJ Tryz.func243 fun E f=>?_
 conv=>cbv
 obtain⟨i,d⟩:=xI (CE q.num);refine AB f (I3 h.num d) ?_;conv=>cbv
 exact AD ⟨⟨rfl,congrArg _ (by rw[g,d];rfl),trivial⟩,trivial⟩
theorem cg {q p:Rat} (h:BH q b1 l1 b2 l2) (f:p= -q) (g:BH p c1 m1 c2 m2):CF 293 [.agg (BS b1 l1 b2 l2)] (.agg (BS c1 m1 c2 m2)):=by
 refine AJ Tryz.func293 fun E i=>?_
 conv=>cbv
 obtain⟨j,k,d⟩:=Ac (-q.num);refine AB i (LH h.num d) ?_;conv=>cbv
 refine g2 rfl ?_;exact AD ⟨⟨rfl,congrArg _ ((d.uniq g.num (by rw[f];rfl)).1.symm),congrArg _ ((d.uniq g.num (by rw[f];rfl)).2.symm),congrArg _ ((h.den.uniq g.den (by rw[f];rfl)).1.symm),congrArg _ ((h.den.uniq g.den (by rw[f];rfl)).2.symm),trivial⟩,trivial⟩
theorem LI {p q:Rat} {c:Int} (f:BH p b1 l1 b2 l2) (g:BH q c1 m1 c2 m2) (hs:Bu p) (ht:Bu q) (w:c=Fq p q):CF 28 [.agg (BS b1 l1 b2 l2),.agg (BS c1 m1 c2 m2)] (.one (.int .i64 c)):=by
 refine AJ Tryz.func28 fun E m=>?_
 conv=>cbv
 obtain⟨o,v,i⟩:=Ac (p.num*q.den);refine AB (r:= .agg [.bool o,.sl .u32 v]) m (DX f.num g.den i (by have:=f.small hs;have:=g.small ht;omega) (by have:=f.small hs;have:=g.small ht;omega)) ?_;try conv=>cbv
 obtain⟨j,k,d⟩:=Ac (q.num*p.den);refine AB (r:= .agg [.bool j,.sl .u32 k]) m (DX g.num f.den d (by have:=f.small hs;have:=g.small ht;omega) (by have:=f.small hs;have:=g.small ht;omega)) ?_;try conv=>cbv
 obtain⟨n,h⟩:=xI (BV (p.num*q.den) (q.num*p.den));refine AB (r:= .one (.int .i64 n)) m (cJ i d h (by have:=f.small hs;have:=g.small ht;have:=f.num.DJ g.den i rfl;omega) (by have:=f.small hs;have:=g.small ht;have:=g.num.DJ f.den d rfl;omega)) ?_;try conv=>cbv
 refine g2 rfl ?_;exact AD ⟨⟨rfl,congrArg _ (by rw[w,h,VR]),trivial⟩,trivial⟩
theorem cZ {p q:Rat} (k:BH p b1 l1 b2 l2) (F:BH q c1 m1 c2 m2) (hs:Bu p) (ht:Bu q) (I:r=p*q) (G:BH r d1 k1 d2 k2):CF 289 [.agg (BS b1 l1 b2 l2),.agg (BS c1 m1 c2 m2)] (.agg (BS d1 k1 d2 k2)):=by
 have an:=k.small hs;have ao:=F.small ht;have d:=p.den_nz;have f:=q.den_nz;refine AJ Tryz.func289 fun E D=>?_
 conv=>cbv
 rintro aq ⟨ak,f10⟩;conv=>cbv
 intro ah a5;conv=>cbv
 cases ah <;> conv=>cbv
 ·have af:=Ah a5;rintro n16 ⟨al,f16⟩;conv=>cbv
  intro n17 a6;conv=>cbv
  cases n17 <;> conv=>cbv
  ·have ag:=Ah a6;obtain⟨ad,j⟩:=xB (decide ((p.den:Int)=1));refine AB D (H8 k.den j) ?_;conv=>cbv
   cases ad <;> conv=>cbv
   ·obtain⟨a7,aa,h⟩:=Ac (((Nat.gcd p.num.natAbs q.den:Nat):Int));refine AB D (GS k.num F.den h (by omega) (by omega)) ?_;conv=>cbv
    obtain⟨a8,ab,i⟩:=Ac (((Nat.gcd q.num.natAbs p.den:Nat):Int));refine AB D (GS F.num k.den i (by omega) (by omega)) ?_;conv=>cbv
    refine g2 rfl ?_;obtain⟨N,W,m⟩:=Ac (p.num/((Nat.gcd p.num.natAbs q.den:Nat):Int));refine AB (r:= .agg [.bool N,.sl .u32 W]) D (ED k.num h (EU f) (Ef f).1 m (by omega) (by have:=GF (x:=0) f F.den h;omega)) ?_;try conv=>cbv
    obtain⟨O,X,n⟩:=Ac (q.num/((Nat.gcd q.num.natAbs p.den:Nat):Int));refine AB (r:= .agg [.bool O,.sl .u32 X]) D (ED F.num i (EU d) (Ef d).1 n (by omega) (by have:=GF (x:=0) d k.den i;omega)) ?_;try conv=>cbv
    obtain⟨P,Y,o⟩:=Ac ((p.num/((Nat.gcd p.num.natAbs q.den:Nat):Int))*(q.num/((Nat.gcd q.num.natAbs p.den:Nat):Int)));refine AB (r:= .agg [.bool P,.sl .u32 Y]) D (DX m n o (by have:=Fh k.num m (EU f) (Ef f).1;omega) (by have:=Fh F.num n (EU d) (Ef d).1;omega)) ?_;try conv=>cbv
    obtain⟨Q,Z,v⟩:=Ac ((p.den:Int)/((Nat.gcd q.num.natAbs p.den:Nat):Int));refine AB (r:= .agg [.bool Q,.sl .u32 Z]) D (ED k.den i (EU d) (Ef d).2 v (by omega) (by have:=GF (x:=0) d k.den i;omega)) ?_;try conv=>cbv
    obtain⟨S,a1,w⟩:=Ac ((q.den:Int)/((Nat.gcd p.num.natAbs q.den:Nat):Int));refine AB (r:= .agg [.bool S,.sl .u32 a1]) D (ED F.den h (EU f) (Ef f).2 w (by omega) (by have:=GF (x:=0) f F.den h;omega)) ?_;try conv=>cbv
    obtain⟨U,a2,z⟩:=Ac (((p.den:Int)/((Nat.gcd q.num.natAbs p.den:Nat):Int))*((q.den:Int)/((Nat.gcd p.num.natAbs q.den:Nat):Int)));refine AB (r:= .agg [.bool U,.sl .u32 a2]) D (DX v w z (by have:=Fh k.den v (EU d) (Ef d).2;omega) (by have:=Fh F.den w (EU f) (Ef f).2;omega)) ?_;try conv=>cbv
    refine g2 rfl ?_;exact AD ⟨⟨rfl,congrArg _ ((o.uniq G.num (by rw[I,OU])).1.symm),congrArg _ ((o.uniq G.num (by rw[I,OU])).2.symm),congrArg _ ((z.uniq G.den (by rw[I,OT])).1.symm),congrArg _ ((z.uniq G.den (by rw[I,OT])).2.symm),trivial⟩,trivial⟩
   obtain⟨ae,H⟩:=xB (decide ((q.den:Int)=1));refine AB D (H8 F.den H) ?_;conv=>cbv
   cases ae <;> conv=>cbv
   ·obtain⟨a7,aa,h⟩:=Ac (((Nat.gcd p.num.natAbs q.den:Nat):Int));refine AB D (GS k.num F.den h (by omega) (by omega)) ?_;conv=>cbv
    obtain⟨a8,ab,i⟩:=Ac (((Nat.gcd q.num.natAbs p.den:Nat):Int));refine AB D (GS F.num k.den i (by omega) (by omega)) ?_;conv=>cbv
    refine g2 rfl ?_;obtain⟨N,W,m⟩:=Ac (p.num/((Nat.gcd p.num.natAbs q.den:Nat):Int));refine AB (r:= .agg [.bool N,.sl .u32 W]) D (ED k.num h (EU f) (Ef f).1 m (by omega) (by have:=GF (x:=0) f F.den h;omega)) ?_;try conv=>cbv
    obtain⟨O,X,n⟩:=Ac (q.num/((Nat.gcd q.num.natAbs p.den:Nat):Int));refine AB (r:= .agg [.bool O,.sl .u32 X]) D (ED F.num i (EU d) (Ef d).1 n (by omega) (by have:=GF (x:=0) d k.den i;omega)) ?_;try conv=>cbv
    obtain⟨P,Y,o⟩:=Ac ((p.num/((Nat.gcd p.num.natAbs q.den:Nat):Int))*(q.num/((Nat.gcd q.num.natAbs p.den:Nat):Int)));refine AB (r:= .agg [.bool P,.sl .u32 Y]) D (DX m n o (by have:=Fh k.num m (EU f) (Ef f).1;omega) (by have:=Fh F.num n (EU d) (Ef d).1;omega)) ?_;try conv=>cbv
    obtain⟨Q,Z,v⟩:=Ac ((p.den:Int)/((Nat.gcd q.num.natAbs p.den:Nat):Int));refine AB (r:= .agg [.bool Q,.sl .u32 Z]) D (ED k.den i (EU d) (Ef d).2 v (by omega) (by have:=GF (x:=0) d k.den i;omega)) ?_;try conv=>cbv
    obtain⟨S,a1,w⟩:=Ac ((q.den:Int)/((Nat.gcd p.num.natAbs q.den:Nat):Int));refine AB (r:= .agg [.bool S,.sl .u32 a1]) D (ED F.den h (EU f) (Ef f).2 w (by omega) (by have:=GF (x:=0) f F.den h;omega)) ?_;try conv=>cbv
    obtain⟨U,a2,z⟩:=Ac (((p.den:Int)/((Nat.gcd q.num.natAbs p.den:Nat):Int))*((q.den:Int)/((Nat.gcd p.num.natAbs q.den:Nat):Int)));refine AB (r:= .agg [.bool U,.sl .u32 a2]) D (DX v w z (by have:=Fh k.den v (EU d) (Ef d).2;omega) (by have:=Fh F.den w (EU f) (Ef f).2;omega)) ?_;try conv=>cbv
    refine g2 rfl ?_;exact AD ⟨⟨rfl,congrArg _ ((o.uniq G.num (by rw[I,OU])).1.symm),congrArg _ ((o.uniq G.num (by rw[I,OU])).2.symm),congrArg _ ((z.uniq G.den (by rw[I,OT])).1.symm),congrArg _ ((z.uniq G.den (by rw[I,OT])).2.symm),trivial⟩,trivial⟩
   obtain⟨ai,aj,J⟩:=Ac (p.num*q.num);refine AB D (DX k.num F.num J (by omega) (by omega)) ?_;conv=>cbv
   refine g2 rfl ?_;exact AD ⟨⟨rfl,congrArg _ ((J.uniq G.num (by rw[I];exact (mul_ones (of_decide_eq_true j.symm) (of_decide_eq_true H.symm)).1.symm)).1.symm),congrArg _ ((J.uniq G.num (by rw[I];exact (mul_ones (of_decide_eq_true j.symm) (of_decide_eq_true H.symm)).1.symm)).2.symm),congrArg _ ((k.den.uniq G.den (by rw[I,(mul_ones (of_decide_eq_true j.symm) (of_decide_eq_true H.symm)).2];exact of_decide_eq_true j.symm)).1.symm),congrArg _ ((k.den.uniq G.den (by rw[I,(mul_ones (of_decide_eq_true j.symm) (of_decide_eq_true H.symm)).2];exact of_decide_eq_true j.symm)).2.symm),trivial⟩,trivial⟩
  have ag:=Aj a6;obtain⟨M,V,K,L,g⟩:=Be (r);refine AB (r:= .agg [.bool M,.sl .u32 V,.bool K,.sl .u32 L]) D (Ej (x:=0) (by omega) (by rw[I];first | (rw[Rat.num_eq_zero.1 (k.num.FF.1 (by omega)),Rat.zero_mul];rfl) | (rw[Rat.num_eq_zero.1 (F.num.FF.1 (by omega)),Rat.mul_zero];rfl)) g) ?_;try conv=>cbv
  exact AD ⟨⟨rfl,congrArg _ ((g.uniq G rfl).1.1.symm),congrArg _ ((g.uniq G rfl).1.2.symm),congrArg _ ((g.uniq G rfl).2.1.symm),congrArg _ ((g.uniq G rfl).2.2.symm),trivial⟩,trivial⟩
 have af:=Aj a5;obtain⟨M,V,K,L,g⟩:=Be (r);refine AB (r:= .agg [.bool M,.sl .u32 V,.bool K,.sl .u32 L]) D (Ej (x:=0) (by omega) (by rw[I];first | (rw[Rat.num_eq_zero.1 (k.num.FF.1 (by omega)),Rat.zero_mul];rfl) | (rw[Rat.num_eq_zero.1 (F.num.FF.1 (by omega)),Rat.mul_zero];rfl)) g) ?_;try conv=>cbv
 exact AD ⟨⟨rfl,congrArg _ ((g.uniq G rfl).1.1.symm),congrArg _ ((g.uniq G rfl).1.2.symm),congrArg _ ((g.uniq G rfl).2.1.symm),congrArg _ ((g.uniq G rfl).2.2.symm),trivial⟩,trivial⟩
theorem cX {p q:Rat} (i:BH p b1 l1 b2 l2) (g:BH q c1 m1 c2 m2) (hs:Bu p) (ht:Bu q) (M:r=p+q) (w:BH r d1 k1 d2 k2):CF 288 [.agg (BS b1 l1 b2 l2),.agg (BS c1 m1 c2 m2)] (.agg (BS d1 k1 d2 k2)):=by
 have aX:=i.small hs;have aY:=g.small ht;have aW:=p.den_nz;have a7:=q.den_nz;have P:((Nat.gcd p.den q.den:Nat):Int)≠0:=EU a7;obtain⟨x,a8⟩:=xI ((p.den:Int)/((Nat.gcd p.den q.den:Nat):Int));obtain⟨y,aa⟩:=xI ((q.den:Int)/((Nat.gcd p.den q.den:Nat):Int));have a1:(p.den:Int)=x*((Nat.gcd p.den q.den:Nat):Int):=by rw[a8];exact (Int.ediv_mul_cancel (Int.natCast_dvd_natCast.2 (Nat.gcd_dvd_left _ _))).symm
 have a2:(q.den:Int)=y*((Nat.gcd p.den q.den:Nat):Int):=by rw[aa];exact (Int.ediv_mul_cancel (Int.natCast_dvd_natCast.2 (Nat.gcd_dvd_right _ _))).symm
 refine AJ Tryz.func288 fun E h=>?_
 conv=>cbv
 rintro aZ ⟨aU,f14⟩;conv=>cbv
 intro n15 ab;conv=>cbv
 cases n15 <;> conv=>cbv
 ·have aQ:=Ah ab;rintro n20 ⟨aV,f20⟩;conv=>cbv
  intro n21 ad;conv=>cbv
  cases n21 <;> conv=>cbv
  ·have aR:=Ah ad;obtain⟨aO,z⟩:=xB (decide ((p.den:Int)=1));refine AB h (H8 i.den z) ?_;conv=>cbv
   cases aO <;> conv=>cbv
   ·obtain⟨an,aC,d⟩:=Ac (((Nat.gcd p.den q.den:Nat):Int));refine AB h (GS i.den g.den d (by omega) (by omega)) ?_;conv=>cbv
    have ae:=GF (x:=0) a7 g.den d;obtain⟨a5,D⟩:=xB (decide (((Nat.gcd p.den q.den:Nat):Int)=1));refine AB h (H8 d D) ?_;conv=>cbv
    cases a5 <;> conv=>cbv
    ·obtain⟨au,aG,f⟩:=Ac (x);refine AB h (ED i.den d P a1 f (by omega) (by omega)) ?_;conv=>cbv
     have af:=Fh i.den f P a1;obtain⟨av,aH,j⟩:=Ac (y);refine AB h (ED g.den d P a2 j (by omega) (by omega)) ?_;conv=>cbv
     have ag:=Fh g.den j P a2;refine g2 rfl ?_;obtain⟨aw,aI,m⟩:=Ac (p.num*y);refine AB h (DX i.num j m (by omega) (by omega)) ?_;conv=>cbv
     have ah:=i.num.DJ j m rfl;obtain⟨ax,aJ,n⟩:=Ac (q.num*x);refine AB h (DX g.num f n (by omega) (by omega)) ?_;conv=>cbv
     have ai:=g.num.DJ f n rfl;obtain⟨ay,aK,o⟩:=Ac ((p.num*y+q.num*x));refine AB h (Jm m n o (by omega) (by omega)) ?_;conv=>cbv
     have aj:=m.NM n o rfl (k:=8000000000000) (by omega) (by omega);refine g2 rfl ?_;obtain⟨X,Z,v⟩:=Ac (((Nat.gcd (p.num*y+q.num*x).natAbs (Nat.gcd p.den q.den):Nat):Int));refine AB (r:= .agg [.bool X,.sl .u32 Z]) h (GS o d (by rw[Int.natAbs_natCast];exact v) (by omega) (by omega)) ?_;try conv=>cbv
     have Q:Nat.gcd p.den q.den≠0:=by omega
     have ak:=GF (x:=0) Q d v;have a6:(p.num*y+q.num*x)=(p.num*y+q.num*x)/((Nat.gcd (p.num*y+q.num*x).natAbs (Nat.gcd p.den q.den):Nat):Int)*((Nat.gcd (p.num*y+q.num*x).natAbs (Nat.gcd p.den q.den):Nat):Int):=(Ef Q).1;have S:=EU (a:=(p.num*y+q.num*x).natAbs) Q;have U:(q.den:Int)=(q.den:Int)/((Nat.gcd (p.num*y+q.num*x).natAbs (Nat.gcd p.den q.den):Nat):Int)*((Nat.gcd (p.num*y+q.num*x).natAbs (Nat.gcd p.den q.den):Nat):Int):=(Int.ediv_mul_cancel (Int.natCast_dvd_natCast.2 (Nat.dvd_trans (Nat.gcd_dvd_right _ _) (Nat.gcd_dvd_right _ _)))).symm;obtain⟨az,aL,J⟩:=Ac ((p.num*y+q.num*x)/((Nat.gcd (p.num*y+q.num*x).natAbs (Nat.gcd p.den q.den):Nat):Int));refine AB h (ED o v S a6 J (by omega) (by omega)) ?_;conv=>cbv
     obtain⟨aA,aM,K⟩:=Ac ((q.den:Int)/((Nat.gcd (p.num*y+q.num*x).natAbs (Nat.gcd p.den q.den):Nat):Int));refine AB h (ED g.den v S U K (by omega) (by omega)) ?_;conv=>cbv
     have al:=Fh g.den K S U;obtain⟨aB,aN,L⟩:=Ac (x*((q.den:Int)/((Nat.gcd (p.num*y+q.num*x).natAbs (Nat.gcd p.den q.den):Nat):Int)));refine AB h (DX f K L (by omega) (by omega)) ?_;conv=>cbv
     refine g2 rfl ?_;have N:=UN p q rfl (fun e=>by have:=of_decide_eq_false D.symm;omega) a8 aa rfl rfl;exact AD ⟨⟨rfl,congrArg _ ((J.uniq w.num (by rw[M];exact N.1.symm)).1.symm),congrArg _ ((J.uniq w.num (by rw[M];exact N.1.symm)).2.symm),congrArg _ ((L.uniq w.den (by rw[M];exact N.2.symm)).1.symm),congrArg _ ((L.uniq w.den (by rw[M];exact N.2.symm)).2.symm),trivial⟩,trivial⟩
    obtain⟨ao,aD,F⟩:=Ac (p.num*q.den);refine AB h (DX i.num g.den F (by omega) (by omega)) ?_;conv=>cbv
    obtain⟨aq,aE,G⟩:=Ac (q.num*p.den);refine AB h (DX g.num i.den G (by omega) (by omega)) ?_;conv=>cbv
    obtain⟨W,Y,H⟩:=Ac (p.num*q.den+q.num*p.den);refine AB (r:= .agg [.bool W,.sl .u32 Y]) h (Jm F G H (by have:=i.num.DJ g.den F rfl;omega) (by have:=g.num.DJ i.den G rfl;omega)) ?_;try conv=>cbv
    refine g2 rfl ?_;obtain⟨ar,aF,I⟩:=Ac ((p.den:Int)*q.den);refine AB h (DX i.den g.den I (by omega) (by omega)) ?_;conv=>cbv
    refine g2 rfl ?_;have N:=UM p q (by have:=of_decide_eq_true D.symm;omega);exact AD ⟨⟨rfl,congrArg _ ((H.uniq w.num (by rw[M];exact N.1.symm)).1.symm),congrArg _ ((H.uniq w.num (by rw[M];exact N.1.symm)).2.symm),congrArg _ ((I.uniq w.den (by rw[M];exact N.2.symm)).1.symm),congrArg _ ((I.uniq w.den (by rw[M];exact N.2.symm)).2.symm),trivial⟩,trivial⟩
   obtain⟨aP,O⟩:=xB (decide ((q.den:Int)=1));refine AB h (H8 g.den O) ?_;conv=>cbv
   cases aP <;> conv=>cbv
   ·obtain⟨an,aC,d⟩:=Ac (((Nat.gcd p.den q.den:Nat):Int));refine AB h (GS i.den g.den d (by omega) (by omega)) ?_;conv=>cbv
    have ae:=GF (x:=0) a7 g.den d;obtain⟨a5,D⟩:=xB (decide (((Nat.gcd p.den q.den:Nat):Int)=1));refine AB h (H8 d D) ?_;conv=>cbv
    cases a5 <;> conv=>cbv
    ·obtain⟨au,aG,f⟩:=Ac (x);refine AB h (ED i.den d P a1 f (by omega) (by omega)) ?_;conv=>cbv
     have af:=Fh i.den f P a1;obtain⟨av,aH,j⟩:=Ac (y);refine AB h (ED g.den d P a2 j (by omega) (by omega)) ?_;conv=>cbv
     have ag:=Fh g.den j P a2;refine g2 rfl ?_;obtain⟨aw,aI,m⟩:=Ac (p.num*y);refine AB h (DX i.num j m (by omega) (by omega)) ?_;conv=>cbv
     have ah:=i.num.DJ j m rfl;obtain⟨ax,aJ,n⟩:=Ac (q.num*x);refine AB h (DX g.num f n (by omega) (by omega)) ?_;conv=>cbv
     have ai:=g.num.DJ f n rfl;obtain⟨ay,aK,o⟩:=Ac ((p.num*y+q.num*x));refine AB h (Jm m n o (by omega) (by omega)) ?_;conv=>cbv
     have aj:=m.NM n o rfl (k:=8000000000000) (by omega) (by omega);refine g2 rfl ?_;obtain⟨X,Z,v⟩:=Ac (((Nat.gcd (p.num*y+q.num*x).natAbs (Nat.gcd p.den q.den):Nat):Int));refine AB (r:= .agg [.bool X,.sl .u32 Z]) h (GS o d (by rw[Int.natAbs_natCast];exact v) (by omega) (by omega)) ?_;try conv=>cbv
     have Q:Nat.gcd p.den q.den≠0:=by omega
     have ak:=GF (x:=0) Q d v;have a6:(p.num*y+q.num*x)=(p.num*y+q.num*x)/((Nat.gcd (p.num*y+q.num*x).natAbs (Nat.gcd p.den q.den):Nat):Int)*((Nat.gcd (p.num*y+q.num*x).natAbs (Nat.gcd p.den q.den):Nat):Int):=(Ef Q).1;have S:=EU (a:=(p.num*y+q.num*x).natAbs) Q;have U:(q.den:Int)=(q.den:Int)/((Nat.gcd (p.num*y+q.num*x).natAbs (Nat.gcd p.den q.den):Nat):Int)*((Nat.gcd (p.num*y+q.num*x).natAbs (Nat.gcd p.den q.den):Nat):Int):=(Int.ediv_mul_cancel (Int.natCast_dvd_natCast.2 (Nat.dvd_trans (Nat.gcd_dvd_right _ _) (Nat.gcd_dvd_right _ _)))).symm;obtain⟨az,aL,J⟩:=Ac ((p.num*y+q.num*x)/((Nat.gcd (p.num*y+q.num*x).natAbs (Nat.gcd p.den q.den):Nat):Int));refine AB h (ED o v S a6 J (by omega) (by omega)) ?_;conv=>cbv
     obtain⟨aA,aM,K⟩:=Ac ((q.den:Int)/((Nat.gcd (p.num*y+q.num*x).natAbs (Nat.gcd p.den q.den):Nat):Int));refine AB h (ED g.den v S U K (by omega) (by omega)) ?_;conv=>cbv
     have al:=Fh g.den K S U;obtain⟨aB,aN,L⟩:=Ac (x*((q.den:Int)/((Nat.gcd (p.num*y+q.num*x).natAbs (Nat.gcd p.den q.den):Nat):Int)));refine AB h (DX f K L (by omega) (by omega)) ?_;conv=>cbv
     refine g2 rfl ?_;have N:=UN p q rfl (fun e=>by have:=of_decide_eq_false D.symm;omega) a8 aa rfl rfl;exact AD ⟨⟨rfl,congrArg _ ((J.uniq w.num (by rw[M];exact N.1.symm)).1.symm),congrArg _ ((J.uniq w.num (by rw[M];exact N.1.symm)).2.symm),congrArg _ ((L.uniq w.den (by rw[M];exact N.2.symm)).1.symm),congrArg _ ((L.uniq w.den (by rw[M];exact N.2.symm)).2.symm),trivial⟩,trivial⟩
    obtain⟨ao,aD,F⟩:=Ac (p.num*q.den);refine AB h (DX i.num g.den F (by omega) (by omega)) ?_;conv=>cbv
    obtain⟨aq,aE,G⟩:=Ac (q.num*p.den);refine AB h (DX g.num i.den G (by omega) (by omega)) ?_;conv=>cbv
    obtain⟨W,Y,H⟩:=Ac (p.num*q.den+q.num*p.den);refine AB (r:= .agg [.bool W,.sl .u32 Y]) h (Jm F G H (by have:=i.num.DJ g.den F rfl;omega) (by have:=g.num.DJ i.den G rfl;omega)) ?_;try conv=>cbv
    refine g2 rfl ?_;obtain⟨ar,aF,I⟩:=Ac ((p.den:Int)*q.den);refine AB h (DX i.den g.den I (by omega) (by omega)) ?_;conv=>cbv
    refine g2 rfl ?_;have N:=UM p q (by have:=of_decide_eq_true D.symm;omega);exact AD ⟨⟨rfl,congrArg _ ((H.uniq w.num (by rw[M];exact N.1.symm)).1.symm),congrArg _ ((H.uniq w.num (by rw[M];exact N.1.symm)).2.symm),congrArg _ ((I.uniq w.den (by rw[M];exact N.2.symm)).1.symm),congrArg _ ((I.uniq w.den (by rw[M];exact N.2.symm)).2.symm),trivial⟩,trivial⟩
   obtain⟨aS,aT,V⟩:=Ac (p.num+q.num);refine AB h (Jm i.num g.num V (by omega) (by omega)) ?_;conv=>cbv
   refine g2 rfl ?_;exact AD ⟨⟨rfl,congrArg _ ((V.uniq w.num (by rw[M];exact (H9 (of_decide_eq_true z.symm) (of_decide_eq_true O.symm)).1.symm)).1.symm),congrArg _ ((V.uniq w.num (by rw[M];exact (H9 (of_decide_eq_true z.symm) (of_decide_eq_true O.symm)).1.symm)).2.symm),congrArg _ ((i.den.uniq w.den (by rw[M,(H9 (of_decide_eq_true z.symm) (of_decide_eq_true O.symm)).2];exact of_decide_eq_true z.symm)).1.symm),congrArg _ ((i.den.uniq w.den (by rw[M,(H9 (of_decide_eq_true z.symm) (of_decide_eq_true O.symm)).2];exact of_decide_eq_true z.symm)).2.symm),trivial⟩,trivial⟩
  have aR:=Aj ad;have e0:q=0:=Rat.num_eq_zero.1 (g.num.FF.1 (by omega));have e1:r=p:=by rw[M,e0,Rat.add_zero]
  exact AD ⟨⟨rfl,congrArg _ ((i.num.uniq w.num (by rw[e1])).1.symm),congrArg _ ((i.num.uniq w.num (by rw[e1])).2.symm),congrArg _ ((i.den.uniq w.den (by rw[e1])).1.symm),congrArg _ ((i.den.uniq w.den (by rw[e1])).2.symm),trivial⟩,trivial⟩
 have aQ:=Aj ab;have e0:p=0:=Rat.num_eq_zero.1 (i.num.FF.1 (by omega));have e1:r=q:=by rw[M,e0,Rat.zero_add]
 exact AD ⟨⟨rfl,congrArg _ ((g.num.uniq w.num (by rw[e1])).1.symm),congrArg _ ((g.num.uniq w.num (by rw[e1])).2.symm),congrArg _ ((g.den.uniq w.den (by rw[e1])).1.symm),congrArg _ ((g.den.uniq w.den (by rw[e1])).2.symm),trivial⟩,trivial⟩
theorem ir {p:Rat} (h:p≠0):(1/p).num=(if p.num<0 then -(p.den:Int) else p.den)/\((1/p).den:Int)=if p.num<0 then -p.num else p.num:=by
 have f:p.num≠0:=mt Rat.num_eq_zero.1 h;have e:1/p=Rat.inv p:=by rw[Rat.div_def,Rat.one_mul];rfl
 rw[e];unfold Rat.inv
 split
 ·rename_i d;exact⟨rfl,by show ((p.num.natAbs:Nat):Int)=_;omega⟩
 rename_i d
 rw[dif_pos (by omega)];exact⟨rfl,by show ((p.num.natAbs:Nat):Int)=_;omega⟩
theorem cY {p:Rat} (i:BH p b1 l1 b2 l2) (v:p≠0) (w:r=1/p) (j:BH r d1 k1 d2 k2):CF 290 [.agg (BS b1 l1 b2 l2)] (.agg (BS d1 k1 d2 k2)):=by
 obtain⟨f,d⟩:=ir v;rw[<-w] at f d;refine AJ Tryz.func290 fun E m=>?_
 conv=>cbv
 cases b1 <;> conv=>cbv
 ·have h:=Q3 i.num rfl;exact AD ⟨⟨rfl,congrArg _ ((i.den.uniq j.num (by rw[f,if_neg h])).1.symm),congrArg _ ((i.den.uniq j.num (by rw[f,if_neg h])).2.symm),congrArg _ ((i.num.uniq j.den (by rw[d,if_neg h])).1.symm),congrArg _ ((i.num.uniq j.den (by rw[d,if_neg h])).2.symm),trivial⟩,trivial⟩
 obtain⟨z,D,k⟩:=Ac (-(p.den:Int));refine AB m (LH i.den k) ?_;conv=>cbv
 obtain⟨n,o,g⟩:=Ac (-p.num);refine AB m (LH i.num g) ?_;conv=>cbv
 refine g2 rfl ?_;have h:=Q4 i.num rfl;exact AD ⟨⟨rfl,congrArg _ ((k.uniq j.num (by rw[f,if_pos h])).1.symm),congrArg _ ((k.uniq j.num (by rw[f,if_pos h])).2.symm),congrArg _ ((g.uniq j.den (by rw[d,if_pos h])).1.symm),congrArg _ ((g.uniq j.den (by rw[d,if_pos h])).2.symm),trivial⟩,trivial⟩
theorem cl {p:Rat} (f:BH p b1 l1 b2 l2) (hs:Bu p):CF 317 [.agg (BS b1 l1 b2 l2)] (.one (.bool true)):=by
 have v:=f.small hs;have o:=p.den_pos;refine AJ Tryz.func317 fun E h=>?_
 conv=>cbv
 refine AB h (Tw f.num) ?_;conv=>cbv
 refine AB h (Tw f.den) ?_;conv=>cbv
 obtain⟨n,i⟩:=xI ((1:Int));refine AB (r:= .one (.int .i64 n)) h (I3 f.den (i.trans (by unfold CE;rw[if_neg (by omega),if_neg (by omega)]))) ?_;try conv=>cbv
 intro n15 g;conv=>cbv
 cases n15 <;> conv=>cbv
 ·have j:=Bq g;exact absurd j (by omega)
 have j:=Br g;obtain⟨k,m,d⟩:=Ac ((1:Int));refine AB (r:= .agg [.bool k,.sl .u32 m]) h (GS f.num f.den (by rw[Int.natAbs_natCast,show Nat.gcd p.num.natAbs p.den=1 from p.reduced];exact d) (by omega) (by omega)) ?_;try conv=>cbv
 refine AB h (H8 d rfl) ?_;conv=>cbv
 exact AD ⟨t2,trivial⟩
theorem Xl {d r:Int} (f:r=CE d) (h:r<0):d<0:=by rcases FM d with⟨a,e⟩ |⟨a,e⟩ |⟨a,e⟩ <;> omega
theorem Xo {d r:Int} (f:r=CE d) (h:0<=r):¬d<0:=by rcases FM d with⟨a,e⟩ |⟨a,e⟩ |⟨a,e⟩ <;> omega
theorem Nn {g:Int} (d:g≠0) (h:g∣x):x=CI x g*g:=by
 unfold CI
 split
 ·exact (Int.ediv_mul_cancel h).symm
 have:=Int.ediv_mul_cancel (a:= -x) (b:= -g) (Int.neg_dvd.2 (Int.dvd_neg.2 h));rw[Int.mul_neg] at this
 generalize -x/ -g*g=Q at*
 omega
theorem N7 (n d:Int):(if d<0 then -((Nat.gcd n.natAbs d.natAbs:Nat):Int) else ((Nat.gcd n.natAbs d.natAbs:Nat):Int))∣n/\(if d<0 then -((Nat.gcd n.natAbs d.natAbs:Nat):Int) else ((Nat.gcd n.natAbs d.natAbs:Nat):Int))∣d:=by
 have f:((Nat.gcd n.natAbs d.natAbs:Nat):Int)∣n:=Int.ofNat_dvd_left.2 (Nat.gcd_dvd_left _ _);have g:((Nat.gcd n.natAbs d.natAbs:Nat):Int)∣d:=Int.ofNat_dvd_left.2 (Nat.gcd_dvd_right _ _)
 split
 ·exact⟨Int.neg_dvd.2 f,Int.neg_dvd.2 g⟩
 exact⟨f,g⟩
theorem cS {n d:Int} {q:Rat} (S:Ad n b1 l1) (F:Ad d b2 l2) (D:d≠0) (Q:q=Rat.divInt n d) (G:BH q c1 m1 c2 m2) (s1:l1.length<=17592186042000) (s2:l2.length<=17592186042000):CF 224 [.agg (BD b1 l1),.agg (BD b2 l2)] (.agg (BS c1 m1 c2 m2)):=by
 refine AJ Tryz.func224 fun E H=>?_
 conv=>cbv
 obtain⟨V,W,k⟩:=Ac (((Nat.gcd n.natAbs d.natAbs:Nat):Int));refine AB H (GS S F k (by omega) (by omega)) ?_;conv=>cbv
 obtain⟨X,i⟩:=xI (CE d);refine AB H (I3 F i) ?_;conv=>cbv
 intro U K;conv=>cbv
 refine .inr ?_;cases U <;> conv=>cbv
 ·have m:=AW K;obtain⟨o,w,f⟩:=Ac (CI n (if d<0 then -((Nat.gcd n.natAbs d.natAbs:Nat):Int) else ((Nat.gcd n.natAbs d.natAbs:Nat):Int)));have N:Ad (if d<0 then -((Nat.gcd n.natAbs d.natAbs:Nat):Int) else ((Nat.gcd n.natAbs d.natAbs:Nat):Int)) V W:=by rw[if_neg (Xo i m)];exact k
  have h:(if d<0 then -((Nat.gcd n.natAbs d.natAbs:Nat):Int) else ((Nat.gcd n.natAbs d.natAbs:Nat):Int))≠0:=by rw[if_neg (Xo i m)];have:=N6 (n:=n) D;omega
  have M:CI n (if d<0 then -((Nat.gcd n.natAbs d.natAbs:Nat):Int) else ((Nat.gcd n.natAbs d.natAbs:Nat):Int))=q.num:=by rw[Q];exact (OO D).symm
  have L:CI d (if d<0 then -((Nat.gcd n.natAbs d.natAbs:Nat):Int) else ((Nat.gcd n.natAbs d.natAbs:Nat):Int))=(q.den:Int):=by rw[Q];exact (ON D).symm
  have J:n=CI n (if d<0 then -((Nat.gcd n.natAbs d.natAbs:Nat):Int) else ((Nat.gcd n.natAbs d.natAbs:Nat):Int))*(if d<0 then -((Nat.gcd n.natAbs d.natAbs:Nat):Int) else ((Nat.gcd n.natAbs d.natAbs:Nat):Int)):=Nn h (N7 n d).1;have I:d=CI d (if d<0 then -((Nat.gcd n.natAbs d.natAbs:Nat):Int) else ((Nat.gcd n.natAbs d.natAbs:Nat):Int))*(if d<0 then -((Nat.gcd n.natAbs d.natAbs:Nat):Int) else ((Nat.gcd n.natAbs d.natAbs:Nat):Int)):=Nn h (N7 n d).2;refine AB (r:= .agg [.bool o,.sl .u32 w]) H (ED S N h (J) f (by omega) (by have:=Ll D F k;omega)) ?_;try conv=>cbv
  obtain⟨v,z,g⟩:=Ac (CI d (if d<0 then -((Nat.gcd n.natAbs d.natAbs:Nat):Int) else ((Nat.gcd n.natAbs d.natAbs:Nat):Int)));refine AB (r:= .agg [.bool v,.sl .u32 z]) H (ED F N h (I) g (by omega) (by have:=Ll D F k;omega)) ?_;try conv=>cbv
  refine g2 rfl ?_;exact AD ⟨⟨rfl,congrArg _ ((f.uniq G.num M).1.symm),congrArg _ ((f.uniq G.num M).2.symm),congrArg _ ((g.uniq G.den L).1.symm),congrArg _ ((g.uniq G.den L).2.symm),trivial⟩,trivial⟩
 have m:=AY K;obtain⟨O,P,j⟩:=Ac (-((Nat.gcd n.natAbs d.natAbs:Nat):Int));refine AB H (LH k j) ?_;conv=>cbv
 obtain⟨o,w,f⟩:=Ac (CI n (if d<0 then -((Nat.gcd n.natAbs d.natAbs:Nat):Int) else ((Nat.gcd n.natAbs d.natAbs:Nat):Int)));have N:Ad (if d<0 then -((Nat.gcd n.natAbs d.natAbs:Nat):Int) else ((Nat.gcd n.natAbs d.natAbs:Nat):Int)) O P:=by rw[if_pos (Xl i m)];exact j
 have h:(if d<0 then -((Nat.gcd n.natAbs d.natAbs:Nat):Int) else ((Nat.gcd n.natAbs d.natAbs:Nat):Int))≠0:=by rw[if_pos (Xl i m)];have:=N6 (n:=n) D;omega
 have M:CI n (if d<0 then -((Nat.gcd n.natAbs d.natAbs:Nat):Int) else ((Nat.gcd n.natAbs d.natAbs:Nat):Int))=q.num:=by rw[Q];exact (OO D).symm
 have L:CI d (if d<0 then -((Nat.gcd n.natAbs d.natAbs:Nat):Int) else ((Nat.gcd n.natAbs d.natAbs:Nat):Int))=(q.den:Int):=by rw[Q];exact (ON D).symm
 have J:n=CI n (if d<0 then -((Nat.gcd n.natAbs d.natAbs:Nat):Int) else ((Nat.gcd n.natAbs d.natAbs:Nat):Int))*(if d<0 then -((Nat.gcd n.natAbs d.natAbs:Nat):Int) else ((Nat.gcd n.natAbs d.natAbs:Nat):Int)):=Nn h (N7 n d).1;have I:d=CI d (if d<0 then -((Nat.gcd n.natAbs d.natAbs:Nat):Int) else ((Nat.gcd n.natAbs d.natAbs:Nat):Int))*(if d<0 then -((Nat.gcd n.natAbs d.natAbs:Nat):Int) else ((Nat.gcd n.natAbs d.natAbs:Nat):Int)):=Nn h (N7 n d).2;refine AB (r:= .agg [.bool o,.sl .u32 w]) H (ED S N h (J) f (by omega) (by have:=N5 D F j;omega)) ?_;try conv=>cbv
 obtain⟨v,z,g⟩:=Ac (CI d (if d<0 then -((Nat.gcd n.natAbs d.natAbs:Nat):Int) else ((Nat.gcd n.natAbs d.natAbs:Nat):Int)));refine AB (r:= .agg [.bool v,.sl .u32 z]) H (ED F N h (I) g (by omega) (by have:=N5 D F j;omega)) ?_;try conv=>cbv
 refine g2 rfl ?_;exact AD ⟨⟨rfl,congrArg _ ((f.uniq G.num M).1.symm),congrArg _ ((f.uniq G.num M).2.symm),congrArg _ ((g.uniq G.den L).1.symm),congrArg _ ((g.uniq G.den L).2.symm),trivial⟩,trivial⟩
theorem I2 {n d:Int} {q:Rat} (m: -9223372036854775808<=n/\n<9223372036854775808) (k: -9223372036854775808<=d/\d<9223372036854775808) (i:d≠0) (z:q=Rat.divInt n d) (D:BH q c1 m1 c2 m2):CF 110 [.one (.int .i64 n),.one (.int .i64 d)] (.agg (BS c1 m1 c2 m2)):=by
 refine AJ Tryz.func110 fun E h=>?_
 conv=>cbv
 intro F j;conv=>cbv
 cases F <;> conv=>cbv
 ·have o:=Ah j;obtain⟨G,H,g⟩:=Ac (n);refine AB h (M9 m g) ?_;conv=>cbv
  obtain⟨v,w,f⟩:=Ac (d);refine AB h (M9 k f) ?_;conv=>cbv
  refine AB (r:= .agg [.bool c1,.sl .u32 m1,.bool c2,.sl .u32 m2]) h (cS g f i z D (by have:=PI m g;omega) (by have:=PI k f;omega)) ?_;try conv=>cbv
  exact AD ⟨⟨rfl,rfl,rfl,rfl,rfl,trivial⟩,trivial⟩
 have o:=Aj j;exact absurd o i
end Go.Abs
