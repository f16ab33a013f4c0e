/- Part 17 of a proof. Conditions: each theorem's own. -/
import Derived.Test.YtmhbikooakmagaaGreatPk14
import Derived.Test.YtmhbikooakmagaaGreatPk15
set_option linter.all false
set_option maxHeartbeats 8000000
set_option maxRecDepth 20000
open Go.Proofs
namespace Go.Abs
open Go.RowKit
variable {A B C:LR} {R s t:Nat} {T:List LR} {p x y:Re} {q:Rat} {r:List Rat} {u:List (List Rat)}
theorem YM {q:Re} (h:At R (r::u)) (L:T=tw (r::u)) (J:A=em (r::u) x) (M:El (r::u) s x) (I:x=p+q*rt u r) (F:In u p) (H:In u q) (Y:2*s+2*EE u.length R+R+1<=60000000000000) (K:C=em u (p*p-q*q*AL u r)):CF 347 [.one (.sl (.sl AA) T),.one (.sl AA A)] (.one (.sl AA C)):=by
 have G:=VZ h.red F H (I ▸ M.bd);have D:El u s p:=⟨F,G.1⟩;have i:El u s q:=⟨H,G.2⟩;have z:=El.DH h;have hR:=h.hR;refine AJ Tryz.func347 fun E w=>?_
 conv=>cbv
 obtain⟨N,d⟩:=xV (tw u);obtain⟨O,j⟩:=xR (BD r);refine AB w (TA L d j) ?_;conv=>cbv
 obtain⟨P,f⟩:=xR (em u p);obtain⟨Q,g⟩:=xR (em u q);refine AB w (OZ h.red D.mem i.mem I J f g) ?_;conv=>cbv
 obtain⟨S,k⟩:=xR (em u (p*p));refine AB w (Mq h.tail d f f D D (by omega) k) ?_;conv=>cbv
 obtain⟨U,m⟩:=xR (em u (q*q));refine AB w (Mq h.tail d g g i i (by omega) m) ?_;conv=>cbv
 obtain⟨V,n⟩:=xR (em u (q*q*AL u r));refine AB w (Mq h.tail d m (j.trans (Eu h.red)) (i.mul h.tail i) z (by omega) n) ?_;conv=>cbv
 obtain⟨W,o⟩:=xR (em u (-(q*q*AL u r)));refine AB w (Oz h.tail n ((i.mul h.tail i).mul h.tail z) (by omega) o) ?_;conv=>cbv
 obtain⟨X,v⟩:=xR (em u (p*p+ -(q*q*AL u r)));refine AB w (Nx h.tail k o (D.mul h.tail D) (((i.mul h.tail i).mul h.tail z).neg h.red.1) (by omega) (by omega) v) ?_;conv=>cbv
 exact AD ⟨⟨rfl,congrArg _ (by rw[K,v];congr 1),trivial⟩,trivial⟩
theorem ig {p:Rat} (O:T=[]) (G:A=[rp p]) (N:B=[rp q]) (Q:CL p) (w:p≠0) (z:q=1/p):CF 295 [.one (.sl (.sl AA) T),.one (.sl AA A)] (.AF [(false,[.sl AA B]),(false,[.bool true])]):=by
 refine AJ Tryz.func295 fun E H=>?_
 conv=>cbv
 rintro S ⟨v,f15⟩;conv=>cbv
 intro D h;conv=>cbv
 cases D <;> conv=>cbv
 ·have j:=Ao h;exact absurd (by rw[v,O];rfl) j
 have j:=BA h;obtain⟨K,L,I,J,f⟩:=CH (((1:Int):Rat));refine AB H (H4 (by omega) rfl f) ?_;conv=>cbv
 have M:A.length=1:=by rw[G];rfl
 obtain⟨F,d⟩:=AP (l:=A) (i:=0) (by omega);refine⟨F,fun _=>⟨by omega,d⟩,?_⟩;try conv=>cbv
 have P:=Ff G d;obtain⟨n,o,k,m,g⟩:=CH q;refine AB H (cK f P ⟨by decide +kernel,by decide +kernel⟩ Q w z g) ?_;conv=>cbv
 refine g2 rfl ?_;refine⟨[((n,o),(k,m))],fun _=>⟨rfl,by decide,rfl,⟨rfl,by first | exact t1 | exact t2 | exact t4 | simp[BV,Bm,cells],trivial⟩⟩,.inl ?_⟩;try conv=>cbv
 refine BG ?_;conv=>cbv
 exact AD ⟨⟨rfl,.inl ⟨_,rfl,by simp,congrArg _ (by rw[N,g.rp];rfl)⟩,trivial⟩,t2,trivial⟩
def UH (f:FuncId) (R:Nat) (u:List (List Rat)):Prop:=∀{T:List LR} {A B:LR} {s:Nat} {x y:Re},T=tw u->A=em u x->El u s x->In u y->x*y=1->II u.length R s<=60000000000000->B=em u y->
 CF f [.one (.sl (.sl AA) T),.one (.sl AA A)] (.AF [(false,[.sl AA B]),(false,[.bool true])])
def o7 (f:FuncId) (u:List (List Rat)):Prop:=∀{T:List LR} {A:LR},T=tw u->A=em u 0->
 ∃l,CF f [.one (.sl (.sl AA) T),.one (.sl AA A)] (.AF [(false,[.sl AA l]),(false,[.bool false])])
theorem iq {q i:Re} (h:At R (r::u)) (ih:UH 295 R u) (S:T=tw (r::u)) (X:A=em (r::u) x) (hx:El (r::u) s x) (I:x=p+q*rt u r) (K:El u s p) (H:El u s q) (Z:In u i) (M:(p*p-q*q*AL u r)*i=1) (hy:y=p*i+ -(q*i)*rt u r) (hs:II (r::u).length R s<=60000000000000) (hB:B=em (r::u) y):CF 295 [.one (.sl (.sl AA) T),.one (.sl AA A)] (.AF [(false,[.sl AA B]),(false,[.bool true])]):=by
 have aa:II (r::u).length R s=s+EE u.length R+II u.length R (2*s+2*EE u.length R+R+1):=rfl;have Y:=El.norm h K.mem H.mem (I ▸ hx);have d:=Y.inv h.tail Z M;have a5:=E1 u.length R (2*s+2*EE u.length R+R+1);refine AJ Tryz.func295 fun E G=>?_
 conv=>cbv
 rintro ab ⟨a8,f15⟩;conv=>cbv
 intro V L;conv=>cbv
 cases V <;> conv=>cbv
 ·have U:=Ao L;obtain⟨ad,f⟩:=xV (tw u);obtain⟨ae,Q⟩:=xR (BD r);refine AB G (TA S f Q) ?_;conv=>cbv
  obtain⟨af,v⟩:=xR (em u (p*p-q*q*AL u r));refine AB G (YM h S X hx I K.mem H.mem (by omega) v) ?_;conv=>cbv
  obtain⟨ag,g⟩:=xR (em u i);refine AB G (ih f v Y Z M (by omega) g) ?_;conv=>cbv
  refine AO ?_;conv=>cbv
  obtain⟨ah,w⟩:=xR (em u p);obtain⟨ai,z⟩:=xR (em u q);refine AB G (OZ h.red K.mem H.mem I X w z) ?_;conv=>cbv
  obtain⟨n,j⟩:=xR (em u (p*i));obtain⟨a7,k⟩:=xN n.length;refine AB G (mulC h.tail f w g K d (by omega) j k) ?_;conv=>cbv
  obtain⟨aj,D⟩:=xR (em u (q*i));refine AB G (Mq h.tail f z g H d (by omega) D) ?_;conv=>cbv
  obtain⟨o,m⟩:=xR (em u (-(q*i)));refine AB G (Oz h.tail D (H.mul h.tail d) (by omega) m) ?_;conv=>cbv
  have a1:n.length=2^u.length:=by rw[j,Bl (K.mul h.tail d).mem]
  have a2:o.length=2^u.length:=by rw[m,Bl ((H.mul h.tail d).neg h.red.1).mem]
  have a6:=DS h.tail.ht;refine .inl ⟨o,fun _=>⟨rfl,k,rfl,by show (n.length+o.length)*64<=140737488355328;(try simp only[List.length_take,List.length_drop]);omega⟩,?_⟩;intro (J:LR) W F;have O:J=(n:LR)++(o:LR):=F.1;have P:W=List.length (α:=(el AA)) J:=F.2;conv=>cbv
  have N:B=J:=by rw[hB,O,j,m];exact Fp h.red (K.mul h.tail d).mem ((H.mul h.tail d).neg h.red.1).mem hy
  exact AD ⟨⟨rfl,.inl ⟨_,rfl,by omega,congrArg _ (by rw[N,P,List.drop_zero,List.take_length])⟩,trivial⟩,t2,trivial⟩
 have U:=BA L;exact absurd (List.length_eq_zero_iff.1 (by omega)) (S ▸ Lm r u)
theorem ie (h:At R u):UH 295 R u:=by
 induction u with
 | nil=>
  intro T A B s x y w m j F d D n;obtain⟨p,rfl⟩:=Cp.1 j.mem;obtain⟨q,rfl⟩:=Cp.1 F;rw[EJ] at m n;rw[<-Re.ofRat_mul] at d;have e:=Re.F7.1 d;have g:=j.CJ (by have:=E1 0 R s;have:II ([]:List (List Rat)).length R s=II 0 R s:=rfl;omega);rw[De] at g;exact ig w m n (g _ List.mem_cons_self) (by intro G;subst G;grind) (by grind)
 | cons r u o=>
  intro T A B s x y w m j F d D n;obtain⟨p,q,f,g,z⟩:=El.parts h.red j;have K:=Cq h.red;have H:=El.norm h g.mem z.mem (f ▸ j);have v:p*p-q*q*AL u r≠0:=YL h.red g.mem z.mem (by intro e;rw[<-f] at e;rw[e] at d;have J:(0:Re)<1:=Re.G1.2 (show (0:Rat)<1 by decide);grind);obtain⟨i,I,k⟩:=EC h.red.1 H.mem v;refine iq h (o h.tail) w m j f g z I k ?_ D n
  have:y=x*y*((p-q*rt u r)*i):=by
   have:x*y*((p-q*rt u r)*i)=y*((p*p-q*q*AL u r)*i):=by rw[f];clear o;grind
   rw[this,k];clear o;grind
  rw[d] at this
  clear o;grind
theorem KU (h:At R u) (m:T=tw u) (g:A=em u x) (i:B=em u y) (d:El u s x) (f:El u t y) (n:s<=60000000000000) (ht:t<=60000000000000) (k:C=em u (x+y)):CF 229 [.one (.sl (.sl AA) T),.one (.sl AA A),.one (.sl AA B)] (.one (.sl AA C)):=by
 refine AJ Tryz.func229 fun E j=>?_
 conv=>cbv
 refine AB (r:= .one (.bool true)) j (Q2 m h.G7 g (d.CJ (by omega)) (by rw[d.len,List.length_reverse]) i (f.CJ (by omega)) (by rw[f.len,List.length_reverse])) ?_;conv=>cbv
 refine AO ?_;conv=>cbv
 refine AB j (Nx h g i d f n ht k) ?_;conv=>cbv
 exact AD ⟨t2,trivial⟩
theorem Ng (h:At R u) (n:T=tw u) (j:A=em u x) (k:B=em u y) (i:El u s x) (f:El u t y) (o:s<=60000000000000) (ht:t<=60000000000000) (m:C=em u (x-y)):CF 261 [.one (.sl (.sl AA) T),.one (.sl AA A),.one (.sl AA B)] (.one (.sl AA C)):=by
 refine AJ Tryz.func261 fun E g=>?_
 conv=>cbv
 refine AB (r:= .one (.bool true)) g (Q2 n h.G7 j (i.CJ (by omega)) (by rw[i.len,List.length_reverse]) k (f.CJ (by omega)) (by rw[f.len,List.length_reverse])) ?_;conv=>cbv
 refine AO ?_;conv=>cbv
 obtain⟨v,d⟩:=xR (em u (-y));refine AB g (Oz h k f ht d) ?_;conv=>cbv
 refine AB (r:= .one (.sl AA C)) g (Nx h j d i (f.neg h.red) o ht (by rw[m];congr 1)) ?_;try conv=>cbv
 exact AD ⟨t2,trivial⟩
theorem H3 (h:At R u) (m:T=tw u) (i:A=em u x) (j:B=em u y) (f:El u s x) (g:El u t y) (d:s+t+EE u.length R<=60000000000000) (n:C=em u (x*y)):CF 227 [.one (.sl (.sl AA) T),.one (.sl AA A),.one (.sl AA B)] (.one (.sl AA C)):=by
 refine AJ Tryz.func227 fun E k=>?_
 conv=>cbv
 refine AB (r:= .one (.bool true)) k (Q2 m h.G7 i (f.CJ (by omega)) (by rw[f.len,List.length_reverse]) j (g.CJ (by omega)) (by rw[g.len,List.length_reverse])) ?_;conv=>cbv
 refine AO ?_;conv=>cbv
 refine AB k (Mq h m i j f g d n) ?_;conv=>cbv
 exact AD ⟨t2,trivial⟩
theorem UM (h:At R u) (j:T=tw u) (f:A=em u x) (d:El u s x) (k:s<=60000000000000) (i:C=em u (-x)):CF 337 [.one (.sl (.sl AA) T),.one (.sl AA A)] (.one (.sl AA C)):=by
 refine AJ Tryz.func337 fun E g=>?_
 conv=>cbv
 refine AB (r:= .one (.bool true)) g (IW j h.G7 f (d.CJ (by omega)) (by rw[d.len,List.length_reverse];exact (decide_eq_true rfl).symm)) ?_;try conv=>cbv
 refine AO ?_;conv=>cbv
 refine AB g (Oz h f d k i) ?_;conv=>cbv
 exact AD ⟨t2,trivial⟩
theorem NZ (h:At R u) (j:T=tw u) (g:A=em u x) (d:El u s x) (o:In u y) (f:x*y=1) (n:II u.length R s<=60000000000000) (k:C=em u y):CF 223 [.one (.sl (.sl AA) T),.one (.sl AA A)] (.AF [(false,[.sl AA C]),(false,[.int .i64 0])]):=by
 have m:=E1 u.length R s;refine AJ Tryz.func223 fun E i=>?_
 conv=>cbv
 refine AB (r:= .one (.bool true)) i (IW j h.G7 g (d.CJ (by omega)) (by rw[d.len,List.length_reverse];exact (decide_eq_true rfl).symm)) ?_;try conv=>cbv
 refine AO ?_;conv=>cbv
 refine AB i (ie h j g d o f n k) ?_;conv=>cbv
 refine AO ?_;conv=>cbv
 exact AD ⟨t2,t2,trivial⟩
theorem Pq {q:Re} (h:At R (r::u)) (f:T=tw (r::u)) (o:A=em (r::u) x) (j:El (r::u) s x) (k:x=p+q*rt u r) (g:In u p) (i:In u q) (D:2*s+2*EE u.length R+R+1<=60000000000000) (z:C=em u (p*p-q*q*AL u r)):CF 331 [.one (.sl (.sl AA) T),.one (.sl AA A)] (.one (.sl AA C)):=by
 refine AJ Tryz.func331 fun E v=>?_
 conv=>cbv
 refine AB (r:= .one (.bool true)) v (IW f h.G7 o (j.CJ (by omega)) (by rw[j.len,List.length_reverse];exact (decide_eq_true rfl).symm)) ?_;try conv=>cbv
 refine AO ?_;conv=>cbv
 rintro F ⟨w,f11⟩;conv=>cbv
 intro n d;conv=>cbv
 cases n <;> conv=>cbv
 ·have m:=Ao d;refine AB v (YM h f o j k g i D z) ?_;conv=>cbv
  exact AD ⟨t2,trivial⟩
 have m:=BA d;exact absurd (List.length_eq_zero_iff.1 (by omega)) (f ▸ Lm r u)
theorem mr {n:Nat} (h:0<n):(List.replicate n (rp 0)).set 0 (rp q)=rp q::List.replicate (n-1) (rp 0):=by
 cases n with
 | zero=>omega
 | succ n=>rfl
theorem Wg (h:AZ u):em u (Re.ofRat q)=(em u 0).set 0 (rp q):=by
 rw[em,IA q h,Qv h,BD,BD,List.map_cons,List.map_replicate,List.map_replicate,mr (C2 _)]
theorem Wh (h:AZ (r::u)):em (r::u) (rt u r)=(em (r::u) 0).set (2^u.length) (rp 1):=by
 have e:rt u r=0+1*rt u r:=by grind
 rw[Fp h (CG u) (KA u) e,Fp (x:=0) h (CG u) (CG u) (by grind),List.set_append_right _ _ (by rw[Bl (CG u)];omega),Bl (CG u),Nat.sub_self]
 congr 1
 exact Wg (q:=1) h.1
theorem Jq {b1 b2:Bool} {l1 l2:List UInt32} (h:At R u) (F:T=tw u) (w:Bn q b1 l1 b2 l2) (M:CL q) (J:C=em u (Re.ofRat q)):CF 330 [.one (.sl (.sl AA) T),.agg (B5 b1 l1 b2 l2)] (.one (.sl AA C)):=by
 refine AJ Tryz.func330 fun E o=>?_
 conv=>cbv
 refine AB o (SW F h.G7 rfl) ?_;conv=>cbv
 refine AO ?_;conv=>cbv
 have L:=w.small M;refine AB o (UP (TV.2 ⟨q,w⟩).symm (by omega) (by omega)) ?_;conv=>cbv
 refine AO ?_;conv=>cbv
 have v:T.length=u.length:=by rw[F,CB]
 have k:=h.ht;rintro N ⟨n,f15⟩;conv=>cbv
 intro O k;conv=>cbv
 refine AI ?_;obtain⟨f,d⟩:=xR (em u (0));obtain⟨I,i⟩:=xN f.length;refine AB o (Pf h (Fg k (n.trans (congrArg _ v))) d i) ?_;conv=>cbv
 have H:f.length=2^u.length:=by rw[d,Bl (CG u)]
 have K:=C2 u.length;refine AI ?_;intro z G;conv=>cbv
 refine⟨((b1,l1),(b2,l2)),fun _=>⟨by show _<List.length (α:=(el AA)) f;(first | omega | (simp;omega)),by first | exact t1 | exact t2 | exact t4 | simp[BV,Bm,cells]⟩,?_⟩;intro (j:LR) (g:j=List.set (α:=(el AA)) f z (((b1,l1),(b2,l2))));have D:j.length=f.length:=by rw[g,List.length_set]
 conv=>cbv
 have m:C=j:=by rw[J,Wg h.red,g,d,w.rp];congr 1;omega
 exact AD ⟨⟨rfl,.inl ⟨_,rfl,by omega,congrArg _ (by rw[m,List.drop_zero,List.take_of_length_le (by omega)])⟩,trivial⟩,trivial⟩
theorem cY {k:Int} (h:At R (r::u)) (S:T=tw (r::u)) (hk:AW k u.length) (hC:C=em (r::u) (rt u r)):CF 308 [.one (.sl (.sl AA) T),.one (.int .i64 k)] (.one (.sl AA C)):=by
 have ek:=hk.eq;have M:T.length=u.length+1:=by rw[S,CB];rfl
 have a1:=h.ht;have U:(r::u).length=u.length+1:=rfl;refine AJ Tryz.func308 fun E L=>?_
 conv=>cbv
 refine AB L (SW S h.G7 rfl) ?_;conv=>cbv
 refine AO ?_;conv=>cbv
 intro O z;conv=>cbv
 cases O <;> conv=>cbv
 ·have G:=BB z;rintro a6 ⟨Z,f16⟩;conv=>cbv
  intro P D;conv=>cbv
  cases P <;> conv=>cbv
  ·have H:=Fs D;rintro a7 ⟨I,f20⟩;conv=>cbv
   intro a8 J;conv=>cbv
   refine AI ?_;obtain⟨f,d⟩:=xR (em (r::u) (0));obtain⟨Y,v⟩:=xN f.length;refine AB L (Pf h (Fg J (I.trans (congrArg _ M))) d v) ?_;conv=>cbv
   intro aa K;conv=>cbv
   refine AI ?_;obtain⟨n,o,j,m,i⟩:=CH (((1:Int):Rat));refine AB L (H4 (by omega) rfl i) ?_;conv=>cbv
   have W:f.length=2^(r::u).length:=by rw[d,Bl (CG _)]
   have a5:=C2 u.length;have a2:=B4 r u;have X:=(Fg K ek).eq;refine AI ?_;intro N V;conv=>cbv
   refine⟨((n,o),(j,m)),fun _=>⟨by show _<List.length (α:=(el AA)) f;(first | omega | (simp;omega)),by first | exact t1 | exact t2 | exact t4 | simp[BV,Bm,cells]⟩,?_⟩;intro (w:LR) (g:w=List.set (α:=(el AA)) f N (((n,o),(j,m))));have Q:w.length=f.length:=by rw[g,List.length_set]
   conv=>cbv
   refine g2 rfl ?_;have F:C=w:=by rw[hC,Wh h.red,g,d];congr 1 <;> first | omega | exact i.rp
   exact AD ⟨⟨rfl,.inl ⟨_,rfl,by omega,congrArg _ (by rw[F,List.drop_zero,List.take_of_length_le (by omega)])⟩,trivial⟩,trivial⟩
  have H:=Ft D;exact absurd H (by omega)
 have G:=BC z;exact absurd G (by omega)
end Go.Abs
namespace Go.Abs
open Go.RowKit
variable {a b:Nat} {b1 b2 c c1 c2 d1 d2:Bool} {k1 k2 l l' l1 l2 m1 m2:List UInt32} {r:Rat} {x y:Int}
theorem Ow (p q:Rat):(p*q).num=(p.num/((Nat.gcd p.num.natAbs q.den:Nat):Int))*(q.num/((Nat.gcd q.num.natAbs p.den:Nat):Int)):=by
 show (Rat.mul p q).num=_
 unfold Rat.mul
 dsimp only
 rw[Int.divExact_eq_ediv,Int.divExact_eq_ediv]
theorem Ov (p q:Rat):((p*q).den:Int)=((p.den:Int)/((Nat.gcd q.num.natAbs p.den:Nat):Int))*((q.den:Int)/((Nat.gcd p.num.natAbs q.den:Nat):Int)):=by
 have:(p*q).den=(p.den/Nat.gcd q.num.natAbs p.den)*(q.den/Nat.gcd p.num.natAbs q.den):=by
  show (Rat.mul p q).den=_
  unfold Rat.mul
  dsimp only
  rw[Nat.divExact_eq_div,Nat.divExact_eq_div]
 rw[this,Int.natCast_mul,Int.natCast_ediv,Int.natCast_ediv]
theorem VC (p q:Rat) (h:Nat.gcd p.den q.den=1):(p+q).num=p.num*q.den+q.num*p.den/\((p+q).den:Int)=(p.den:Int)*q.den:=by
 have:(p+q)=Rat.add p q:=rfl;rw[this];unfold Rat.add
 dsimp only
 rw[dif_pos h];exact⟨rfl,by rw[Int.natCast_mul]⟩
theorem VD (p q:Rat) {g h:Nat} {N:Int} (i:g=Nat.gcd p.den q.den) (m:g≠1) (v:x=(p.den:Int)/g) (w:y=(q.den:Int)/g) (n:N=p.num*y+q.num*x) (k:h=Nat.gcd N.natAbs g):
  (p+q).num=N/h/\((p+q).den:Int)=x*((q.den:Int)/h):=by
 have e:(p+q)=Rat.add p q:=rfl;have d:x=((p.den/g:Nat):Int):=by rw[v,Int.natCast_ediv]
 have j:y=((q.den/g:Nat):Int):=by rw[w,Int.natCast_ediv]
 have f:p.num*((q.den/Nat.gcd p.den q.den:Nat):Int)+q.num*((p.den/Nat.gcd p.den q.den:Nat):Int)=N:=by rw[n,d,j,i]
 have o:h∣q.den:=by rw[k];exact Nat.dvd_trans (Nat.gcd_dvd_right _ _) (by rw[i];exact Nat.gcd_dvd_right _ _)
 subst i;rw[e];unfold Rat.add
 dsimp only
 rw[dif_neg m,Rat.maybeNormalize_eq]
 dsimp only
 rw[Int.divExact_eq_ediv,f,<-k];refine⟨rfl,?_⟩;rw[d,Nat.mul_div_assoc _ o,Int.natCast_mul,Int.natCast_ediv (q.den)]
theorem FX {a:Int} (hb:b≠0):a=a/((Nat.gcd a.natAbs b:Nat):Int)*((Nat.gcd a.natAbs b:Nat):Int)/\(b:Int)=(b:Int)/((Nat.gcd a.natAbs b:Nat):Int)*((Nat.gcd a.natAbs b:Nat):Int):=by
 exact⟨(Int.ediv_mul_cancel (Int.ofNat_dvd_left.2 (Nat.gcd_dvd_left _ _))).symm,(Int.ediv_mul_cancel (Int.natCast_dvd_natCast.2 (Nat.gcd_dvd_right _ _))).symm⟩
theorem E2 (hb:b≠0):((Nat.gcd a b:Nat):Int)≠0:=by
 have:=Nat.gcd_pos_of_pos_right a (n:=b) (by omega);omega
theorem Gh {q:Int} {b b':Bool} (f:As x b l) (d:As q b' l') (g:y≠0) (h:x=q*y):l'.length<=l.length:=by
 rw[f.Bh,d.Bh];exact EM (by rw[h,Int.natAbs_mul];exact Nat.le_mul_of_pos_right _ (by omega))
theorem HI {x:Int} {d:Bool} (hb:b≠0) (h:As (b:Int) c l) (h':As ((Nat.gcd a b:Nat):Int) d l'):l'.length<=l.length:=by
 rw[h.Bh,h'.Bh,Int.natAbs_natCast,Int.natAbs_natCast];exact EM (Nat.le_of_dvd (by omega) (Nat.gcd_dvd_right _ _))
theorem Jv {b:Bool} (h:As x b l) (hc:c=decide (x=1)):CF 342 [.agg (Bg b l)] (.one (.bool c)):=by
 refine AJ Tryz.func342 fun E H=>?_
 conv=>cbv
 rintro I ⟨G,f5⟩;conv=>cbv
 intro F o;conv=>cbv
 cases F <;> conv=>cbv
 ·have w:=Ao o;exact AD ⟨⟨rfl,congrArg _ (by rw[hc];exact (YY h (by omega)).symm),trivial⟩,trivial⟩
 have w:=BA o;obtain⟨n,d⟩:=AP (l:=l) (i:=0) (by omega);refine⟨n,fun _=>⟨by omega,d⟩,?_⟩;try conv=>cbv
 intro z f;have v:=f.eq;have f11:=f.lt;conv=>cbv
 intro m g;conv=>cbv
 cases m <;> conv=>cbv
 ·have k:=Ao g;exact AD ⟨⟨rfl,congrArg _ (by rw[hc];cases b with | true=>exact (SD h rfl).symm | false=>rw[<-SF h rfl (by omega) d];simp only[decide_eq_false_iff_not];omega),trivial⟩,trivial⟩
 have k:=BA g;intro D j;conv=>cbv
 exact AD ⟨⟨rfl,congrArg _ (by rw[hc,j];cases b with | true=>exact (SD h rfl).symm | false=>rw[<-SF h rfl (by omega) d];simp;omega),trivial⟩,trivial⟩
theorem Ep {q:Int} {b3:Bool} {l3:List UInt32} (i:As x b1 l1) (j:As y b2 l2) (f:y≠0) (d:x=q*y) (h:As q b3 l3) (s1:l1.length<=17592186043000) (s2:l2.length<=17592186043000):CF 298 [.agg (Bg b1 l1),.agg (Bg b2 l2)] (.agg (Bg b3 l3)):=by
 refine AJ Tryz.func298 fun E g=>?_
 conv=>cbv
 refine AB g (cw i j f d h s1 s2) ?_;conv=>cbv
 exact AD ⟨t3,trivial⟩
theorem Fk {q:Rat} (j: -9223372036854775808<=x/\x<9223372036854775808) (g:q=(x:Rat)) (h:Bn q c1 m1 c2 m2):CF 182 [.one (.int .i64 x)] (.agg (B5 c1 m1 c2 m2)):=by
 refine AJ Tryz.func182 fun E i=>?_
 conv=>cbv
 obtain⟨k,n,d⟩:=Al (x);refine AB i (Nk j d) ?_;conv=>cbv
 obtain⟨m,o,f⟩:=Al (1);refine AB i (Nk (by omega) f) ?_;conv=>cbv
 exact AD ⟨⟨rfl,congrArg _ ((d.uniq h.num (by rw[g];rfl)).1.symm),congrArg _ ((d.uniq h.num (by rw[g];rfl)).2.symm),congrArg _ ((f.uniq h.den (by rw[g];rfl)).1.symm),congrArg _ ((f.uniq h.den (by rw[g];rfl)).2.symm),trivial⟩,trivial⟩
theorem Ui {q:Rat} {c:Int} (g:Bn q b1 l1 b2 l2) (hc:c=Ez q):CF 243 [.agg (B5 b1 l1 b2 l2)] (.one (.int .i64 c)):=by
 refine AJ Tryz.func243 fun E f=>?_
 conv=>cbv
 obtain⟨h,d⟩:=xI (CZ q.num);refine AB f (Kc g.num d) ?_;conv=>cbv
 exact AD ⟨⟨rfl,congrArg _ (by rw[hc,d];rfl),trivial⟩,trivial⟩
theorem dQ {q p:Rat} (h:Bn q b1 l1 b2 l2) (f:p= -q) (g:Bn p c1 m1 c2 m2):CF 293 [.agg (B5 b1 l1 b2 l2)] (.agg (B5 c1 m1 c2 m2)):=by
 refine AJ Tryz.func293 fun E i=>?_
 conv=>cbv
 obtain⟨j,k,d⟩:=Al (-q.num);refine AB i (L4 h.num d) ?_;conv=>cbv
 refine g2 rfl ?_;exact AD ⟨⟨rfl,congrArg _ ((d.uniq g.num (by rw[f];rfl)).1.symm),congrArg _ ((d.uniq g.num (by rw[f];rfl)).2.symm),congrArg _ ((h.den.uniq g.den (by rw[f];rfl)).1.symm),congrArg _ ((h.den.uniq g.den (by rw[f];rfl)).2.symm),trivial⟩,trivial⟩
theorem dN {p q:Rat} {c:Int} (f:Bn p b1 l1 b2 l2) (g:Bn q c1 m1 c2 m2) (j:CL p) (ht:CL q) (hc:c=HH p q):CF 28 [.agg (B5 b1 l1 b2 l2),.agg (B5 c1 m1 c2 m2)] (.one (.int .i64 c)):=by
 refine AJ Tryz.func28 fun E n=>?_
 conv=>cbv
 obtain⟨v,w,i⟩:=Al (p.num*q.den);refine AB (r:= .agg [.bool v,.sl .u32 w]) n (Dr f.num g.den i (by have:=f.small j;have:=g.small ht;omega) (by have:=f.small j;have:=g.small ht;omega)) ?_;try conv=>cbv
 obtain⟨k,m,d⟩:=Al (q.num*p.den);refine AB (r:= .agg [.bool k,.sl .u32 m]) n (Dr g.num f.den d (by have:=f.small j;have:=g.small ht;omega) (by have:=f.small j;have:=g.small ht;omega)) ?_;try conv=>cbv
 obtain⟨o,h⟩:=xI (Bw (p.num*q.den) (q.num*p.den));refine AB (r:= .one (.int .i64 o)) n (cu i d h (by have:=f.small j;have:=g.small ht;have:=f.num.Di g.den i rfl;omega) (by have:=f.small j;have:=g.small ht;have:=g.num.Di f.den d rfl;omega)) ?_;try conv=>cbv
 refine g2 rfl ?_;exact AD ⟨⟨rfl,congrArg _ (by rw[hc,h,WE]),trivial⟩,trivial⟩
theorem dP {p q:Rat} (k:Bn p b1 l1 b2 l2) (F:Bn q c1 m1 c2 m2) (hs:CL p) (ht:CL q) (I:r=p*q) (G:Bn r d1 k1 d2 k2):CF 289 [.agg (B5 b1 l1 b2 l2),.agg (B5 c1 m1 c2 m2)] (.agg (B5 d1 k1 d2 k2)):=by
 have ao:=k.small hs;have aq:=F.small ht;have d:=p.den_nz;have f:=q.den_nz;refine AJ Tryz.func289 fun E D=>?_
 conv=>cbv
 rintro ar ⟨al,f10⟩;conv=>cbv
 intro ah a5;conv=>cbv
 cases ah <;> conv=>cbv
 ·have af:=Ao a5;rintro au ⟨an,f16⟩;conv=>cbv
  intro ai a6;conv=>cbv
  cases ai <;> conv=>cbv
  ·have ag:=Ao a6;obtain⟨ad,j⟩:=xB (decide ((p.den:Int)=1));refine AB D (Jv k.den j) ?_;conv=>cbv
   cases ad <;> conv=>cbv
   ·obtain⟨a7,aa,h⟩:=Al (((Nat.gcd p.num.natAbs q.den:Nat):Int));refine AB D (H8 k.num F.den h (by omega) (by omega)) ?_;conv=>cbv
    obtain⟨a8,ab,i⟩:=Al (((Nat.gcd q.num.natAbs p.den:Nat):Int));refine AB D (H8 F.num k.den i (by omega) (by omega)) ?_;conv=>cbv
    refine g2 rfl ?_;obtain⟨N,W,m⟩:=Al (p.num/((Nat.gcd p.num.natAbs q.den:Nat):Int));refine AB (r:= .agg [.bool N,.sl .u32 W]) D (Ep k.num h (E2 f) (FX f).1 m (by omega) (by have:=HI (x:=0) f F.den h;omega)) ?_;try conv=>cbv
    obtain⟨O,X,n⟩:=Al (q.num/((Nat.gcd q.num.natAbs p.den:Nat):Int));refine AB (r:= .agg [.bool O,.sl .u32 X]) D (Ep F.num i (E2 d) (FX d).1 n (by omega) (by have:=HI (x:=0) d k.den i;omega)) ?_;try conv=>cbv
    obtain⟨P,Y,o⟩:=Al ((p.num/((Nat.gcd p.num.natAbs q.den:Nat):Int))*(q.num/((Nat.gcd q.num.natAbs p.den:Nat):Int)));refine AB (r:= .agg [.bool P,.sl .u32 Y]) D (Dr m n o (by have:=Gh k.num m (E2 f) (FX f).1;omega) (by have:=Gh F.num n (E2 d) (FX d).1;omega)) ?_;try conv=>cbv
    obtain⟨Q,Z,v⟩:=Al ((p.den:Int)/((Nat.gcd q.num.natAbs p.den:Nat):Int));refine AB (r:= .agg [.bool Q,.sl .u32 Z]) D (Ep k.den i (E2 d) (FX d).2 v (by omega) (by have:=HI (x:=0) d k.den i;omega)) ?_;try conv=>cbv
    obtain⟨S,a1,w⟩:=Al ((q.den:Int)/((Nat.gcd p.num.natAbs q.den:Nat):Int));refine AB (r:= .agg [.bool S,.sl .u32 a1]) D (Ep F.den h (E2 f) (FX f).2 w (by omega) (by have:=HI (x:=0) f F.den h;omega)) ?_;try conv=>cbv
    obtain⟨U,a2,z⟩:=Al (((p.den:Int)/((Nat.gcd q.num.natAbs p.den:Nat):Int))*((q.den:Int)/((Nat.gcd p.num.natAbs q.den:Nat):Int)));refine AB (r:= .agg [.bool U,.sl .u32 a2]) D (Dr v w z (by have:=Gh k.den v (E2 d) (FX d).2;omega) (by have:=Gh F.den w (E2 f) (FX f).2;omega)) ?_;try conv=>cbv
    refine g2 rfl ?_;exact AD ⟨⟨rfl,congrArg _ ((o.uniq G.num (by rw[I,Ow])).1.symm),congrArg _ ((o.uniq G.num (by rw[I,Ow])).2.symm),congrArg _ ((z.uniq G.den (by rw[I,Ov])).1.symm),congrArg _ ((z.uniq G.den (by rw[I,Ov])).2.symm),trivial⟩,trivial⟩
   obtain⟨ae,H⟩:=xB (decide ((q.den:Int)=1));refine AB D (Jv F.den H) ?_;conv=>cbv
   cases ae <;> conv=>cbv
   ·obtain⟨a7,aa,h⟩:=Al (((Nat.gcd p.num.natAbs q.den:Nat):Int));refine AB D (H8 k.num F.den h (by omega) (by omega)) ?_;conv=>cbv
    obtain⟨a8,ab,i⟩:=Al (((Nat.gcd q.num.natAbs p.den:Nat):Int));refine AB D (H8 F.num k.den i (by omega) (by omega)) ?_;conv=>cbv
    refine g2 rfl ?_;obtain⟨N,W,m⟩:=Al (p.num/((Nat.gcd p.num.natAbs q.den:Nat):Int));refine AB (r:= .agg [.bool N,.sl .u32 W]) D (Ep k.num h (E2 f) (FX f).1 m (by omega) (by have:=HI (x:=0) f F.den h;omega)) ?_;try conv=>cbv
    obtain⟨O,X,n⟩:=Al (q.num/((Nat.gcd q.num.natAbs p.den:Nat):Int));refine AB (r:= .agg [.bool O,.sl .u32 X]) D (Ep F.num i (E2 d) (FX d).1 n (by omega) (by have:=HI (x:=0) d k.den i;omega)) ?_;try conv=>cbv
    obtain⟨P,Y,o⟩:=Al ((p.num/((Nat.gcd p.num.natAbs q.den:Nat):Int))*(q.num/((Nat.gcd q.num.natAbs p.den:Nat):Int)));refine AB (r:= .agg [.bool P,.sl .u32 Y]) D (Dr m n o (by have:=Gh k.num m (E2 f) (FX f).1;omega) (by have:=Gh F.num n (E2 d) (FX d).1;omega)) ?_;try conv=>cbv
    obtain⟨Q,Z,v⟩:=Al ((p.den:Int)/((Nat.gcd q.num.natAbs p.den:Nat):Int));refine AB (r:= .agg [.bool Q,.sl .u32 Z]) D (Ep k.den i (E2 d) (FX d).2 v (by omega) (by have:=HI (x:=0) d k.den i;omega)) ?_;try conv=>cbv
    obtain⟨S,a1,w⟩:=Al ((q.den:Int)/((Nat.gcd p.num.natAbs q.den:Nat):Int));refine AB (r:= .agg [.bool S,.sl .u32 a1]) D (Ep F.den h (E2 f) (FX f).2 w (by omega) (by have:=HI (x:=0) f F.den h;omega)) ?_;try conv=>cbv
    obtain⟨U,a2,z⟩:=Al (((p.den:Int)/((Nat.gcd q.num.natAbs p.den:Nat):Int))*((q.den:Int)/((Nat.gcd p.num.natAbs q.den:Nat):Int)));refine AB (r:= .agg [.bool U,.sl .u32 a2]) D (Dr v w z (by have:=Gh k.den v (E2 d) (FX d).2;omega) (by have:=Gh F.den w (E2 f) (FX f).2;omega)) ?_;try conv=>cbv
    refine g2 rfl ?_;exact AD ⟨⟨rfl,congrArg _ ((o.uniq G.num (by rw[I,Ow])).1.symm),congrArg _ ((o.uniq G.num (by rw[I,Ow])).2.symm),congrArg _ ((z.uniq G.den (by rw[I,Ov])).1.symm),congrArg _ ((z.uniq G.den (by rw[I,Ov])).2.symm),trivial⟩,trivial⟩
   obtain⟨aj,ak,J⟩:=Al (p.num*q.num);refine AB D (Dr k.num F.num J (by omega) (by omega)) ?_;conv=>cbv
   refine g2 rfl ?_;exact AD ⟨⟨rfl,congrArg _ ((J.uniq G.num (by rw[I];exact (mul_ones (of_decide_eq_true j.symm) (of_decide_eq_true H.symm)).1.symm)).1.symm),congrArg _ ((J.uniq G.num (by rw[I];exact (mul_ones (of_decide_eq_true j.symm) (of_decide_eq_true H.symm)).1.symm)).2.symm),congrArg _ ((k.den.uniq G.den (by rw[I,(mul_ones (of_decide_eq_true j.symm) (of_decide_eq_true H.symm)).2];exact of_decide_eq_true j.symm)).1.symm),congrArg _ ((k.den.uniq G.den (by rw[I,(mul_ones (of_decide_eq_true j.symm) (of_decide_eq_true H.symm)).2];exact of_decide_eq_true j.symm)).2.symm),trivial⟩,trivial⟩
  have ag:=BA a6;obtain⟨M,V,K,L,g⟩:=CH (r);refine AB (r:= .agg [.bool M,.sl .u32 V,.bool K,.sl .u32 L]) D (Fk (x:=0) (by omega) (by rw[I];first | (rw[Rat.num_eq_zero.1 (k.num.GR.1 (by omega)),Rat.zero_mul];rfl) | (rw[Rat.num_eq_zero.1 (F.num.GR.1 (by omega)),Rat.mul_zero];rfl)) g) ?_;try conv=>cbv
  exact AD ⟨⟨rfl,congrArg _ ((g.uniq G rfl).1.1.symm),congrArg _ ((g.uniq G rfl).1.2.symm),congrArg _ ((g.uniq G rfl).2.1.symm),congrArg _ ((g.uniq G rfl).2.2.symm),trivial⟩,trivial⟩
 have af:=BA a5;obtain⟨M,V,K,L,g⟩:=CH (r);refine AB (r:= .agg [.bool M,.sl .u32 V,.bool K,.sl .u32 L]) D (Fk (x:=0) (by omega) (by rw[I];first | (rw[Rat.num_eq_zero.1 (k.num.GR.1 (by omega)),Rat.zero_mul];rfl) | (rw[Rat.num_eq_zero.1 (F.num.GR.1 (by omega)),Rat.mul_zero];rfl)) g) ?_;try conv=>cbv
 exact AD ⟨⟨rfl,congrArg _ ((g.uniq G rfl).1.1.symm),congrArg _ ((g.uniq G rfl).1.2.symm),congrArg _ ((g.uniq G rfl).2.1.symm),congrArg _ ((g.uniq G rfl).2.2.symm),trivial⟩,trivial⟩
theorem dM {p q:Rat} (i:Bn p b1 l1 b2 l2) (g:Bn q c1 m1 c2 m2) (hs:CL p) (ht:CL q) (M:r=p+q) (w:Bn r d1 k1 d2 k2):CF 288 [.agg (B5 b1 l1 b2 l2),.agg (B5 c1 m1 c2 m2)] (.agg (B5 d1 k1 d2 k2)):=by
 have aZ:=i.small hs;have b0:=g.small ht;have aY:=p.den_nz;have a7:=q.den_nz;have P:((Nat.gcd p.den q.den:Nat):Int)≠0:=E2 a7;obtain⟨x,a8⟩:=xI ((p.den:Int)/((Nat.gcd p.den q.den:Nat):Int));obtain⟨y,aa⟩:=xI ((q.den:Int)/((Nat.gcd p.den q.den:Nat):Int));have a1:(p.den:Int)=x*((Nat.gcd p.den q.den:Nat):Int):=by rw[a8];exact (Int.ediv_mul_cancel (Int.natCast_dvd_natCast.2 (Nat.gcd_dvd_left _ _))).symm
 have a2:(q.den:Int)=y*((Nat.gcd p.den q.den:Nat):Int):=by rw[aa];exact (Int.ediv_mul_cancel (Int.natCast_dvd_natCast.2 (Nat.gcd_dvd_right _ _))).symm
 refine AJ Tryz.func288 fun E h=>?_
 conv=>cbv
 rintro b3 ⟨aW,f14⟩;conv=>cbv
 intro aS ab;conv=>cbv
 cases aS <;> conv=>cbv
 ·have aQ:=Ao ab;rintro b4 ⟨aX,f20⟩;conv=>cbv
  intro aT ad;conv=>cbv
  cases aT <;> conv=>cbv
  ·have aR:=Ao ad;obtain⟨aO,z⟩:=xB (decide ((p.den:Int)=1));refine AB h (Jv i.den z) ?_;conv=>cbv
   cases aO <;> conv=>cbv
   ·obtain⟨an,aC,d⟩:=Al (((Nat.gcd p.den q.den:Nat):Int));refine AB h (H8 i.den g.den d (by omega) (by omega)) ?_;conv=>cbv
    have ae:=HI (x:=0) a7 g.den d;obtain⟨a5,D⟩:=xB (decide (((Nat.gcd p.den q.den:Nat):Int)=1));refine AB h (Jv d D) ?_;conv=>cbv
    cases a5 <;> conv=>cbv
    ·obtain⟨au,aG,f⟩:=Al (x);refine AB h (Ep i.den d P a1 f (by omega) (by omega)) ?_;conv=>cbv
     have af:=Gh i.den f P a1;obtain⟨av,aH,j⟩:=Al (y);refine AB h (Ep g.den d P a2 j (by omega) (by omega)) ?_;conv=>cbv
     have ag:=Gh g.den j P a2;refine g2 rfl ?_;obtain⟨aw,aI,m⟩:=Al (p.num*y);refine AB h (Dr i.num j m (by omega) (by omega)) ?_;conv=>cbv
     have ah:=i.num.Di j m rfl;obtain⟨ax,aJ,n⟩:=Al (q.num*x);refine AB h (Dr g.num f n (by omega) (by omega)) ?_;conv=>cbv
     have ai:=g.num.Di f n rfl;obtain⟨ay,aK,o⟩:=Al ((p.num*y+q.num*x));refine AB h (Kb m n o (by omega) (by omega)) ?_;conv=>cbv
     have aj:=m.Nv n o rfl (k:=8000000000000) (by omega) (by omega);refine g2 rfl ?_;obtain⟨X,Z,v⟩:=Al (((Nat.gcd (p.num*y+q.num*x).natAbs (Nat.gcd p.den q.den):Nat):Int));refine AB (r:= .agg [.bool X,.sl .u32 Z]) h (H8 o d (by rw[Int.natAbs_natCast];exact v) (by omega) (by omega)) ?_;try conv=>cbv
     have Q:Nat.gcd p.den q.den≠0:=by omega
     have ak:=HI (x:=0) Q d v;have a6:(p.num*y+q.num*x)=(p.num*y+q.num*x)/((Nat.gcd (p.num*y+q.num*x).natAbs (Nat.gcd p.den q.den):Nat):Int)*((Nat.gcd (p.num*y+q.num*x).natAbs (Nat.gcd p.den q.den):Nat):Int):=(FX Q).1;have S:=E2 (a:=(p.num*y+q.num*x).natAbs) Q;have U:(q.den:Int)=(q.den:Int)/((Nat.gcd (p.num*y+q.num*x).natAbs (Nat.gcd p.den q.den):Nat):Int)*((Nat.gcd (p.num*y+q.num*x).natAbs (Nat.gcd p.den q.den):Nat):Int):=(Int.ediv_mul_cancel (Int.natCast_dvd_natCast.2 (Nat.dvd_trans (Nat.gcd_dvd_right _ _) (Nat.gcd_dvd_right _ _)))).symm;obtain⟨az,aL,J⟩:=Al ((p.num*y+q.num*x)/((Nat.gcd (p.num*y+q.num*x).natAbs (Nat.gcd p.den q.den):Nat):Int));refine AB h (Ep o v S a6 J (by omega) (by omega)) ?_;conv=>cbv
     obtain⟨aA,aM,K⟩:=Al ((q.den:Int)/((Nat.gcd (p.num*y+q.num*x).natAbs (Nat.gcd p.den q.den):Nat):Int));refine AB h (Ep g.den v S U K (by omega) (by omega)) ?_;conv=>cbv
     have al:=Gh g.den K S U;obtain⟨aB,aN,L⟩:=Al (x*((q.den:Int)/((Nat.gcd (p.num*y+q.num*x).natAbs (Nat.gcd p.den q.den):Nat):Int)));refine AB h (Dr f K L (by omega) (by omega)) ?_;conv=>cbv
     refine g2 rfl ?_;have N:=VD p q rfl (fun e=>by have:=of_decide_eq_false D.symm;omega) a8 aa rfl rfl;exact AD ⟨⟨rfl,congrArg _ ((J.uniq w.num (by rw[M];exact N.1.symm)).1.symm),congrArg _ ((J.uniq w.num (by rw[M];exact N.1.symm)).2.symm),congrArg _ ((L.uniq w.den (by rw[M];exact N.2.symm)).1.symm),congrArg _ ((L.uniq w.den (by rw[M];exact N.2.symm)).2.symm),trivial⟩,trivial⟩
    obtain⟨ao,aD,F⟩:=Al (p.num*q.den);refine AB h (Dr i.num g.den F (by omega) (by omega)) ?_;conv=>cbv
    obtain⟨aq,aE,G⟩:=Al (q.num*p.den);refine AB h (Dr g.num i.den G (by omega) (by omega)) ?_;conv=>cbv
    obtain⟨W,Y,H⟩:=Al (p.num*q.den+q.num*p.den);refine AB (r:= .agg [.bool W,.sl .u32 Y]) h (Kb F G H (by have:=i.num.Di g.den F rfl;omega) (by have:=g.num.Di i.den G rfl;omega)) ?_;try conv=>cbv
    refine g2 rfl ?_;obtain⟨ar,aF,I⟩:=Al ((p.den:Int)*q.den);refine AB h (Dr i.den g.den I (by omega) (by omega)) ?_;conv=>cbv
    refine g2 rfl ?_;have N:=VC p q (by have:=of_decide_eq_true D.symm;omega);exact AD ⟨⟨rfl,congrArg _ ((H.uniq w.num (by rw[M];exact N.1.symm)).1.symm),congrArg _ ((H.uniq w.num (by rw[M];exact N.1.symm)).2.symm),congrArg _ ((I.uniq w.den (by rw[M];exact N.2.symm)).1.symm),congrArg _ ((I.uniq w.den (by rw[M];exact N.2.symm)).2.symm),trivial⟩,trivial⟩
   obtain⟨aP,O⟩:=xB (decide ((q.den:Int)=1));refine AB h (Jv g.den O) ?_;conv=>cbv
   cases aP <;> conv=>cbv
   ·obtain⟨an,aC,d⟩:=Al (((Nat.gcd p.den q.den:Nat):Int));refine AB h (H8 i.den g.den d (by omega) (by omega)) ?_;conv=>cbv
    have ae:=HI (x:=0) a7 g.den d;obtain⟨a5,D⟩:=xB (decide (((Nat.gcd p.den q.den:Nat):Int)=1));refine AB h (Jv d D) ?_;conv=>cbv
    cases a5 <;> conv=>cbv
    ·obtain⟨au,aG,f⟩:=Al (x);refine AB h (Ep i.den d P a1 f (by omega) (by omega)) ?_;conv=>cbv
     have af:=Gh i.den f P a1;obtain⟨av,aH,j⟩:=Al (y);refine AB h (Ep g.den d P a2 j (by omega) (by omega)) ?_;conv=>cbv
     have ag:=Gh g.den j P a2;refine g2 rfl ?_;obtain⟨aw,aI,m⟩:=Al (p.num*y);refine AB h (Dr i.num j m (by omega) (by omega)) ?_;conv=>cbv
     have ah:=i.num.Di j m rfl;obtain⟨ax,aJ,n⟩:=Al (q.num*x);refine AB h (Dr g.num f n (by omega) (by omega)) ?_;conv=>cbv
     have ai:=g.num.Di f n rfl;obtain⟨ay,aK,o⟩:=Al ((p.num*y+q.num*x));refine AB h (Kb m n o (by omega) (by omega)) ?_;conv=>cbv
     have aj:=m.Nv n o rfl (k:=8000000000000) (by omega) (by omega);refine g2 rfl ?_;obtain⟨X,Z,v⟩:=Al (((Nat.gcd (p.num*y+q.num*x).natAbs (Nat.gcd p.den q.den):Nat):Int));refine AB (r:= .agg [.bool X,.sl .u32 Z]) h (H8 o d (by rw[Int.natAbs_natCast];exact v) (by omega) (by omega)) ?_;try conv=>cbv
     have Q:Nat.gcd p.den q.den≠0:=by omega
     have ak:=HI (x:=0) Q d v;have a6:(p.num*y+q.num*x)=(p.num*y+q.num*x)/((Nat.gcd (p.num*y+q.num*x).natAbs (Nat.gcd p.den q.den):Nat):Int)*((Nat.gcd (p.num*y+q.num*x).natAbs (Nat.gcd p.den q.den):Nat):Int):=(FX Q).1;have S:=E2 (a:=(p.num*y+q.num*x).natAbs) Q;have U:(q.den:Int)=(q.den:Int)/((Nat.gcd (p.num*y+q.num*x).natAbs (Nat.gcd p.den q.den):Nat):Int)*((Nat.gcd (p.num*y+q.num*x).natAbs (Nat.gcd p.den q.den):Nat):Int):=(Int.ediv_mul_cancel (Int.natCast_dvd_natCast.2 (Nat.dvd_trans (Nat.gcd_dvd_right _ _) (Nat.gcd_dvd_right _ _)))).symm;obtain⟨az,aL,J⟩:=Al ((p.num*y+q.num*x)/((Nat.gcd (p.num*y+q.num*x).natAbs (Nat.gcd p.den q.den):Nat):Int));refine AB h (Ep o v S a6 J (by omega) (by omega)) ?_;conv=>cbv
     obtain⟨aA,aM,K⟩:=Al ((q.den:Int)/((Nat.gcd (p.num*y+q.num*x).natAbs (Nat.gcd p.den q.den):Nat):Int));refine AB h (Ep g.den v S U K (by omega) (by omega)) ?_;conv=>cbv
     have al:=Gh g.den K S U;obtain⟨aB,aN,L⟩:=Al (x*((q.den:Int)/((Nat.gcd (p.num*y+q.num*x).natAbs (Nat.gcd p.den q.den):Nat):Int)));refine AB h (Dr f K L (by omega) (by omega)) ?_;conv=>cbv
     refine g2 rfl ?_;have N:=VD p q rfl (fun e=>by have:=of_decide_eq_false D.symm;omega) a8 aa rfl rfl;exact AD ⟨⟨rfl,congrArg _ ((J.uniq w.num (by rw[M];exact N.1.symm)).1.symm),congrArg _ ((J.uniq w.num (by rw[M];exact N.1.symm)).2.symm),congrArg _ ((L.uniq w.den (by rw[M];exact N.2.symm)).1.symm),congrArg _ ((L.uniq w.den (by rw[M];exact N.2.symm)).2.symm),trivial⟩,trivial⟩
    obtain⟨ao,aD,F⟩:=Al (p.num*q.den);refine AB h (Dr i.num g.den F (by omega) (by omega)) ?_;conv=>cbv
    obtain⟨aq,aE,G⟩:=Al (q.num*p.den);refine AB h (Dr g.num i.den G (by omega) (by omega)) ?_;conv=>cbv
    obtain⟨W,Y,H⟩:=Al (p.num*q.den+q.num*p.den);refine AB (r:= .agg [.bool W,.sl .u32 Y]) h (Kb F G H (by have:=i.num.Di g.den F rfl;omega) (by have:=g.num.Di i.den G rfl;omega)) ?_;try conv=>cbv
    refine g2 rfl ?_;obtain⟨ar,aF,I⟩:=Al ((p.den:Int)*q.den);refine AB h (Dr i.den g.den I (by omega) (by omega)) ?_;conv=>cbv
    refine g2 rfl ?_;have N:=VC p q (by have:=of_decide_eq_true D.symm;omega);exact AD ⟨⟨rfl,congrArg _ ((H.uniq w.num (by rw[M];exact N.1.symm)).1.symm),congrArg _ ((H.uniq w.num (by rw[M];exact N.1.symm)).2.symm),congrArg _ ((I.uniq w.den (by rw[M];exact N.2.symm)).1.symm),congrArg _ ((I.uniq w.den (by rw[M];exact N.2.symm)).2.symm),trivial⟩,trivial⟩
   obtain⟨aU,aV,V⟩:=Al (p.num+q.num);refine AB h (Kb i.num g.num V (by omega) (by omega)) ?_;conv=>cbv
   refine g2 rfl ?_;exact AD ⟨⟨rfl,congrArg _ ((V.uniq w.num (by rw[M];exact (JD (of_decide_eq_true z.symm) (of_decide_eq_true O.symm)).1.symm)).1.symm),congrArg _ ((V.uniq w.num (by rw[M];exact (JD (of_decide_eq_true z.symm) (of_decide_eq_true O.symm)).1.symm)).2.symm),congrArg _ ((i.den.uniq w.den (by rw[M,(JD (of_decide_eq_true z.symm) (of_decide_eq_true O.symm)).2];exact of_decide_eq_true z.symm)).1.symm),congrArg _ ((i.den.uniq w.den (by rw[M,(JD (of_decide_eq_true z.symm) (of_decide_eq_true O.symm)).2];exact of_decide_eq_true z.symm)).2.symm),trivial⟩,trivial⟩
  have aR:=BA ad;have e0:q=0:=Rat.num_eq_zero.1 (g.num.GR.1 (by omega));have e1:r=p:=by rw[M,e0,Rat.add_zero]
  exact AD ⟨⟨rfl,congrArg _ ((i.num.uniq w.num (by rw[e1])).1.symm),congrArg _ ((i.num.uniq w.num (by rw[e1])).2.symm),congrArg _ ((i.den.uniq w.den (by rw[e1])).1.symm),congrArg _ ((i.den.uniq w.den (by rw[e1])).2.symm),trivial⟩,trivial⟩
 have aQ:=BA ab;have e0:p=0:=Rat.num_eq_zero.1 (i.num.GR.1 (by omega));have e1:r=q:=by rw[M,e0,Rat.zero_add]
 exact AD ⟨⟨rfl,congrArg _ ((g.num.uniq w.num (by rw[e1])).1.symm),congrArg _ ((g.num.uniq w.num (by rw[e1])).2.symm),congrArg _ ((g.den.uniq w.den (by rw[e1])).1.symm),congrArg _ ((g.den.uniq w.den (by rw[e1])).2.symm),trivial⟩,trivial⟩
theorem il {p:Rat} (h:p≠0):(1/p).num=(if p.num<0 then -(p.den:Int) else p.den)/\((1/p).den:Int)=if p.num<0 then -p.num else p.num:=by
 have f:p.num≠0:=mt Rat.num_eq_zero.1 h;have e:1/p=Rat.inv p:=by rw[Rat.div_def,Rat.one_mul];rfl
 rw[e];unfold Rat.inv
 split
 ·rename_i d;exact⟨rfl,by show ((p.num.natAbs:Nat):Int)=_;omega⟩
 rename_i d
 rw[dif_pos (by omega)];exact⟨rfl,by show ((p.num.natAbs:Nat):Int)=_;omega⟩
theorem dO {p:Rat} (i:Bn p b1 l1 b2 l2) (v:p≠0) (w:r=1/p) (j:Bn r d1 k1 d2 k2):CF 290 [.agg (B5 b1 l1 b2 l2)] (.agg (B5 d1 k1 d2 k2)):=by
 obtain⟨f,d⟩:=il v;rw[<-w] at f d;refine AJ Tryz.func290 fun E m=>?_
 conv=>cbv
 cases b1 <;> conv=>cbv
 ·have h:=RD i.num rfl;exact AD ⟨⟨rfl,congrArg _ ((i.den.uniq j.num (by rw[f,if_neg h])).1.symm),congrArg _ ((i.den.uniq j.num (by rw[f,if_neg h])).2.symm),congrArg _ ((i.num.uniq j.den (by rw[d,if_neg h])).1.symm),congrArg _ ((i.num.uniq j.den (by rw[d,if_neg h])).2.symm),trivial⟩,trivial⟩
 obtain⟨z,D,k⟩:=Al (-(p.den:Int));refine AB m (L4 i.den k) ?_;conv=>cbv
 obtain⟨n,o,g⟩:=Al (-p.num);refine AB m (L4 i.num g) ?_;conv=>cbv
 refine g2 rfl ?_;have h:=RE i.num rfl;exact AD ⟨⟨rfl,congrArg _ ((k.uniq j.num (by rw[f,if_pos h])).1.symm),congrArg _ ((k.uniq j.num (by rw[f,if_pos h])).2.symm),congrArg _ ((g.uniq j.den (by rw[d,if_pos h])).1.symm),congrArg _ ((g.uniq j.den (by rw[d,if_pos h])).2.symm),trivial⟩,trivial⟩
theorem dT {p:Rat} (f:Bn p b1 l1 b2 l2) (w:CL p):CF 317 [.agg (B5 b1 l1 b2 l2)] (.one (.bool true)):=by
 have z:=f.small w;have v:=p.den_pos;refine AJ Tryz.func317 fun E h=>?_
 conv=>cbv
 refine AB h (Uq f.num) ?_;conv=>cbv
 refine AB h (Uq f.den) ?_;conv=>cbv
 obtain⟨o,i⟩:=xI ((1:Int));refine AB (r:= .one (.int .i64 o)) h (Kc f.den (i.trans (by unfold CZ;rw[if_neg (by omega),if_neg (by omega)]))) ?_;try conv=>cbv
 intro n g;conv=>cbv
 cases n <;> conv=>cbv
 ·have j:=Cg g;exact absurd j (by omega)
 have j:=Ch g;obtain⟨k,m,d⟩:=Al ((1:Int));refine AB (r:= .agg [.bool k,.sl .u32 m]) h (H8 f.num f.den (by rw[Int.natAbs_natCast,show Nat.gcd p.num.natAbs p.den=1 from p.reduced];exact d) (by omega) (by omega)) ?_;try conv=>cbv
 refine AB h (Jv d rfl) ?_;conv=>cbv
 exact AD ⟨t2,trivial⟩
theorem YF {d r:Int} (f:r=CZ d) (h:r<0):d<0:=by rcases GU d with⟨a,e⟩ |⟨a,e⟩ |⟨a,e⟩ <;> omega
theorem YH {d r:Int} (f:r=CZ d) (h:0<=r):¬d<0:=by rcases GU d with⟨a,e⟩ |⟨a,e⟩ |⟨a,e⟩ <;> omega
theorem OG {g:Int} (d:g≠0) (h:g∣x):x=CY x g*g:=by
 unfold CY
 split
 ·exact (Int.ediv_mul_cancel h).symm
 have:=Int.ediv_mul_cancel (a:= -x) (b:= -g) (Int.neg_dvd.2 (Int.dvd_neg.2 h));rw[Int.mul_neg] at this
 generalize -x/ -g*g=Q at*
 omega
theorem OV (n d:Int):(if d<0 then -((Nat.gcd n.natAbs d.natAbs:Nat):Int) else ((Nat.gcd n.natAbs d.natAbs:Nat):Int))∣n/\(if d<0 then -((Nat.gcd n.natAbs d.natAbs:Nat):Int) else ((Nat.gcd n.natAbs d.natAbs:Nat):Int))∣d:=by
 have f:((Nat.gcd n.natAbs d.natAbs:Nat):Int)∣n:=Int.ofNat_dvd_left.2 (Nat.gcd_dvd_left _ _);have g:((Nat.gcd n.natAbs d.natAbs:Nat):Int)∣d:=Int.ofNat_dvd_left.2 (Nat.gcd_dvd_right _ _)
 split
 ·exact⟨Int.neg_dvd.2 f,Int.neg_dvd.2 g⟩
 exact⟨f,g⟩
theorem dF {n d:Int} {q:Rat} (S:As n b1 l1) (F:As d b2 l2) (D:d≠0) (Q:q=Rat.divInt n d) (G:Bn q c1 m1 c2 m2) (s1:l1.length<=17592186042000) (s2:l2.length<=17592186042000):CF 224 [.agg (Bg b1 l1),.agg (Bg b2 l2)] (.agg (B5 c1 m1 c2 m2)):=by
 refine AJ Tryz.func224 fun E H=>?_
 conv=>cbv
 obtain⟨V,W,k⟩:=Al (((Nat.gcd n.natAbs d.natAbs:Nat):Int));refine AB H (H8 S F k (by omega) (by omega)) ?_;conv=>cbv
 obtain⟨X,i⟩:=xI (CZ d);refine AB H (Kc F i) ?_;conv=>cbv
 intro U K;conv=>cbv
 refine .inr ?_;cases U <;> conv=>cbv
 ·have m:=BB K;obtain⟨o,w,f⟩:=Al (CY n (if d<0 then -((Nat.gcd n.natAbs d.natAbs:Nat):Int) else ((Nat.gcd n.natAbs d.natAbs:Nat):Int)));have N:As (if d<0 then -((Nat.gcd n.natAbs d.natAbs:Nat):Int) else ((Nat.gcd n.natAbs d.natAbs:Nat):Int)) V W:=by rw[if_neg (YH i m)];exact k
  have h:(if d<0 then -((Nat.gcd n.natAbs d.natAbs:Nat):Int) else ((Nat.gcd n.natAbs d.natAbs:Nat):Int))≠0:=by rw[if_neg (YH i m)];have:=OU (n:=n) D;omega
  have M:CY n (if d<0 then -((Nat.gcd n.natAbs d.natAbs:Nat):Int) else ((Nat.gcd n.natAbs d.natAbs:Nat):Int))=q.num:=by rw[Q];exact (Oi D).symm
  have L:CY d (if d<0 then -((Nat.gcd n.natAbs d.natAbs:Nat):Int) else ((Nat.gcd n.natAbs d.natAbs:Nat):Int))=(q.den:Int):=by rw[Q];exact (Oh D).symm
  have J:n=CY n (if d<0 then -((Nat.gcd n.natAbs d.natAbs:Nat):Int) else ((Nat.gcd n.natAbs d.natAbs:Nat):Int))*(if d<0 then -((Nat.gcd n.natAbs d.natAbs:Nat):Int) else ((Nat.gcd n.natAbs d.natAbs:Nat):Int)):=OG h (OV n d).1;have I:d=CY d (if d<0 then -((Nat.gcd n.natAbs d.natAbs:Nat):Int) else ((Nat.gcd n.natAbs d.natAbs:Nat):Int))*(if d<0 then -((Nat.gcd n.natAbs d.natAbs:Nat):Int) else ((Nat.gcd n.natAbs d.natAbs:Nat):Int)):=OG h (OV n d).2;refine AB (r:= .agg [.bool o,.sl .u32 w]) H (Ep S N h (J) f (by omega) (by have:=MT D F k;omega)) ?_;try conv=>cbv
  obtain⟨v,z,g⟩:=Al (CY d (if d<0 then -((Nat.gcd n.natAbs d.natAbs:Nat):Int) else ((Nat.gcd n.natAbs d.natAbs:Nat):Int)));refine AB (r:= .agg [.bool v,.sl .u32 z]) H (Ep F N h (I) g (by omega) (by have:=MT D F k;omega)) ?_;try conv=>cbv
  refine g2 rfl ?_;exact AD ⟨⟨rfl,congrArg _ ((f.uniq G.num M).1.symm),congrArg _ ((f.uniq G.num M).2.symm),congrArg _ ((g.uniq G.den L).1.symm),congrArg _ ((g.uniq G.den L).2.symm),trivial⟩,trivial⟩
 have m:=BC K;obtain⟨O,P,j⟩:=Al (-((Nat.gcd n.natAbs d.natAbs:Nat):Int));refine AB H (L4 k j) ?_;conv=>cbv
 obtain⟨o,w,f⟩:=Al (CY n (if d<0 then -((Nat.gcd n.natAbs d.natAbs:Nat):Int) else ((Nat.gcd n.natAbs d.natAbs:Nat):Int)));have N:As (if d<0 then -((Nat.gcd n.natAbs d.natAbs:Nat):Int) else ((Nat.gcd n.natAbs d.natAbs:Nat):Int)) O P:=by rw[if_pos (YF i m)];exact j
 have h:(if d<0 then -((Nat.gcd n.natAbs d.natAbs:Nat):Int) else ((Nat.gcd n.natAbs d.natAbs:Nat):Int))≠0:=by rw[if_pos (YF i m)];have:=OU (n:=n) D;omega
 have M:CY n (if d<0 then -((Nat.gcd n.natAbs d.natAbs:Nat):Int) else ((Nat.gcd n.natAbs d.natAbs:Nat):Int))=q.num:=by rw[Q];exact (Oi D).symm
 have L:CY d (if d<0 then -((Nat.gcd n.natAbs d.natAbs:Nat):Int) else ((Nat.gcd n.natAbs d.natAbs:Nat):Int))=(q.den:Int):=by rw[Q];exact (Oh D).symm
 have J:n=CY n (if d<0 then -((Nat.gcd n.natAbs d.natAbs:Nat):Int) else ((Nat.gcd n.natAbs d.natAbs:Nat):Int))*(if d<0 then -((Nat.gcd n.natAbs d.natAbs:Nat):Int) else ((Nat.gcd n.natAbs d.natAbs:Nat):Int)):=OG h (OV n d).1;have I:d=CY d (if d<0 then -((Nat.gcd n.natAbs d.natAbs:Nat):Int) else ((Nat.gcd n.natAbs d.natAbs:Nat):Int))*(if d<0 then -((Nat.gcd n.natAbs d.natAbs:Nat):Int) else ((Nat.gcd n.natAbs d.natAbs:Nat):Int)):=OG h (OV n d).2;refine AB (r:= .agg [.bool o,.sl .u32 w]) H (Ep S N h (J) f (by omega) (by have:=OT D F j;omega)) ?_;try conv=>cbv
 obtain⟨v,z,g⟩:=Al (CY d (if d<0 then -((Nat.gcd n.natAbs d.natAbs:Nat):Int) else ((Nat.gcd n.natAbs d.natAbs:Nat):Int)));refine AB (r:= .agg [.bool v,.sl .u32 z]) H (Ep F N h (I) g (by omega) (by have:=OT D F j;omega)) ?_;try conv=>cbv
 refine g2 rfl ?_;exact AD ⟨⟨rfl,congrArg _ ((f.uniq G.num M).1.symm),congrArg _ ((f.uniq G.num M).2.symm),congrArg _ ((g.uniq G.den L).1.symm),congrArg _ ((g.uniq G.den L).2.symm),trivial⟩,trivial⟩
theorem Pt {n d:Int} {q:Rat} (m: -9223372036854775808<=n/\n<9223372036854775808) (k: -9223372036854775808<=d/\d<9223372036854775808) (i:d≠0) (z:q=Rat.divInt n d) (D:Bn q c1 m1 c2 m2):CF 110 [.one (.int .i64 n),.one (.int .i64 d)] (.agg (B5 c1 m1 c2 m2)):=by
 refine AJ Tryz.func110 fun E h=>?_
 conv=>cbv
 intro F j;conv=>cbv
 cases F <;> conv=>cbv
 ·have o:=Ao j;obtain⟨G,H,g⟩:=Al (n);refine AB h (Nk m g) ?_;conv=>cbv
  obtain⟨v,w,f⟩:=Al (d);refine AB h (Nk k f) ?_;conv=>cbv
  refine AB (r:= .agg [.bool c1,.sl .u32 m1,.bool c2,.sl .u32 m2]) h (dF g f i z D (by have:=Pb m g;omega) (by have:=Pb k f;omega)) ?_;try conv=>cbv
  exact AD ⟨⟨rfl,rfl,rfl,rfl,rfl,trivial⟩,trivial⟩
 have o:=BA j;exact absurd o i
end Go.Abs
