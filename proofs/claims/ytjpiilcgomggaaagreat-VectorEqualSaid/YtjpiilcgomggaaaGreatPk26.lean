/- Part 27 of a proof. Conditions: each theorem's own. -/
import Derived.Test.YtjpiilcgomggaaaGreatPk25
set_option linter.all false
set_option maxHeartbeats 8000000
open Go.Proofs
namespace Go.Abs
open Go.RowKit
variable {A B C:LR} {R s t:Nat} {T:List LR} {p x y:Re} {q:Rat} {r:List Rat} {u:List (List Rat)}
theorem Mq {q:Re} (h:AU R (r::u)) (hT:T=tw (r::u)) (hA:A=em (r::u) x) (hx:El (r::u) s x) (D:x=p+q*rt u r) (v:In u p) (z:In u q) (P:2*s+2*EE u.length R+R+1<=60000000000000) (F:C=em u (p*p-q*q*AI u r)):CF 219 [.one (.sl (.sl AA) T),.one (.sl AA A)] (.one (.sl AA C)):=by
 have w:=PG h.red v z (D ▸ hx.bd);have o:El u s p:=⟨v,w.1⟩;have d:El u s q:=⟨z,w.2⟩;have n:=El.Br h;have hR:=h.hR;refine AE Tryz.func219 (by kernel_rfl) rfl fun E m=>?_
 conv=>cbv
 obtain⟨G,a⟩:=xV (tw u);obtain⟨H,f⟩:=xR (AW r);refine cL m (Ky hT a f) t1 ?_;try conv=>cbv
 obtain⟨I,b⟩:=xR (em u p);obtain⟨J,c⟩:=xR (em u q);refine cL m (KC h.red o.mem d.mem D hA b c) t1 ?_;try conv=>cbv
 obtain⟨K,g⟩:=xR (em u (p*p));refine cL m (Ik h.tail a b b o o (by omega) g) t3 ?_;try conv=>cbv
 obtain⟨L,i⟩:=xR (em u (q*q));refine cL m (Ik h.tail a c c d d (by omega) i) t3 ?_;try conv=>cbv
 obtain⟨M,j⟩:=xR (em u (q*q*AI u r));refine cL m (Ik h.tail a i (f.trans (Cj h.red)) (d.mul h.tail d) n (by omega) j) t3 ?_;try conv=>cbv
 obtain⟨N,k⟩:=xR (em u (-(q*q*AI u r)));refine cL m (KY h.tail j ((d.mul h.tail d).mul h.tail n) (by omega) k) t1 ?_;try conv=>cbv
 obtain⟨O,l⟩:=xR (em u (p*p+ -(q*q*AI u r)));refine cL m (JX h.tail g k (o.mul h.tail o) (((d.mul h.tail d).mul h.tail n).neg h.red.1) (by omega) (by omega) l) t2 ?_;try conv=>cbv
 exact fA ⟨⟨rfl,congrArg _ (by rw[F,l];congr 1),trivial⟩,trivial⟩ rfl (by simp)
theorem XJ {p:Rat} (hT:T=[]) (hA:A=[rp p]) (K:B=[rp q]) (M:BF p) (o:p≠0) (v:q=1/p):CF 182 [.one (.sl (.sl AA) T),.one (.sl AA A)] (.AG [(false,[.sl AA B]),(false,[.bool true])]):=by
 refine AE Tryz.func182 (by kernel_rfl) rfl fun E D=>?_
 conv=>cbv
 rintro N ⟨m,f15⟩;conv=>cbv
 intro w d;conv=>cbv
 cases w <;> conv=>cbv
 ·have f:=Ac d;exact absurd (by rw[m,hT];rfl) f
 have f:=Ad d;obtain⟨H,I,F,G,b⟩:=A9 (((1:Int):Rat));refine cL D (EZ (by omega) rfl b) t1 ?_;try conv=>cbv
 have J:A.length=1:=by rw[hA];rfl
 obtain⟨z,a⟩:=AF (l:=A) (i:=0) (by omega);refine⟨z,fun _=>⟨by omega,a⟩,?_⟩;try conv=>cbv
 have L:=C8 hA a;obtain⟨j,k,g,h,c⟩:=A9 q;refine cL D (UA b L ⟨by decide +kernel,by decide +kernel⟩ M o v c) ⟨t4,t4,trivial⟩ ?_;try conv=>cbv
 refine g2 rfl ?_;refine⟨[((j,k),(g,h))],fun _=>⟨rfl,by decide,rfl,⟨rfl,by first | exact t1 | exact t2 | exact t4 | simp[Ae,Ak,cells],trivial⟩⟩,.inl ?_⟩;try conv=>cbv
 intro O n;cases n.trans (show _=true by decide);conv=>cbv
 exact fA ⟨⟨rfl,.inl ⟨_,rfl,by simp,congrArg _ (by rw[K,c.rp];rfl)⟩,trivial⟩,t2,trivial⟩ rfl (by simp)
theorem XK {p:Rat} (hT:T=[]) (hA:A=[rp p]) (D:B=[(((false,[]),(false,[])):el AA)]) (h:p=0):CF 182 [.one (.sl (.sl AA) T),.one (.sl AA A)] (.AG [(false,[.sl AA B]),(false,[.bool false])]):=by
 refine AE Tryz.func182 (by kernel_rfl) rfl fun E m=>?_
 conv=>cbv
 rintro G ⟨f,f15⟩;conv=>cbv
 intro j c;conv=>cbv
 cases j <;> conv=>cbv
 ·have d:=Ac c;exact absurd (by rw[f,hT];rfl) d
 have d:=Ad c;obtain⟨v,w,n,o,b⟩:=A9 (((1:Int):Rat));refine cL m (EZ (by omega) rfl b) t1 ?_;try conv=>cbv
 have z:A.length=1:=by rw[hA];rfl
 obtain⟨k,a⟩:=AF (l:=A) (i:=0) (by omega);refine⟨k,fun _=>⟨by omega,a⟩,?_⟩;try conv=>cbv
 have F:=C8 hA a;refine cL m (UB b F h) ⟨t4,t4,trivial⟩ ?_;try conv=>cbv
 refine g2 rfl ?_;refine⟨[((false,[]),(false,[]))],fun _=>⟨rfl,by decide,rfl,⟨rfl,by first | exact t1 | exact t2 | exact t4 | simp[Ae,Ak,cells],trivial⟩⟩,.inl ?_⟩;try conv=>cbv
 intro H g;cases g.trans (show _=false by decide);conv=>cbv
 exact fA ⟨⟨rfl,.inl ⟨_,rfl,by simp,congrArg _ (by rw[D];rfl)⟩,trivial⟩,t2,trivial⟩ rfl (by simp)
def N3 (f:FuncId) (R:Nat) (u:List (List Rat)):Prop:=∀{T:List LR} {A B:LR} {s:Nat} {x y:Re},T=tw u->A=em u x->El u s x->In u y->x*y=1->II u.length R s<=60000000000000->B=em u y->
 CF f [.one (.sl (.sl AA) T),.one (.sl AA A)] (.AG [(false,[.sl AA B]),(false,[.bool true])])
def aJ (f:FuncId) (u:List (List Rat)):Prop:=∀{T:List LR} {A:LR},T=tw u->A=em u 0->
 ∃l,CF f [.one (.sl (.sl AA) T),.one (.sl AA A)] (.AG [(false,[.sl AA l]),(false,[.bool false])])
theorem XN {q i:Re} (h:AU R (r::u)) (ih:N3 182 R u) (hT:T=tw (r::u)) (hA:A=em (r::u) x) (hx:El (r::u) s x) (D:x=p+q*rt u r) (G:El u s p) (z:El u s q) (U:In u i) (I:(p*p-q*q*AI u r)*i=1) (hy:y=p*i+ -(q*i)*rt u r) (hs:II (r::u).length R s<=60000000000000) (hB:B=em (r::u) y):CF 182 [.one (.sl (.sl AA) T),.one (.sl AA A)] (.AG [(false,[.sl AA B]),(false,[.bool true])]):=by
 have a2:II (r::u).length R s=s+EE u.length R+II u.length R (2*s+2*EE u.length R+R+1):=rfl;have S:=El.norm h G.mem z.mem (D ▸ hx);have a:=S.inv h.tail U I;have X:=C3 u.length R (2*s+2*EE u.length R+R+1);refine AE Tryz.func182 (by kernel_rfl) rfl fun E w=>?_
 conv=>cbv
 rintro a5 ⟨a1,f15⟩;conv=>cbv
 intro P H;conv=>cbv
 cases P <;> conv=>cbv
 ·have O:=Ac H;obtain⟨a7,b⟩:=xV (tw u);obtain⟨a8,M⟩:=xR (AW r);refine cL w (Ky hT b M) t1 ?_;try conv=>cbv
  obtain⟨aa,l⟩:=xR (em u (p*p-q*q*AI u r));refine cL w (Mq h hT hA hx D G.mem z.mem (by omega) l) t2 ?_;try conv=>cbv
  obtain⟨ab,c⟩:=xR (em u i);refine cL w (ih b l S U I (by omega) c) t2 ?_;try conv=>cbv
  intro a6 N;cases N.trans (rfl:_=false);conv=>cbv
  obtain⟨ad,m⟩:=xR (em u p);obtain⟨ae,n⟩:=xR (em u q);refine cL w (KC h.red G.mem z.mem D hA m n) t1 ?_;try conv=>cbv
  obtain⟨j,d⟩:=xR (em u (p*i));obtain⟨Z,f⟩:=xN j.length;refine cL w (mulC h.tail b m c G a (by omega) d f) t3 ?_;try conv=>cbv
  obtain⟨af,o⟩:=xR (em u (q*i));refine cL w (Ik h.tail b n c z a (by omega) o) t3 ?_;try conv=>cbv
  obtain⟨k,g⟩:=xR (em u (-(q*i)));refine cL w (KY h.tail o (z.mul h.tail a) (by omega) g) t1 ?_;try conv=>cbv
  have V:j.length=2^u.length:=by rw[d,Ap (G.mul h.tail a).mem]
  have W:k.length=2^u.length:=by rw[g,Ap ((z.mul h.tail a).neg h.red.1).mem]
  have Y:=B5 h.tail.ht;refine .inl ⟨k,fun _=>⟨rfl,f,rfl,by show (j.length+k.length)*64<=140737488355328;(try simp only[List.length_take,List.length_drop]);omega⟩,?_⟩;intro (F:LR) Q v;have K:F=(j:LR)++(k:LR):=v.1;have L:Q=List.length (α:=(el AA)) F:=v.2;conv=>cbv
  have J:B=F:=by rw[hB,K,d,g];exact DI h.red (G.mul h.tail a).mem ((z.mul h.tail a).neg h.red.1).mem hy
  exact fA ⟨⟨rfl,.inl ⟨_,rfl,by omega,congrArg _ (by rw[J,L,List.drop_zero,List.take_length])⟩,trivial⟩,t2,trivial⟩ rfl (by simp)
 have O:=Ad H;exact absurd (List.length_eq_zero_iff.1 (by omega)) (hT ▸ Gv r u)
theorem XO {l:LR} (h:AU R (r::u)) (o:∀{T A},T=tw u->A=em u 0->CF 182 [.one (.sl (.sl AA) T),.one (.sl AA A)] (.AG [(false,[.sl AA l]),(false,[.bool false])])) (hT:T=tw (r::u)) (hA:A=em (r::u) 0) (i:2*0+2*EE u.length R+R+1<=60000000000000):CF 182 [.one (.sl (.sl AA) T),.one (.sl AA A)] (.AG [(false,[.sl AA (([]:LR))]),(false,[.bool false])]):=by
 have hx:El (r::u) 0 0:=El.rat h.red EK;refine AE Tryz.func182 (by kernel_rfl) rfl fun E g=>?_
 conv=>cbv
 rintro v ⟨n,f15⟩;conv=>cbv
 intro k c;conv=>cbv
 cases k <;> conv=>cbv
 ·have j:=Ac c;obtain⟨z,a⟩:=xV (tw u);obtain⟨D,d⟩:=xR (AW r);refine cL g (Ky hT a d) t1 ?_;try conv=>cbv
  obtain⟨m,b⟩:=xR (em u (0));refine cL (r:= .one (.sl AA m)) g (Mq (p:=0) (q:=0) h hT hA hx (by grind) (BM u) (BM u) i (by rw[b];congr 1;grind)) t2 ?_;try conv=>cbv
  refine cL g (o a b) t2 ?_;try conv=>cbv
  intro w f;cases f.trans (rfl:_=true);conv=>cbv
  exact fA ⟨⟨rfl,.inr (.inl ⟨_,rfl⟩),trivial⟩,t2,trivial⟩ rfl (by simp)
 have j:=Ad c;exact absurd (List.length_eq_zero_iff.1 (by omega)) (hT ▸ Gv r u)
theorem XI (h:AU R u):N3 182 R u:=by
 induction u with
 | nil=>
  intro T A B s x y hT hA hx m a l f;obtain⟨p,rfl⟩:=Bb.1 hx.mem;obtain⟨q,rfl⟩:=Bb.1 m;rw[Cg] at hA f;rw[<-Re.ofRat_mul] at a;have e:=Re.Ff.1 a;have c:=hx.BC (by have:=C3 0 R s;have:II ([]:List (List Rat)).length R s=II 0 R s:=rfl;omega);rw[Bn] at c;exact XJ hT hA f (c _ List.mem_cons_self) (by intro n;subst n;grind) (by grind)
 | cons r u g=>
  intro T A B s x y hT hA hx m a l f;obtain⟨p,q,b,c,k⟩:=El.parts h.red hx;have z:=Bk h.red;have o:=El.norm h c.mem k.mem (b ▸ hx);have j:p*p-q*q*AI u r≠0:=RK h.red c.mem k.mem (by intro e;rw[<-b] at e;rw[e] at a;have w:(0:Re)<1:=Re.FH.2 (show (0:Rat)<1 by decide);grind);obtain⟨i,v,d⟩:=DR h.red.1 o.mem j;refine XN h (g h.tail) hT hA hx b c k v d ?_ l f
  have:y=x*y*((p-q*rt u r)*i):=by
   have:x*y*((p-q*rt u r)*i)=y*((p*p-q*q*AI u r)*i):=by rw[b];clear g;grind
   rw[this,d];clear g;grind
  rw[a] at this
  clear g;grind
theorem Qh:∀{u:List (List Rat)} {R:Nat},AU R u->EE u.length R+R<=60000000000000->∃l,∀{T A},T=tw u->A=em u 0->CF 182 [.one (.sl (.sl AA) T),.one (.sl AA A)] (.AG [(false,[.sl AA l]),(false,[.bool false])])
 | [],R,h,_=>⟨_,fun hT hA=>XK hT (hA.trans (Cg 0)) rfl rfl⟩
 | r::u,R,h,c=>by
  have a:EE (r::u).length R=2*EE u.length R+R+2:=rfl;obtain⟨l,b⟩:=Qh h.tail (by omega);exact⟨_,fun hT hA=>XO h b hT hA (by omega)⟩
theorem G0 (h:AU R u) (hT:T=tw u) (hA:A=em u x) (c:B=em u y) (hx:El u s x) (b:El u t y) (g:s<=60000000000000) (ht:t<=60000000000000) (f:C=em u (x+y)):CF 137 [.one (.sl (.sl AA) T),.one (.sl AA A),.one (.sl AA B)] (.one (.sl AA C)):=by
 refine AE Tryz.func137 (by kernel_rfl) rfl fun E d=>?_
 conv=>cbv
 refine cL (r:= .one (.bool true)) d (MH hT h.Dl hA (hx.BC (by omega)) (by rw[hx.len,List.length_reverse]) c (b.BC (by omega)) (by rw[b.len,List.length_reverse])) t3 ?_;try conv=>cbv
 intro i a;cases a.trans (rfl:_=false);conv=>cbv
 refine cL d (JX h hA c hx b g ht f) t2 ?_;try conv=>cbv
 exact fA ⟨t2,trivial⟩ rfl (by simp)
theorem JK (h:AU R u) (hT:T=tw u) (hA:A=em u x) (f:B=em u y) (hx:El u s x) (b:El u t y) (i:s<=60000000000000) (ht:t<=60000000000000) (g:C=em u (x-y)):CF 174 [.one (.sl (.sl AA) T),.one (.sl AA A),.one (.sl AA B)] (.one (.sl AA C)):=by
 refine AE Tryz.func174 (by kernel_rfl) rfl fun E d=>?_
 conv=>cbv
 refine cL (r:= .one (.bool true)) d (MH hT h.Dl hA (hx.BC (by omega)) (by rw[hx.len,List.length_reverse]) f (b.BC (by omega)) (by rw[b.len,List.length_reverse])) t3 ?_;try conv=>cbv
 intro j c;cases c.trans (rfl:_=false);conv=>cbv
 obtain⟨k,a⟩:=xR (em u (-y));refine cL d (KY h f b ht a) t1 ?_;try conv=>cbv
 refine cL (r:= .one (.sl AA C)) d (JX h hA a hx (b.neg h.red) i ht (by rw[g];congr 1)) t2 ?_;try conv=>cbv
 exact fA ⟨t2,trivial⟩ rfl (by simp)
theorem E5 (h:AU R u) (hT:T=tw u) (hA:A=em u x) (d:B=em u y) (hx:El u s x) (c:El u t y) (b:s+t+EE u.length R<=60000000000000) (g:C=em u (x*y)):CF 135 [.one (.sl (.sl AA) T),.one (.sl AA A),.one (.sl AA B)] (.one (.sl AA C)):=by
 refine AE Tryz.func135 (by kernel_rfl) rfl fun E f=>?_
 conv=>cbv
 refine cL (r:= .one (.bool true)) f (MH hT h.Dl hA (hx.BC (by omega)) (by rw[hx.len,List.length_reverse]) d (c.BC (by omega)) (by rw[c.len,List.length_reverse])) t3 ?_;try conv=>cbv
 intro i a;cases a.trans (rfl:_=false);conv=>cbv
 refine cL f (Ik h hT hA d hx c b g) t3 ?_;try conv=>cbv
 exact fA ⟨t2,trivial⟩ rfl (by simp)
theorem N9 (h:AU R u) (hT:T=tw u) (hA:A=em u x) (hx:El u s x) (d:s<=60000000000000) (c:C=em u (-x)):CF 169 [.one (.sl (.sl AA) T),.one (.sl AA A)] (.one (.sl AA C)):=by
 refine AE Tryz.func169 (by kernel_rfl) rfl fun E a=>?_
 conv=>cbv
 refine cL (r:= .one (.bool true)) a (EX hT h.Dl hA (hx.BC (by omega)) (by rw[hx.len,List.length_reverse];exact (decide_eq_true rfl).symm)) t2 ?_;try conv=>cbv
 intro f b;cases b.trans (rfl:_=false);conv=>cbv
 refine cL a (KY h hA hx d c) t1 ?_;try conv=>cbv
 exact fA ⟨t2,trivial⟩ rfl (by simp)
theorem JE (h:AU R u) (hT:T=tw u) (hA:A=em u x) (hx:El u s x) (j:In u y) (c:x*y=1) (i:II u.length R s<=60000000000000) (f:C=em u y):CF 130 [.one (.sl (.sl AA) T),.one (.sl AA A)] (.AG [(false,[.sl AA C]),(false,[.int .i64 0])]):=by
 have g:=C3 u.length R s;refine AE Tryz.func130 (by kernel_rfl) rfl fun E d=>?_
 conv=>cbv
 refine cL (r:= .one (.bool true)) d (EX hT h.Dl hA (hx.BC (by omega)) (by rw[hx.len,List.length_reverse];exact (decide_eq_true rfl).symm)) t2 ?_;try conv=>cbv
 intro k a;cases a.trans (rfl:_=false);conv=>cbv
 refine cL d (XI h hT hA hx j c i f) t2 ?_;try conv=>cbv
 intro l b;cases b.trans (rfl:_=false);conv=>cbv
 exact fA ⟨t2,t2,trivial⟩ rfl (by simp)
theorem Tp (h:AU R u) (hT:T=tw u) (hA:A=em u 0) (f:EE u.length R+R<=60000000000000):CF 130 [.one (.sl (.sl AA) T),.one (.sl AA A)] (.AG [(false,[.sl AA (([]:LR))]),(false,[.int .i64 6])]):=by
 have hx:El u 0 0:=El.rat h.red EK;obtain⟨l,d⟩:=Qh h f;refine AE Tryz.func130 (by kernel_rfl) rfl fun E c=>?_
 conv=>cbv
 refine cL (r:= .one (.bool true)) c (EX hT h.Dl hA (hx.BC (by omega)) (by rw[hx.len,List.length_reverse];exact (decide_eq_true rfl).symm)) t2 ?_;try conv=>cbv
 intro g a;cases a.trans (rfl:_=false);conv=>cbv
 refine cL c (d hT hA) t2 ?_;try conv=>cbv
 intro i b;cases b.trans (rfl:_=true);conv=>cbv
 exact fA ⟨⟨rfl,.inr (.inl ⟨_,rfl⟩),trivial⟩,t2,trivial⟩ rfl (by simp)
theorem LV {q:Re} (h:AU R (r::u)) (hT:T=tw (r::u)) (hA:A=em (r::u) x) (hx:El (r::u) s x) (d:x=p+q*rt u r) (b:In u p) (c:In u q) (m:2*s+2*EE u.length R+R+1<=60000000000000) (l:C=em u (p*p-q*q*AI u r)):CF 230 [.one (.sl (.sl AA) T),.one (.sl AA A)] (.one (.sl AA C)):=by
 refine AE Tryz.func230 (by kernel_rfl) rfl fun E i=>?_
 conv=>cbv
 refine cL (r:= .one (.bool true)) i (EX hT h.Dl hA (hx.BC (by omega)) (by rw[hx.len,List.length_reverse];exact (decide_eq_true rfl).symm)) t2 ?_;try conv=>cbv
 intro o k;cases k.trans (rfl:_=false);conv=>cbv
 rintro n ⟨j,f11⟩;conv=>cbv
 intro g a;conv=>cbv
 cases g <;> conv=>cbv
 ·have f:=Ac a;refine cL i (Mq h hT hA hx d b c m l) t2 ?_;try conv=>cbv
  exact fA ⟨t2,trivial⟩ rfl (by simp)
 have f:=Ad a;exact absurd (List.length_eq_zero_iff.1 (by omega)) (hT ▸ Gv r u)
theorem Yz {n:Nat} (h:0<n):(List.replicate n (rp 0)).set 0 (rp q)=rp q::List.replicate (n-1) (rp 0):=by
 cases n with
 | zero=>omega
 | succ n=>rfl
theorem QB (h:AQ u):em u (Re.ofRat q)=(em u 0).set 0 (rp q):=by
 rw[em,HK q h,MD h,AW,AW,List.map_cons,List.map_replicate,List.map_replicate,Yz (Cc _)]
theorem QC (h:AQ (r::u)):em (r::u) (rt u r)=(em (r::u) 0).set (2^u.length) (rp 1):=by
 have e:rt u r=0+1*rt u r:=by grind
 rw[DI h (BM u) (MR u) e,DI (x:=0) h (BM u) (BM u) (by grind),List.set_append_right _ _ (by rw[Ap (BM u)];omega),Ap (BM u),Nat.sub_self]
 congr 1
 exact QB (q:=1) h.1
theorem GY {b1 b2:Bool} {l1 l2:List UInt32} (h:AU R u) (hT:T=tw u) (n:Aq q b1 l1 b2 l2) (J:BF q) (G:C=em u (Re.ofRat q)):CF 159 [.one (.sl (.sl AA) T),.agg [.bool b1,.sl .u32 l1,.bool b2,.sl .u32 l2]] (.one (.sl AA C)):=by
 refine AE Tryz.func159 (by kernel_rfl) rfl fun E l=>?_
 conv=>cbv
 refine cL l (M9 hT h.Dl rfl) t1 ?_;try conv=>cbv
 intro N F;cases F.trans (rfl:_=false);conv=>cbv
 have I:=n.small J;refine cL l (OC (Nm.2 ⟨q,n⟩).symm (by omega) (by omega)) ⟨t4,trivial⟩ ?_;try conv=>cbv
 intro K k;cases k.trans (rfl:_=false);conv=>cbv
 have m:T.length=u.length:=by rw[hT,Au]
 have g:=h.ht;rintro L ⟨j,f15⟩;conv=>cbv
 intro M g;conv=>cbv
 refine g2 (by omega) ?_;obtain⟨b,a⟩:=xR (em u (0));obtain⟨D,d⟩:=xN b.length;refine cL l (LJ h (DE g (j.trans (congrArg _ m)) (by omega)) a d) t1 ?_;try conv=>cbv
 have z:b.length=2^u.length:=by rw[a,Ap (BM u)]
 have H:=Cc u.length;refine g2 (by omega) ?_;intro o w;conv=>cbv
 refine⟨((b1,l1),(b2,l2)),fun _=>⟨by show _<List.length (α:=(el AA)) b;(first | omega | (simp;omega)),by first | exact t1 | exact t2 | exact t4 | simp[Ae,Ak,cells]⟩,?_⟩;intro (f:LR) (c:f=List.set (α:=(el AA)) b o (((b1,l1),(b2,l2))));have v:f.length=b.length:=by rw[c,List.length_set]
 conv=>cbv
 have i:C=f:=by rw[G,QB h.red,c,a,n.rp];congr 1;omega
 exact fA ⟨⟨rfl,.inl ⟨_,rfl,by omega,congrArg _ (by rw[i,List.drop_zero,List.take_of_length_le (by omega)])⟩,trivial⟩,trivial⟩ rfl (by simp)
theorem UI {k:Int} (h:AU R (r::u)) (hT:T=tw (r::u)) (Z:AK k u.length) (X:C=em (r::u) (rt u r)):CF 150 [.one (.sl (.sl AA) T),.one (.int .i64 k)] (.one (.sl AA C)):=by
 have V:=Z.eq;have I:T.length=u.length+1:=by rw[hT,Au];rfl
 have Y:=h.ht;have N:(r::u).length=u.length+1:=rfl;refine AE Tryz.func150 (by kernel_rfl) rfl fun E H=>?_
 conv=>cbv
 refine cL H (M9 hT h.Dl rfl) t1 ?_;try conv=>cbv
 intro n8 W;cases W.trans (rfl:_=false);conv=>cbv
 intro K n;conv=>cbv
 cases K <;> conv=>cbv
 ·have w:=AR n;rintro a5 ⟨U,f16⟩;conv=>cbv
  intro L o;conv=>cbv
  cases L <;> conv=>cbv
  ·have z:=DC o;rintro a6 ⟨D,f20⟩;conv=>cbv
   intro a7 F;conv=>cbv
   refine g2 (by omega) ?_;obtain⟨b,a⟩:=xR (em (r::u) (0));obtain⟨S,l⟩:=xN b.length;refine cL H (LJ h (DE F (D.trans (congrArg _ I)) (by omega)) a l) t1 ?_;try conv=>cbv
   intro a8 G;conv=>cbv
   refine g2 (by omega) ?_;obtain⟨i,j,f,g,d⟩:=A9 (((1:Int):Rat));refine cL H (EZ (by omega) rfl d) t1 ?_;try conv=>cbv
   have P:b.length=2^(r::u).length:=by rw[a,Ap (BM _)]
   have a2:=Cc u.length;have a1:=BE r u;have Q:=(DE G V (by omega)).eq;refine g2 (by omega) ?_;intro J O;conv=>cbv
   refine⟨((i,j),(f,g)),fun _=>⟨by show _<List.length (α:=(el AA)) b;(first | omega | (simp;omega)),by first | exact t1 | exact t2 | exact t4 | simp[Ae,Ak,cells]⟩,?_⟩;intro (m:LR) (c:m=List.set (α:=(el AA)) b J (((i,j),(f,g))));have M:m.length=b.length:=by rw[c,List.length_set]
   conv=>cbv
   refine g2 rfl ?_;have v:C=m:=by rw[X,QC h.red,c,a];congr 1 <;> first | omega | exact d.rp
   exact fA ⟨⟨rfl,.inl ⟨_,rfl,by omega,congrArg _ (by rw[v,List.drop_zero,List.take_of_length_le (by omega)])⟩,trivial⟩,trivial⟩ rfl (by simp)
  have z:=DD o;exact absurd z (by omega)
 have w:=AS n;exact absurd w (by omega)
end Go.Abs
