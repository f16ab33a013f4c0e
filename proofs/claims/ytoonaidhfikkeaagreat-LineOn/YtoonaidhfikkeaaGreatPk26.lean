/- Part 27 of a proof. Conditions: each theorem's own. -/
import Derived.Test.YtoonaidhfikkeaaGreatPk25
set_option linter.all false
set_option maxHeartbeats 8000000
open Go.Proofs
namespace Go.Abs
open Go.RowKit
variable {A B C:LR} {R s t:Nat} {T:List LR} {p x y:Re} {q:Rat} {r:List Rat} {u:List (List Rat)}
theorem Mu {q:Re} (h:AU R (r::u)) (H:T=tw (r::u)) (F:A=em (r::u) x) (I:El (r::u) s x) (D:x=p+q*rt u r) (v:In u p) (z:In u q) (U:2*s+2*EE u.length R+R+1<=60000000000000) (G:C=em u (p*p-q*q*AI u r)):CF 219 [.one (.sl (.sl AA) T),.one (.sl AA A)] (.one (.sl AA C)):=by
 have w:=PQ h.red v z (D ▸ I.bd);have o:El u s p:=⟨v,w.1⟩;have d:El u s q:=⟨z,w.2⟩;have n:=El.Bz h;have hR:=h.hR;refine AE Tryz.func219 (by kernel_rfl) rfl fun E m=>?_
 conv=>cbv
 obtain⟨J,a⟩:=xV (tw u);obtain⟨K,f⟩:=xR (AW r);refine cL m (Kw H a f) t1 ?_;try conv=>cbv
 obtain⟨L,b⟩:=xR (em u p);obtain⟨M,c⟩:=xR (em u q);refine cL m (KA h.red o.mem d.mem D F b c) t1 ?_;try conv=>cbv
 obtain⟨N,g⟩:=xR (em u (p*p));refine cL m (Io h.tail a b b o o (by omega) g) t3 ?_;try conv=>cbv
 obtain⟨O,i⟩:=xR (em u (q*q));refine cL m (Io h.tail a c c d d (by omega) i) t3 ?_;try conv=>cbv
 obtain⟨P,j⟩:=xR (em u (q*q*AI u r));refine cL m (Io h.tail a i (f.trans (Cn h.red)) (d.mul h.tail d) n (by omega) j) t3 ?_;try conv=>cbv
 obtain⟨Q,k⟩:=xR (em u (-(q*q*AI u r)));refine cL m (KV h.tail j ((d.mul h.tail d).mul h.tail n) (by omega) k) t1 ?_;try conv=>cbv
 obtain⟨S,l⟩:=xR (em u (p*p+ -(q*q*AI u r)));refine cL m (JW h.tail g k (o.mul h.tail o) (((d.mul h.tail d).mul h.tail n).neg h.red.1) (by omega) (by omega) l) t2 ?_;try conv=>cbv
 exact fA ⟨⟨rfl,congrArg _ (by rw[G,l];congr 1),trivial⟩,trivial⟩ rfl (by simp)
theorem XJ {p:Rat} (M:T=[]) (D:A=[rp p]) (L:B=[rp q]) (O:BK p) (o:p≠0) (v:q=1/p):CF 172 [.one (.sl (.sl AA) T),.one (.sl AA A)] (.AF [(false,[.sl AA B]),(false,[.bool true])]):=by
 refine AE Tryz.func172 (by kernel_rfl) rfl fun E F=>?_
 conv=>cbv
 rintro P ⟨m,f15⟩;conv=>cbv
 intro w d;conv=>cbv
 cases w <;> conv=>cbv
 ·have f:=Ab d;exact absurd (by rw[m,M];rfl) f
 have f:=Ad d;obtain⟨I,J,G,H,b⟩:=BD (((1:Int):Rat));refine cL F (EZ (by omega) rfl b) t1 ?_;try conv=>cbv
 have K:A.length=1:=by rw[D];rfl
 obtain⟨z,a⟩:=AG (l:=A) (i:=0) (by omega);refine⟨z,fun _=>⟨by omega,a⟩,?_⟩;try conv=>cbv
 have N:=C8 D a;obtain⟨j,k,g,h,c⟩:=BD q;refine cL F (UK b N ⟨by decide +kernel,by decide +kernel⟩ O o v c) ⟨t4,t4,trivial⟩ ?_;try conv=>cbv
 refine g2 rfl ?_;refine⟨[((j,k),(g,h))],fun _=>⟨rfl,by decide,rfl,⟨rfl,by first | exact t1 | exact t2 | exact t4 | simp[Ac,Ak,cells],trivial⟩⟩,.inl ?_⟩;try conv=>cbv
 intro Q n;cases n.trans (show _=true by decide);conv=>cbv
 exact fA ⟨⟨rfl,.inl ⟨_,rfl,by simp,congrArg _ (by rw[L,c.rp];rfl)⟩,trivial⟩,t2,trivial⟩ rfl (by simp)
theorem XK {p:Rat} (G:T=[]) (m:A=[rp p]) (F:B=[(((false,[]),(false,[])):el AA)]) (h:p=0):CF 172 [.one (.sl (.sl AA) T),.one (.sl AA A)] (.AF [(false,[.sl AA B]),(false,[.bool false])]):=by
 refine AE Tryz.func172 (by kernel_rfl) rfl fun E n=>?_
 conv=>cbv
 rintro I ⟨f,f15⟩;conv=>cbv
 intro j c;conv=>cbv
 cases j <;> conv=>cbv
 ·have d:=Ab c;exact absurd (by rw[f,G];rfl) d
 have d:=Ad c;obtain⟨w,z,o,v,b⟩:=BD (((1:Int):Rat));refine cL n (EZ (by omega) rfl b) t1 ?_;try conv=>cbv
 have D:A.length=1:=by rw[m];rfl
 obtain⟨k,a⟩:=AG (l:=A) (i:=0) (by omega);refine⟨k,fun _=>⟨by omega,a⟩,?_⟩;try conv=>cbv
 have H:=C8 m a;refine cL n (UL b H h) ⟨t4,t4,trivial⟩ ?_;try conv=>cbv
 refine g2 rfl ?_;refine⟨[((false,[]),(false,[]))],fun _=>⟨rfl,by decide,rfl,⟨rfl,by first | exact t1 | exact t2 | exact t4 | simp[Ac,Ak,cells],trivial⟩⟩,.inl ?_⟩;try conv=>cbv
 intro J g;cases g.trans (show _=false by decide);conv=>cbv
 exact fA ⟨⟨rfl,.inl ⟨_,rfl,by simp,congrArg _ (by rw[F];rfl)⟩,trivial⟩,t2,trivial⟩ rfl (by simp)
def OB (f:FuncId) (R:Nat) (u:List (List Rat)):Prop:=∀{T:List LR} {A B:LR} {s:Nat} {x y:Re},T=tw u->A=em u x->El u s x->In u y->x*y=1->II u.length R s<=60000000000000->B=em u y->
 CF f [.one (.sl (.sl AA) T),.one (.sl AA A)] (.AF [(false,[.sl AA B]),(false,[.bool true])])
def ae (f:FuncId) (u:List (List Rat)):Prop:=∀{T:List LR} {A:LR},T=tw u->A=em u 0->
 ∃l,CF f [.one (.sl (.sl AA) T),.one (.sl AA A)] (.AF [(false,[.sl AA l]),(false,[.bool false])])
theorem XN {q i:Re} (h:AU R (r::u)) (ih:OB 172 R u) (O:T=tw (r::u)) (U:A=em (r::u) x) (hx:El (r::u) s x) (D:x=p+q*rt u r) (G:El u s p) (z:El u s q) (W:In u i) (I:(p*p-q*q*AI u r)*i=1) (hy:y=p*i+ -(q*i)*rt u r) (hs:II (r::u).length R s<=60000000000000) (hB:B=em (r::u) y):CF 172 [.one (.sl (.sl AA) T),.one (.sl AA A)] (.AF [(false,[.sl AA B]),(false,[.bool true])]):=by
 have a6:II (r::u).length R s=s+EE u.length R+II u.length R (2*s+2*EE u.length R+R+1):=rfl;have V:=El.norm h G.mem z.mem (D ▸ hx);have a:=V.inv h.tail W I;have Z:=C4 u.length R (2*s+2*EE u.length R+R+1);refine AE Tryz.func172 (by kernel_rfl) rfl fun E w=>?_
 conv=>cbv
 rintro a7 ⟨a5,f15⟩;conv=>cbv
 intro Q H;conv=>cbv
 cases Q <;> conv=>cbv
 ·have P:=Ab H;obtain⟨aa,b⟩:=xV (tw u);obtain⟨ab,M⟩:=xR (AW r);refine cL w (Kw O b M) t1 ?_;try conv=>cbv
  obtain⟨ad,l⟩:=xR (em u (p*p-q*q*AI u r));refine cL w (Mu h O U hx D G.mem z.mem (by omega) l) t2 ?_;try conv=>cbv
  obtain⟨ae,c⟩:=xR (em u i);refine cL w (ih b l V W I (by omega) c) t2 ?_;try conv=>cbv
  intro a8 N;cases N.trans (rfl:_=false);conv=>cbv
  obtain⟨af,m⟩:=xR (em u p);obtain⟨ag,n⟩:=xR (em u q);refine cL w (KA h.red G.mem z.mem D U m n) t1 ?_;try conv=>cbv
  obtain⟨j,d⟩:=xR (em u (p*i));obtain⟨a2,f⟩:=xN j.length;refine cL w (mulC h.tail b m c G a (by omega) d f) t3 ?_;try conv=>cbv
  obtain⟨ah,o⟩:=xR (em u (q*i));refine cL w (Io h.tail b n c z a (by omega) o) t3 ?_;try conv=>cbv
  obtain⟨k,g⟩:=xR (em u (-(q*i)));refine cL w (KV h.tail o (z.mul h.tail a) (by omega) g) t1 ?_;try conv=>cbv
  have X:j.length=2^u.length:=by rw[d,Ao (G.mul h.tail a).mem]
  have Y:k.length=2^u.length:=by rw[g,Ao ((z.mul h.tail a).neg h.red.1).mem]
  have a1:=CA h.tail.ht;refine .inl ⟨k,fun _=>⟨rfl,f,rfl,by show (j.length+k.length)*64<=140737488355328;(try simp only[List.length_take,List.length_drop]);omega⟩,?_⟩;intro (F:LR) S v;have K:F=(j:LR)++(k:LR):=v.1;have L:S=List.length (α:=(el AA)) F:=v.2;conv=>cbv
  have J:B=F:=by rw[hB,K,d,g];exact DL h.red (G.mul h.tail a).mem ((z.mul h.tail a).neg h.red.1).mem hy
  exact fA ⟨⟨rfl,.inl ⟨_,rfl,by omega,congrArg _ (by rw[J,L,List.drop_zero,List.take_length])⟩,trivial⟩,t2,trivial⟩ rfl (by simp)
 have P:=Ad H;exact absurd (List.length_eq_zero_iff.1 (by omega)) (O ▸ Gz r u)
theorem XO {l:LR} (h:AU R (r::u)) (z:∀{T A},T=tw u->A=em u 0->CF 172 [.one (.sl (.sl AA) T),.one (.sl AA A)] (.AF [(false,[.sl AA l]),(false,[.bool false])])) (j:T=tw (r::u)) (v:A=em (r::u) 0) (i:2*0+2*EE u.length R+R+1<=60000000000000):CF 172 [.one (.sl (.sl AA) T),.one (.sl AA A)] (.AF [(false,[.sl AA (([]:LR))]),(false,[.bool false])]):=by
 have w:El (r::u) 0 0:=El.rat h.red EM;refine AE Tryz.func172 (by kernel_rfl) rfl fun E g=>?_
 conv=>cbv
 rintro D ⟨o,f15⟩;conv=>cbv
 intro m c;conv=>cbv
 cases m <;> conv=>cbv
 ·have k:=Ab c;obtain⟨G,a⟩:=xV (tw u);obtain⟨H,d⟩:=xR (AW r);refine cL g (Kw j a d) t1 ?_;try conv=>cbv
  obtain⟨n,b⟩:=xR (em u (0));refine cL (r:= .one (.sl AA n)) g (Mu (p:=0) (q:=0) h j v w (by grind) (BP u) (BP u) i (by rw[b];congr 1;grind)) t2 ?_;try conv=>cbv
  refine cL g (z a b) t2 ?_;try conv=>cbv
  intro F f;cases f.trans (rfl:_=true);conv=>cbv
  exact fA ⟨⟨rfl,.inr (.inl ⟨_,rfl⟩),trivial⟩,t2,trivial⟩ rfl (by simp)
 have k:=Ad c;exact absurd (List.length_eq_zero_iff.1 (by omega)) (j ▸ Gz r u)
theorem XI (h:AU R u):OB 172 R u:=by
 induction u with
 | nil=>
  intro T A B s x y m g d v a o j;obtain⟨p,rfl⟩:=Bj.1 d.mem;obtain⟨q,rfl⟩:=Bj.1 v;rw[Ci] at g j;rw[<-Re.ofRat_mul] at a;have e:=Re.GM.1 a;have c:=d.BE (by have:=C4 0 R s;have:II ([]:List (List Rat)).length R s=II 0 R s:=rfl;omega);rw[Bv] at c;exact XJ m g j (c _ List.mem_cons_self) (by intro w;subst w;grind) (by grind)
 | cons r u k=>
  intro T A B s x y m g d v a o j;obtain⟨p,q,b,c,n⟩:=El.parts h.red d;have G:=Bg h.red;have z:=El.norm h c.mem n.mem (b ▸ d);have l:p*p-q*q*AI u r≠0:=RH h.red c.mem n.mem (by intro e;rw[<-b] at e;rw[e] at a;have F:(0:Re)<1:=Re.GN.2 (show (0:Rat)<1 by decide);grind);obtain⟨i,D,f⟩:=DE h.red.1 z.mem l;refine XN h (k h.tail) m g d b c n D f ?_ o j
  have:y=x*y*((p-q*rt u r)*i):=by
   have:x*y*((p-q*rt u r)*i)=y*((p*p-q*q*AI u r)*i):=by rw[b];clear k;grind
   rw[this,f];clear k;grind
  rw[a] at this
  clear k;grind
theorem Qj:∀{u:List (List Rat)} {R:Nat},AU R u->EE u.length R+R<=60000000000000->∃l,∀{T A},T=tw u->A=em u 0->CF 172 [.one (.sl (.sl AA) T),.one (.sl AA A)] (.AF [(false,[.sl AA l]),(false,[.bool false])])
 | [],R,h,_=>⟨_,fun b a=>XK b (a.trans (Ci 0)) rfl rfl⟩
 | r::u,R,h,f=>by
  have c:EE (r::u).length R=2*EE u.length R+R+2:=rfl;obtain⟨l,d⟩:=Qj h.tail (by omega);exact⟨_,fun b a=>XO h d b a (by omega)⟩
theorem G4 (h:AU R u) (j:T=tw u) (d:A=em u x) (f:B=em u y) (b:El u s x) (c:El u t y) (k:s<=60000000000000) (ht:t<=60000000000000) (i:C=em u (x+y)):CF 158 [.one (.sl (.sl AA) T),.one (.sl AA A),.one (.sl AA B)] (.one (.sl AA C)):=by
 refine AE Tryz.func158 (by kernel_rfl) rfl fun E g=>?_
 conv=>cbv
 refine cL (r:= .one (.bool true)) g (MK j h.Ds d (b.BE (by omega)) (by rw[b.len,List.length_reverse]) f (c.BE (by omega)) (by rw[c.len,List.length_reverse])) t3 ?_;try conv=>cbv
 intro l a;cases a.trans (rfl:_=false);conv=>cbv
 refine cL g (JW h d f b c k ht i) t2 ?_;try conv=>cbv
 exact fA ⟨t2,trivial⟩ rfl (by simp)
theorem JJ (h:AU R u) (k:T=tw u) (g:A=em u x) (i:B=em u y) (f:El u s x) (b:El u t y) (l:s<=60000000000000) (ht:t<=60000000000000) (j:C=em u (x-y)):CF 157 [.one (.sl (.sl AA) T),.one (.sl AA A),.one (.sl AA B)] (.one (.sl AA C)):=by
 refine AE Tryz.func157 (by kernel_rfl) rfl fun E d=>?_
 conv=>cbv
 refine cL (r:= .one (.bool true)) d (MK k h.Ds g (f.BE (by omega)) (by rw[f.len,List.length_reverse]) i (b.BE (by omega)) (by rw[b.len,List.length_reverse])) t3 ?_;try conv=>cbv
 intro m c;cases c.trans (rfl:_=false);conv=>cbv
 obtain⟨n,a⟩:=xR (em u (-y));refine cL d (KV h i b ht a) t1 ?_;try conv=>cbv
 refine cL (r:= .one (.sl AA C)) d (JW h g a f (b.neg h.red) l ht (by rw[j];congr 1)) t2 ?_;try conv=>cbv
 exact fA ⟨t2,trivial⟩ rfl (by simp)
theorem FA (h:AU R u) (j:T=tw u) (f:A=em u x) (g:B=em u y) (c:El u s x) (d:El u t y) (b:s+t+EE u.length R<=60000000000000) (k:C=em u (x*y)):CF 159 [.one (.sl (.sl AA) T),.one (.sl AA A),.one (.sl AA B)] (.one (.sl AA C)):=by
 refine AE Tryz.func159 (by kernel_rfl) rfl fun E i=>?_
 conv=>cbv
 refine cL (r:= .one (.bool true)) i (MK j h.Ds f (c.BE (by omega)) (by rw[c.len,List.length_reverse]) g (d.BE (by omega)) (by rw[d.len,List.length_reverse])) t3 ?_;try conv=>cbv
 intro l a;cases a.trans (rfl:_=false);conv=>cbv
 refine cL i (Io h j f g c d b k) t3 ?_;try conv=>cbv
 exact fA ⟨t2,trivial⟩ rfl (by simp)
theorem OH (h:AU R u) (g:T=tw u) (b:A=em u x) (a:El u s x) (i:s<=60000000000000) (f:C=em u (-x)):CF 127 [.one (.sl (.sl AA) T),.one (.sl AA A)] (.one (.sl AA C)):=by
 refine AE Tryz.func127 (by kernel_rfl) rfl fun E c=>?_
 conv=>cbv
 refine cL (r:= .one (.bool true)) c (EX g h.Ds b (a.BE (by omega)) (by rw[a.len,List.length_reverse];exact (decide_eq_true rfl).symm)) t2 ?_;try conv=>cbv
 intro j d;cases d.trans (rfl:_=false);conv=>cbv
 refine cL c (KV h b a i f) t1 ?_;try conv=>cbv
 exact fA ⟨t2,trivial⟩ rfl (by simp)
theorem JE (h:AU R u) (i:T=tw u) (f:A=em u x) (c:El u s x) (m:In u y) (d:x*y=1) (l:II u.length R s<=60000000000000) (j:C=em u y):CF 123 [.one (.sl (.sl AA) T),.one (.sl AA A)] (.AF [(false,[.sl AA C]),(false,[.int .i64 0])]):=by
 have k:=C4 u.length R s;refine AE Tryz.func123 (by kernel_rfl) rfl fun E g=>?_
 conv=>cbv
 refine cL (r:= .one (.bool true)) g (EX i h.Ds f (c.BE (by omega)) (by rw[c.len,List.length_reverse];exact (decide_eq_true rfl).symm)) t2 ?_;try conv=>cbv
 intro n a;cases a.trans (rfl:_=false);conv=>cbv
 refine cL g (XI h i f c m d l j) t2 ?_;try conv=>cbv
 intro o b;cases b.trans (rfl:_=false);conv=>cbv
 exact fA ⟨t2,t2,trivial⟩ rfl (by simp)
theorem Tv (h:AU R u) (f:T=tw u) (c:A=em u 0) (j:EE u.length R+R<=60000000000000):CF 123 [.one (.sl (.sl AA) T),.one (.sl AA A)] (.AF [(false,[.sl AA (([]:LR))]),(false,[.int .i64 6])]):=by
 have g:El u 0 0:=El.rat h.red EM;obtain⟨l,i⟩:=Qj h j;refine AE Tryz.func123 (by kernel_rfl) rfl fun E d=>?_
 conv=>cbv
 refine cL (r:= .one (.bool true)) d (EX f h.Ds c (g.BE (by omega)) (by rw[g.len,List.length_reverse];exact (decide_eq_true rfl).symm)) t2 ?_;try conv=>cbv
 intro k a;cases a.trans (rfl:_=false);conv=>cbv
 refine cL d (i f c) t2 ?_;try conv=>cbv
 intro m b;cases b.trans (rfl:_=true);conv=>cbv
 exact fA ⟨⟨rfl,.inr (.inl ⟨_,rfl⟩),trivial⟩,t2,trivial⟩ rfl (by simp)
theorem LO {q:Re} (h:AU R (r::u)) (b:T=tw (r::u)) (k:A=em (r::u) x) (f:El (r::u) s x) (g:x=p+q*rt u r) (c:In u p) (d:In u q) (v:2*s+2*EE u.length R+R+1<=60000000000000) (o:C=em u (p*p-q*q*AI u r)):CF 281 [.one (.sl (.sl AA) T),.one (.sl AA A)] (.one (.sl AA C)):=by
 refine AE Tryz.func281 (by kernel_rfl) rfl fun E l=>?_
 conv=>cbv
 refine cL (r:= .one (.bool true)) l (EX b h.Ds k (f.BE (by omega)) (by rw[f.len,List.length_reverse];exact (decide_eq_true rfl).symm)) t2 ?_;try conv=>cbv
 intro z n;cases n.trans (rfl:_=false);conv=>cbv
 rintro w ⟨m,f11⟩;conv=>cbv
 intro j a;conv=>cbv
 cases j <;> conv=>cbv
 ·have i:=Ab a;refine cL l (Mu h b k f g c d v o) t2 ?_;try conv=>cbv
  exact fA ⟨t2,trivial⟩ rfl (by simp)
 have i:=Ad a;exact absurd (List.length_eq_zero_iff.1 (by omega)) (b ▸ Gz r u)
theorem Y6 {n:Nat} (h:0<n):(List.replicate n (rp 0)).set 0 (rp q)=rp q::List.replicate (n-1) (rp 0):=by
 cases n with
 | zero=>omega
 | succ n=>rfl
theorem QH (h:AQ u):em u (Re.ofRat q)=(em u 0).set 0 (rp q):=by
 rw[em,IT q h,MF h,AW,AW,List.map_cons,List.map_replicate,List.map_replicate,Y6 (Ce _)]
theorem QI (h:AQ (r::u)):em (r::u) (rt u r)=(em (r::u) 0).set (2^u.length) (rp 1):=by
 have e:rt u r=0+1*rt u r:=by grind
 rw[DL h (BP u) (MU u) e,DL (x:=0) h (BP u) (BP u) (by grind),List.set_append_right _ _ (by rw[Ao (BP u)];omega),Ao (BP u),Nat.sub_self]
 congr 1
 exact QH (q:=1) h.1
theorem Ga {b1 b2:Bool} {l1 l2:List UInt32} (h:AU R u) (w:T=tw u) (n:Ap q b1 l1 b2 l2) (K:BK q) (H:C=em u (Re.ofRat q)):CF 243 [.one (.sl (.sl AA) T),.agg [.bool b1,.sl .u32 l1,.bool b2,.sl .u32 l2]] (.one (.sl AA C)):=by
 refine AE Tryz.func243 (by kernel_rfl) rfl fun E l=>?_
 conv=>cbv
 refine cL l (ND w h.Ds rfl) t1 ?_;try conv=>cbv
 intro O G;cases G.trans (rfl:_=false);conv=>cbv
 have J:=n.small K;refine cL l (OK (Nt.2 ⟨q,n⟩).symm (by omega) (by omega)) ⟨t4,trivial⟩ ?_;try conv=>cbv
 intro L k;cases k.trans (rfl:_=false);conv=>cbv
 have m:T.length=u.length:=by rw[w,Ay]
 have g:=h.ht;rintro M ⟨j,f15⟩;conv=>cbv
 intro N g;conv=>cbv
 refine g2 (by omega) ?_;obtain⟨b,a⟩:=xR (em u (0));obtain⟨F,d⟩:=xN b.length;refine cL l (LG h (DF g (j.trans (congrArg _ m)) (by omega)) a d) t1 ?_;try conv=>cbv
 have D:b.length=2^u.length:=by rw[a,Ao (BP u)]
 have I:=Ce u.length;refine g2 (by omega) ?_;intro o z;conv=>cbv
 refine⟨((b1,l1),(b2,l2)),fun _=>⟨by show _<List.length (α:=(el AA)) b;(first | omega | (simp;omega)),by first | exact t1 | exact t2 | exact t4 | simp[Ac,Ak,cells]⟩,?_⟩;intro (f:LR) (c:f=List.set (α:=(el AA)) b o (((b1,l1),(b2,l2))));have v:f.length=b.length:=by rw[c,List.length_set]
 conv=>cbv
 have i:C=f:=by rw[H,QH h.red,c,a,n.rp];congr 1;omega
 exact fA ⟨⟨rfl,.inl ⟨_,rfl,by omega,congrArg _ (by rw[i,List.drop_zero,List.take_of_length_le (by omega)])⟩,trivial⟩,trivial⟩ rfl (by simp)
theorem US {k:Int} (h:AU R (r::u)) (N:T=tw (r::u)) (hk:AK k u.length) (Y:C=em (r::u) (rt u r)):CF 224 [.one (.sl (.sl AA) T),.one (.int .i64 k)] (.one (.sl AA C)):=by
 have W:=hk.eq;have I:T.length=u.length+1:=by rw[N,Ay];rfl
 have Z:=h.ht;have O:(r::u).length=u.length+1:=rfl;refine AE Tryz.func224 (by kernel_rfl) rfl fun E H=>?_
 conv=>cbv
 refine cL H (ND N h.Ds rfl) t1 ?_;try conv=>cbv
 intro n8 X;cases X.trans (rfl:_=false);conv=>cbv
 intro K n;conv=>cbv
 cases K <;> conv=>cbv
 ·have w:=AR n;rintro a5 ⟨V,f16⟩;conv=>cbv
  intro L o;conv=>cbv
  cases L <;> conv=>cbv
  ·have z:=DO o;rintro a6 ⟨D,f20⟩;conv=>cbv
   intro a7 F;conv=>cbv
   refine g2 (by omega) ?_;obtain⟨b,a⟩:=xR (em (r::u) (0));obtain⟨U,l⟩:=xN b.length;refine cL H (LG h (DF F (D.trans (congrArg _ I)) (by omega)) a l) t1 ?_;try conv=>cbv
   intro a8 G;conv=>cbv
   refine g2 (by omega) ?_;obtain⟨i,j,f,g,d⟩:=BD (((1:Int):Rat));refine cL H (EZ (by omega) rfl d) t1 ?_;try conv=>cbv
   have Q:b.length=2^(r::u).length:=by rw[a,Ao (BP _)]
   have a2:=Ce u.length;have a1:=BI r u;have S:=(DF G W (by omega)).eq;refine g2 (by omega) ?_;intro J P;conv=>cbv
   refine⟨((i,j),(f,g)),fun _=>⟨by show _<List.length (α:=(el AA)) b;(first | omega | (simp;omega)),by first | exact t1 | exact t2 | exact t4 | simp[Ac,Ak,cells]⟩,?_⟩;intro (m:LR) (c:m=List.set (α:=(el AA)) b J (((i,j),(f,g))));have M:m.length=b.length:=by rw[c,List.length_set]
   conv=>cbv
   refine g2 rfl ?_;have v:C=m:=by rw[Y,QI h.red,c,a];congr 1 <;> first | omega | exact d.rp
   exact fA ⟨⟨rfl,.inl ⟨_,rfl,by omega,congrArg _ (by rw[v,List.drop_zero,List.take_of_length_le (by omega)])⟩,trivial⟩,trivial⟩ rfl (by simp)
  have z:=DP o;exact absurd z (by omega)
 have w:=AS n;exact absurd w (by omega)
end Go.Abs
