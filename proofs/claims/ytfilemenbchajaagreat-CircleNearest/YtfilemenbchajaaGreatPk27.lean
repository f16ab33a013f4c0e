/- Part 28 of a proof. Conditions: each theorem's own. -/
import Derived.Test.YtfilemenbchajaaGreatPk26
set_option linter.all false
set_option maxHeartbeats 8000000
set_option maxRecDepth 20000
open Go.Proofs
namespace Go.Abs
open Go.RowKit
variable {A B C:LR} {R s t:Nat} {T:List LR} {p x y:Re} {q:Rat} {r:List Rat} {u:List (List Rat)}
theorem UC {q:Re} (h:Al R (r::u)) (H:T=tw (r::u)) (F:A=em (r::u) x) (I:El (r::u) s x) (D:x=p+q*rt u r) (v:In u p) (z:In u q) (U:2*s+2*EE u.length R+R+1<=60000000000000) (G:C=em u (p*p-q*q*AN u r)):CF 304 [.one (.sl (.sl AA) T),.one (.sl AA A)] (.one (.sl AA C)):=by
 have w:=Rc h.red v z (D ▸ I.bd);have o:El u s p:=⟨v,w.1⟩;have d:El u s q:=⟨z,w.2⟩;have n:=El.Ca h;have hR:=h.hR;refine AH Tryz.func304 (by kernel_rfl) rfl fun E m=>?_
 conv=>cbv
 obtain⟨J,a⟩:=xV (tw u);obtain⟨K,f⟩:=xR (Ao r);refine cL m (Pq H a f) t1 ?_;try conv=>cbv
 obtain⟨L,b⟩:=xR (em u p);obtain⟨M,c⟩:=xR (em u q);refine cL m (Lx h.red o.mem d.mem D F b c) t1 ?_;try conv=>cbv
 obtain⟨N,g⟩:=xR (em u (p*p));refine cL m (KH h.tail a b b o o (by omega) g) t3 ?_;try conv=>cbv
 obtain⟨O,i⟩:=xR (em u (q*q));refine cL m (KH h.tail a c c d d (by omega) i) t3 ?_;try conv=>cbv
 obtain⟨P,j⟩:=xR (em u (q*q*AN u r));refine cL m (KH h.tail a i (f.trans (DU h.red)) (d.mul h.tail d) n (by omega) j) t3 ?_;try conv=>cbv
 obtain⟨Q,k⟩:=xR (em u (-(q*q*AN u r)));refine cL m (MN h.tail j ((d.mul h.tail d).mul h.tail n) (by omega) k) t1 ?_;try conv=>cbv
 obtain⟨S,l⟩:=xR (em u (p*p+ -(q*q*AN u r)));refine cL m (LH h.tail g k (o.mul h.tail o) (((d.mul h.tail d).mul h.tail n).neg h.red.1) (by omega) (by omega) l) t2 ?_;try conv=>cbv
 exact fA ⟨⟨rfl,congrArg _ (by rw[G,l];congr 1),trivial⟩,trivial⟩ rfl (by simp)
theorem aa {p:Rat} (M:T=[]) (D:A=[rp p]) (L:B=[rp q]) (O:Bj p) (o:p≠0) (v:q=1/p):CF 261 [.one (.sl (.sl AA) T),.one (.sl AA A)] (.AE [(false,[.sl AA B]),(false,[.bool true])]):=by
 refine AH Tryz.func261 (by kernel_rfl) rfl fun E F=>?_
 conv=>cbv
 rintro P ⟨m,f15⟩;conv=>cbv
 intro w d;conv=>cbv
 cases w <;> conv=>cbv
 ·have f:=Au d;exact absurd (by rw[m,M];rfl) f
 have f:=Av d;obtain⟨I,J,G,H,b⟩:=Bb (((1:Int):Rat));refine cL F (F1 (by omega) rfl b) t1 ?_;try conv=>cbv
 have K:A.length=1:=by rw[D];rfl
 obtain⟨z,a⟩:=AG (l:=A) (i:=0) (by omega);refine⟨z,fun _=>⟨by omega,a⟩,?_⟩;try conv=>cbv
 have N:=D2 D a;obtain⟨j,k,g,h,c⟩:=Bb q;refine cL F (XE b N ⟨by decide +kernel,by decide +kernel⟩ O o v c) ⟨t4,t4,trivial⟩ ?_;try conv=>cbv
 refine g2 rfl ?_;refine⟨[((j,k),(g,h))],fun _=>⟨rfl,by decide,rfl,⟨rfl,by first | exact t1 | exact t2 | exact t4 | simp[Aw,BF,cells],trivial⟩⟩,.inl ?_⟩;try conv=>cbv
 intro Q n;cases n.trans (show _=true by decide);conv=>cbv
 exact fA ⟨⟨rfl,.inl ⟨_,rfl,by simp,congrArg _ (by rw[L,c.rp];rfl)⟩,trivial⟩,t2,trivial⟩ rfl (by simp)
def QN (f:FuncId) (R:Nat) (u:List (List Rat)):Prop:=∀{T:List LR} {A B:LR} {s:Nat} {x y:Re},T=tw u->A=em u x->El u s x->In u y->x*y=1->II u.length R s<=60000000000000->B=em u y->
 CF f [.one (.sl (.sl AA) T),.one (.sl AA A)] (.AE [(false,[.sl AA B]),(false,[.bool true])])
def iC (f:FuncId) (u:List (List Rat)):Prop:=∀{T:List LR} {A:LR},T=tw u->A=em u 0->
 ∃l,CF f [.one (.sl (.sl AA) T),.one (.sl AA A)] (.AE [(false,[.sl AA l]),(false,[.bool false])])
theorem ag {q i:Re} (h:Al R (r::u)) (ih:QN 261 R u) (O:T=tw (r::u)) (U:A=em (r::u) x) (hx:El (r::u) s x) (D:x=p+q*rt u r) (G:El u s p) (z:El u s q) (W:In u i) (I:(p*p-q*q*AN u r)*i=1) (hy:y=p*i+ -(q*i)*rt u r) (hs:II (r::u).length R s<=60000000000000) (hB:B=em (r::u) y):CF 261 [.one (.sl (.sl AA) T),.one (.sl AA A)] (.AE [(false,[.sl AA B]),(false,[.bool true])]):=by
 have a6:II (r::u).length R s=s+EE u.length R+II u.length R (2*s+2*EE u.length R+R+1):=rfl;have V:=El.norm h G.mem z.mem (D ▸ hx);have a:=V.inv h.tail W I;have Z:=Dn u.length R (2*s+2*EE u.length R+R+1);refine AH Tryz.func261 (by kernel_rfl) rfl fun E w=>?_
 conv=>cbv
 rintro a7 ⟨a5,f15⟩;conv=>cbv
 intro Q H;conv=>cbv
 cases Q <;> conv=>cbv
 ·have P:=Au H;obtain⟨aa,b⟩:=xV (tw u);obtain⟨ab,M⟩:=xR (Ao r);refine cL w (Pq O b M) t1 ?_;try conv=>cbv
  obtain⟨ad,l⟩:=xR (em u (p*p-q*q*AN u r));refine cL w (UC h O U hx D G.mem z.mem (by omega) l) t2 ?_;try conv=>cbv
  obtain⟨ae,c⟩:=xR (em u i);refine cL w (ih b l V W I (by omega) c) t2 ?_;try conv=>cbv
  intro a8 N;cases N.trans (rfl:_=false);conv=>cbv
  obtain⟨af,m⟩:=xR (em u p);obtain⟨ah,n⟩:=xR (em u q);refine cL w (Lx h.red G.mem z.mem D U m n) t1 ?_;try conv=>cbv
  obtain⟨j,d⟩:=xR (em u (p*i));obtain⟨a2,f⟩:=xN j.length;refine cL w (mulC h.tail b m c G a (by omega) d f) t3 ?_;try conv=>cbv
  obtain⟨ai,o⟩:=xR (em u (q*i));refine cL w (KH h.tail b n c z a (by omega) o) t3 ?_;try conv=>cbv
  obtain⟨k,g⟩:=xR (em u (-(q*i)));refine cL w (MN h.tail o (z.mul h.tail a) (by omega) g) t1 ?_;try conv=>cbv
  have X:j.length=2^u.length:=by rw[d,BL (G.mul h.tail a).mem]
  have Y:k.length=2^u.length:=by rw[g,BL ((z.mul h.tail a).neg h.red.1).mem]
  have a1:=Cq h.tail.ht;refine .inl ⟨k,fun _=>⟨rfl,f,rfl,by show (j.length+k.length)*64<=140737488355328;(try simp only[List.length_take,List.length_drop]);omega⟩,?_⟩;intro (F:LR) S v;have K:F=(j:LR)++(k:LR):=v.1;have L:S=List.length (α:=(el AA)) F:=v.2;conv=>cbv
  have J:B=F:=by rw[hB,K,d,g];exact EA h.red (G.mul h.tail a).mem ((z.mul h.tail a).neg h.red.1).mem hy
  exact fA ⟨⟨rfl,.inl ⟨_,rfl,by omega,congrArg _ (by rw[J,L,List.drop_zero,List.take_length])⟩,trivial⟩,t2,trivial⟩ rfl (by simp)
 have P:=Av H;exact absurd (List.length_eq_zero_iff.1 (by omega)) (O ▸ JP r u)
theorem aZ (h:Al R u):QN 261 R u:=by
 induction u with
 | nil=>
  intro T A B s x y m g d v a o j;obtain⟨p,rfl⟩:=CI.1 d.mem;obtain⟨q,rfl⟩:=CI.1 v;rw[DT] at g j;rw[<-Re.ofRat_mul] at a;have e:=Re.Du.1 a;have c:=d.Bh (by have:=Dn 0 R s;have:II ([]:List (List Rat)).length R s=II 0 R s:=rfl;omega);rw[Co] at c;exact aa m g j (c _ List.mem_cons_self) (by intro w;subst w;grind) (by grind)
 | cons r u k=>
  intro T A B s x y m g d v a o j;obtain⟨p,q,b,c,n⟩:=El.parts h.red d;have G:=CO h.red;have z:=El.norm h c.mem n.mem (b ▸ d);have l:p*p-q*q*AN u r≠0:=UB h.red c.mem n.mem (by intro e;rw[<-b] at e;rw[e] at a;have F:(0:Re)<1:=Re.HO.2 (show (0:Rat)<1 by decide);grind);obtain⟨i,D,f⟩:=EF h.red.1 z.mem l;refine ag h (k h.tail) m g d b c n D f ?_ o j
  have:y=x*y*((p-q*rt u r)*i):=by
   have:x*y*((p-q*rt u r)*i)=y*((p*p-q*q*AN u r)*i):=by rw[b];clear k;grind
   rw[this,f];clear k;grind
  rw[a] at this
  clear k;grind
theorem IN (h:Al R u) (j:T=tw u) (d:A=em u x) (f:B=em u y) (b:El u s x) (c:El u t y) (k:s<=60000000000000) (ht:t<=60000000000000) (i:C=em u (x+y)):CF 263 [.one (.sl (.sl AA) T),.one (.sl AA A),.one (.sl AA B)] (.one (.sl AA C)):=by
 refine AH Tryz.func263 (by kernel_rfl) rfl fun E g=>?_
 conv=>cbv
 refine cL (r:= .one (.bool true)) g (OF j h.FA d (b.Bh (by omega)) (by rw[b.len,List.length_reverse]) f (c.Bh (by omega)) (by rw[c.len,List.length_reverse])) t3 ?_;try conv=>cbv
 intro l a;cases a.trans (rfl:_=false);conv=>cbv
 refine cL g (LH h d f b c k ht i) t2 ?_;try conv=>cbv
 exact fA ⟨t2,trivial⟩ rfl (by simp)
theorem Ky (h:Al R u) (k:T=tw u) (g:A=em u x) (i:B=em u y) (f:El u s x) (b:El u t y) (l:s<=60000000000000) (ht:t<=60000000000000) (j:C=em u (x-y)):CF 258 [.one (.sl (.sl AA) T),.one (.sl AA A),.one (.sl AA B)] (.one (.sl AA C)):=by
 refine AH Tryz.func258 (by kernel_rfl) rfl fun E d=>?_
 conv=>cbv
 refine cL (r:= .one (.bool true)) d (OF k h.FA g (f.Bh (by omega)) (by rw[f.len,List.length_reverse]) i (b.Bh (by omega)) (by rw[b.len,List.length_reverse])) t3 ?_;try conv=>cbv
 intro m c;cases c.trans (rfl:_=false);conv=>cbv
 obtain⟨n,a⟩:=xR (em u (-y));refine cL d (MN h i b ht a) t1 ?_;try conv=>cbv
 refine cL (r:= .one (.sl AA C)) d (LH h g a f (b.neg h.red) l ht (by rw[j];congr 1)) t2 ?_;try conv=>cbv
 exact fA ⟨t2,trivial⟩ rfl (by simp)
theorem Fz (h:Al R u) (j:T=tw u) (f:A=em u x) (g:B=em u y) (c:El u s x) (d:El u t y) (b:s+t+EE u.length R<=60000000000000) (k:C=em u (x*y)):CF 262 [.one (.sl (.sl AA) T),.one (.sl AA A),.one (.sl AA B)] (.one (.sl AA C)):=by
 refine AH Tryz.func262 (by kernel_rfl) rfl fun E i=>?_
 conv=>cbv
 refine cL (r:= .one (.bool true)) i (OF j h.FA f (c.Bh (by omega)) (by rw[c.len,List.length_reverse]) g (d.Bh (by omega)) (by rw[d.len,List.length_reverse])) t3 ?_;try conv=>cbv
 intro l a;cases a.trans (rfl:_=false);conv=>cbv
 refine cL i (KH h j f g c d b k) t3 ?_;try conv=>cbv
 exact fA ⟨t2,trivial⟩ rfl (by simp)
theorem QU (h:Al R u) (g:T=tw u) (b:A=em u x) (a:El u s x) (i:s<=60000000000000) (f:C=em u (-x)):CF 186 [.one (.sl (.sl AA) T),.one (.sl AA A)] (.one (.sl AA C)):=by
 refine AH Tryz.func186 (by kernel_rfl) rfl fun E c=>?_
 conv=>cbv
 refine cL (r:= .one (.bool true)) c (GR g h.FA b (a.Bh (by omega)) (by rw[a.len,List.length_reverse];exact (decide_eq_true rfl).symm)) t2 ?_;try conv=>cbv
 intro j d;cases d.trans (rfl:_=false);conv=>cbv
 refine cL c (MN h b a i f) t1 ?_;try conv=>cbv
 exact fA ⟨t2,trivial⟩ rfl (by simp)
theorem Ks (h:Al R u) (i:T=tw u) (f:A=em u x) (c:El u s x) (m:In u y) (d:x*y=1) (l:II u.length R s<=60000000000000) (j:C=em u y):CF 204 [.one (.sl (.sl AA) T),.one (.sl AA A)] (.AE [(false,[.sl AA C]),(false,[.int .i64 0])]):=by
 have k:=Dn u.length R s;refine AH Tryz.func204 (by kernel_rfl) rfl fun E g=>?_
 conv=>cbv
 refine cL (r:= .one (.bool true)) g (GR i h.FA f (c.Bh (by omega)) (by rw[c.len,List.length_reverse];exact (decide_eq_true rfl).symm)) t2 ?_;try conv=>cbv
 intro n a;cases a.trans (rfl:_=false);conv=>cbv
 refine cL g (aZ h i f c m d l j) t2 ?_;try conv=>cbv
 intro o b;cases b.trans (rfl:_=false);conv=>cbv
 exact fA ⟨t2,t2,trivial⟩ rfl (by simp)
theorem NF {q:Re} (h:Al R (r::u)) (b:T=tw (r::u)) (k:A=em (r::u) x) (f:El (r::u) s x) (g:x=p+q*rt u r) (c:In u p) (d:In u q) (v:2*s+2*EE u.length R+R+1<=60000000000000) (o:C=em u (p*p-q*q*AN u r)):CF 325 [.one (.sl (.sl AA) T),.one (.sl AA A)] (.one (.sl AA C)):=by
 refine AH Tryz.func325 (by kernel_rfl) rfl fun E l=>?_
 conv=>cbv
 refine cL (r:= .one (.bool true)) l (GR b h.FA k (f.Bh (by omega)) (by rw[f.len,List.length_reverse];exact (decide_eq_true rfl).symm)) t2 ?_;try conv=>cbv
 intro z n;cases n.trans (rfl:_=false);conv=>cbv
 rintro w ⟨m,f11⟩;conv=>cbv
 intro j a;conv=>cbv
 cases j <;> conv=>cbv
 ·have i:=Au a;refine cL l (UC h b k f g c d v o) t2 ?_;try conv=>cbv
  exact fA ⟨t2,trivial⟩ rfl (by simp)
 have i:=Av a;exact absurd (List.length_eq_zero_iff.1 (by omega)) (b ▸ JP r u)
theorem eY {n:Nat} (h:0<n):(List.replicate n (rp 0)).set 0 (rp q)=rp q::List.replicate (n-1) (rp 0):=by
 cases n with
 | zero=>omega
 | succ n=>rfl
theorem Sh (h:Ab u):em u (Re.ofRat q)=(em u 0).set 0 (rp q):=by
 rw[em,Ih q h,N9 h,Ao,Ao,List.map_cons,List.map_replicate,List.map_replicate,eY (DG _)]
theorem Si (h:Ab (r::u)):em (r::u) (rt u r)=(em (r::u) 0).set (2^u.length) (rp 1):=by
 have e:rt u r=0+1*rt u r:=by grind
 rw[EA h (Bp u) (OP u) e,EA (x:=0) h (Bp u) (Bp u) (by grind),List.set_append_right _ _ (by rw[BL (Bp u)];omega),BL (Bp u),Nat.sub_self]
 congr 1
 exact Sh (q:=1) h.1
theorem Hf {b1 b2:Bool} {l1 l2:List UInt32} (h:Al R u) (w:T=tw u) (n:BM q b1 l1 b2 l2) (K:Bj q) (H:C=em u (Re.ofRat q)):CF 298 [.one (.sl (.sl AA) T),.agg [.bool b1,.sl .u32 l1,.bool b2,.sl .u32 l2]] (.one (.sl AA C)):=by
 refine AH Tryz.func298 (by kernel_rfl) rfl fun E l=>?_
 conv=>cbv
 refine cL l (PF w h.FA rfl) t1 ?_;try conv=>cbv
 intro O G;cases G.trans (rfl:_=false);conv=>cbv
 have J:=n.small K;refine cL l (QX (P6.2 ⟨q,n⟩).symm (by omega) (by omega)) ⟨t4,trivial⟩ ?_;try conv=>cbv
 intro L k;cases k.trans (rfl:_=false);conv=>cbv
 have m:T.length=u.length:=by rw[w,BU]
 have g:=h.ht;rintro M ⟨j,f15⟩;conv=>cbv
 intro N g;conv=>cbv
 refine g2 (by omega) ?_;obtain⟨b,a⟩:=xR (em u (0));obtain⟨F,d⟩:=xN b.length;refine cL l (M8 h (D3 g (j.trans (congrArg _ m)) (by omega)) a d) t1 ?_;try conv=>cbv
 have D:b.length=2^u.length:=by rw[a,BL (Bp u)]
 have I:=DG u.length;refine g2 (by omega) ?_;intro o z;conv=>cbv
 refine⟨((b1,l1),(b2,l2)),fun _=>⟨by show _<List.length (α:=(el AA)) b;(first | omega | (simp;omega)),by first | exact t1 | exact t2 | exact t4 | simp[Aw,BF,cells]⟩,?_⟩;intro (f:LR) (c:f=List.set (α:=(el AA)) b o (((b1,l1),(b2,l2))));have v:f.length=b.length:=by rw[c,List.length_set]
 conv=>cbv
 have i:C=f:=by rw[H,Sh h.red,c,a,n.rp];congr 1;omega
 exact fA ⟨⟨rfl,.inl ⟨_,rfl,by omega,congrArg _ (by rw[i,List.drop_zero,List.take_of_length_le (by omega)])⟩,trivial⟩,trivial⟩ rfl (by simp)
theorem XL {k:Int} (h:Al R (r::u)) (N:T=tw (r::u)) (hk:AS k u.length) (Y:C=em (r::u) (rt u r)):CF 236 [.one (.sl (.sl AA) T),.one (.int .i64 k)] (.one (.sl AA C)):=by
 have W:=hk.eq;have I:T.length=u.length+1:=by rw[N,BU];rfl
 have Z:=h.ht;have O:(r::u).length=u.length+1:=rfl;refine AH Tryz.func236 (by kernel_rfl) rfl fun E H=>?_
 conv=>cbv
 refine cL H (PF N h.FA rfl) t1 ?_;try conv=>cbv
 intro n8 X;cases X.trans (rfl:_=false);conv=>cbv
 intro K n;conv=>cbv
 cases K <;> conv=>cbv
 ·have w:=Ad n;rintro a5 ⟨V,f16⟩;conv=>cbv
  intro L o;conv=>cbv
  cases L <;> conv=>cbv
  ·have z:=EC o;rintro a6 ⟨D,f20⟩;conv=>cbv
   intro a7 F;conv=>cbv
   refine g2 (by omega) ?_;obtain⟨b,a⟩:=xR (em (r::u) (0));obtain⟨U,l⟩:=xN b.length;refine cL H (M8 h (D3 F (D.trans (congrArg _ I)) (by omega)) a l) t1 ?_;try conv=>cbv
   intro a8 G;conv=>cbv
   refine g2 (by omega) ?_;obtain⟨i,j,f,g,d⟩:=Bb (((1:Int):Rat));refine cL H (F1 (by omega) rfl d) t1 ?_;try conv=>cbv
   have Q:b.length=2^(r::u).length:=by rw[a,BL (Bp _)]
   have a2:=DG u.length;have a1:=Bc r u;have S:=(D3 G W (by omega)).eq;refine g2 (by omega) ?_;intro J P;conv=>cbv
   refine⟨((i,j),(f,g)),fun _=>⟨by show _<List.length (α:=(el AA)) b;(first | omega | (simp;omega)),by first | exact t1 | exact t2 | exact t4 | simp[Aw,BF,cells]⟩,?_⟩;intro (m:LR) (c:m=List.set (α:=(el AA)) b J (((i,j),(f,g))));have M:m.length=b.length:=by rw[c,List.length_set]
   conv=>cbv
   refine g2 rfl ?_;have v:C=m:=by rw[Y,Si h.red,c,a];congr 1 <;> first | omega | exact d.rp
   exact fA ⟨⟨rfl,.inl ⟨_,rfl,by omega,congrArg _ (by rw[v,List.drop_zero,List.take_of_length_le (by omega)])⟩,trivial⟩,trivial⟩ rfl (by simp)
  have z:=ED o;exact absurd z (by omega)
 have w:=Ae n;exact absurd w (by omega)
end Go.Abs
