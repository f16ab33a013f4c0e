/- Part 42 of a proof. Conditions: each theorem's own. -/
import Derived.Test.YtoonaidhfikkeaaGreatPk40
set_option linter.all false
set_option maxHeartbeats 8000000
open Go.Proofs
namespace Go.Abs
open Go.RowKit
variable {A1 A2 C:LR} {K K2 R S S2:Nat} {T T1 T2:List LR} {TT:List (List Rat)->Prop} {c:Int} {q:Rat} {u v:List (List Rat)} {x y:Re}
theorem Oy (G:CH TT R K S) (hu:TT u) (U:TT v) (t:T1=tw u) (w:T2=tw v) (o:A1=em u x) (s:A2=em v y) (V:El u S x) (W:El v S y) {A B:LR} (Q:T=tw (Aj u v)) (J:A=em (Aj u v) x) (L:B=em (Aj u v) y):CF 95 [.agg [.sl (.sl AA) T1,.sl AA A1],.agg [.sl (.sl AA) T2,.sl AA A2]] (.AF [(true,[.sl (.sl AA) T,.sl AA A]),(true,[.sl (.sl AA) T,.sl AA B]),(false,[.int .i64 0])]):=by
 obtain⟨O,j⟩:∃z:List (el AY),z=[(T,A),(T,B)]:=⟨_,rfl⟩
 have P:O.length=2:=by rw[j];rfl
 have H:O[0]? =some (T,A):=by rw[j];rfl
 have I:O[1]? =some (T,B):=by rw[j];rfl
 refine AE Tryz.func95 (by kernel_rfl) rfl fun E N=>?_
 conv=>cbv
 refine⟨[(T1,A1),(T2,A2)],fun _=>⟨rfl,by decide,rfl,⟨rfl,by first | exact t1 | exact t2 | exact t4 | simp[Ac,Ak,cells],⟨rfl,by first | exact t1 | exact t2 | exact t4 | simp[Ac,Ak,cells],trivial⟩⟩⟩,.inr ?_⟩;try conv=>cbv
 refine cL (r:= .AF [(false,[.sl AY O]),(false,[.int .i64 0])]) N (Ug (ns:=[(u,x),(v,y)]) G (by intro n h;simp at h;rcases h with rfl | rfl;exact hu;exact U) (by rw[t,w,o,s];rfl) (by intro n h;simp at h;rcases h with rfl | rfl;exact V;exact W) (by show 2<=1000000;decide) (by rw[j,Q,J,L];rfl)) t1 ?_;try conv=>cbv
 intro X m;cases m.trans (show _=false by decide);conv=>cbv
 obtain⟨D,a⟩:=AG (l:=O) (i:=0) (by omega);refine⟨D,fun _=>⟨by omega,a⟩,?_⟩;try conv=>cbv
 obtain⟨F,d⟩:=AG (l:=O) (i:=1) (by omega);refine⟨F,fun _=>⟨by omega,d⟩,?_⟩;try conv=>cbv
 refine g2 rfl ?_;have f:=Option.some.inj (a.symm.trans H);have g:=Option.some.inj (d.symm.trans I);exact fA ⟨⟨rfl,congrArg _ (by rw[f]),congrArg _ (by rw[f]),trivial⟩,⟨rfl,congrArg _ (by rw[g]),congrArg _ (by rw[g]),trivial⟩,t2,trivial⟩ rfl (by simp)
theorem LZ (G:CH TT R K S) (hu:TT u) (n:TT v) (h:T1=tw u) (i:T2=tw v) (f:A1=em u x) (g:A2=em v y) (z:El u S x) (D:El v S y) (H:T=tw (Aj u v)) (F:C=em (Aj u v) (x+y)):CF 112 [.agg [.sl (.sl AA) T1,.sl AA A1],.agg [.sl (.sl AA) T2,.sl AA A2]] (.AF [(true,[.sl (.sl AA) T,.sl AA C]),(false,[.int .i64 0])]):=by
 obtain⟨a,j,m⟩:=G.toGam.Aj hu n;have o:=G.BF hu a j z;have r:=G.BF n a m D;have hmul:=G.mul a;obtain⟨A,s⟩:=Bu (em (Aj u v) x);obtain⟨B,t⟩:=Bu (em (Aj u v) y);refine AE Tryz.func112 (by kernel_rfl) rfl fun E w=>?_
 conv=>cbv
 refine cL w (Oy G hu n h i f g z D H s t) ⟨t2,t2,trivial⟩ ?_;try conv=>cbv
 intro I d;cases d.trans (show _=false by decide);conv=>cbv
 refine cL w (Ge (G.AL a) s t o r (by omega) (by omega) F) t3 ?_;try conv=>cbv
 refine g2 rfl ?_;exact fA ⟨t3,t2,trivial⟩ rfl (by simp)
theorem Lb (G:CH TT R K S) (hu:TT u) (n:TT v) (h:T1=tw u) (i:T2=tw v) (f:A1=em u x) (g:A2=em v y) (D:El u S x) (F:El v S y) (z:T=tw (Aj u v)) (H:C=em (Aj u v) (x*y)):CF 39 [.agg [.sl (.sl AA) T1,.sl AA A1],.agg [.sl (.sl AA) T2,.sl AA A2]] (.AF [(true,[.sl (.sl AA) T,.sl AA C]),(false,[.int .i64 0])]):=by
 obtain⟨a,j,m⟩:=G.toGam.Aj hu n;have o:=G.BF hu a j D;have r:=G.BF n a m F;have hmul:=G.mul a;obtain⟨A,s⟩:=Bu (em (Aj u v) x);obtain⟨B,t⟩:=Bu (em (Aj u v) y);refine AE Tryz.func39 (by kernel_rfl) rfl fun E w=>?_
 conv=>cbv
 refine cL w (Oy G hu n h i f g D F z s t) ⟨t2,t2,trivial⟩ ?_;try conv=>cbv
 intro I d;cases d.trans (show _=false by decide);conv=>cbv
 refine cL w (Ch (G.AL a) z s t o r (by omega) H) t3 ?_;try conv=>cbv
 refine g2 rfl ?_;exact fA ⟨t3,t2,trivial⟩ rfl (by simp)
theorem Lc (G:CH TT R K S) (hu:TT u) (g:T1=tw u) (a:A1=em u x) (h:El u S x) (d:C=em u (-x)):CF 38 [.agg [.sl (.sl AA) T1,.sl AA A1]] (.agg [.sl (.sl AA) T1,.sl AA C]):=by
 refine AE Tryz.func38 (by kernel_rfl) rfl fun E f=>?_
 conv=>cbv
 refine cL f (HB (G.AL hu) a h d) t2 ?_;try conv=>cbv
 refine g2 rfl ?_;exact fA ⟨t3,trivial⟩ rfl (by simp)
theorem Le (G:CH TT R K S) (hu:TT u) (i:TT v) (h:T1=tw u) (a:T2=tw v) (f:A1=em u x) (g:A2=em v y) (r:El u S x) (m:El v S y) (o:T=tw (Aj u v)) (n:C=em (Aj u v) (x-y)):CF 114 [.agg [.sl (.sl AA) T1,.sl AA A1],.agg [.sl (.sl AA) T2,.sl AA A2]] (.AF [(true,[.sl (.sl AA) T,.sl AA C]),(false,[.int .i64 0])]):=by
 refine AE Tryz.func114 (by kernel_rfl) rfl fun E j=>?_
 conv=>cbv
 obtain⟨s,d⟩:=Bu (em v (-y));refine cL j (Lc G i a g m d) ⟨t2,trivial⟩ ?_;try conv=>cbv
 refine cL j (LZ G hu i h a f d r (m.neg (G.AL i).red) o n) ⟨t2,t2,trivial⟩ ?_;try conv=>cbv
 refine g2 rfl ?_;exact fA ⟨t3,t2,trivial⟩ rfl (by simp)
theorem Ld (G:CH TT R K S) (hu:TT u) (d:T1=tw u) (a:A1=em u x) (h:El u S x) (g:c=At x):CF 37 [.agg [.sl (.sl AA) T1,.sl AA A1]] (.one (.int .i64 c)):=by
 refine AE Tryz.func37 (by kernel_rfl) rfl fun E f=>?_
 conv=>cbv
 refine cL f (Uf (G.AL hu) d a h ((G.GB hu).mono (Nat.le_add_right _ _)).v0 g) t2 ?_;try conv=>cbv
 exact fA ⟨t2,trivial⟩ rfl (by simp)
theorem OZ (G:CH TT R K S) (hu:TT u) (f:T1=tw u) (d:A1=em u x) (m:El u S x) (hw:TT (Ag u x)) (g:0<=x) (j:T=tw (Ag u x)) (h:C=em (Ag u x) (Re.sqrt x)):CF 116 [.agg [.sl (.sl AA) T1,.sl AA A1]] (.AF [(true,[.sl (.sl AA) T,.sl AA C]),(false,[.int .i64 0])]):=by
 refine AE Tryz.func116 (by kernel_rfl) rfl fun E i=>?_
 conv=>cbv
 refine cL i (LV (G.AL hu) (G.AL hw) (G.ht hw) f d m ((G.GB hu).mono (Nat.le_add_right _ _)) g j h) t2 ?_;try conv=>cbv
 intro n a;cases a.trans (show _=false by decide);conv=>cbv
 exact fA ⟨t3,t2,trivial⟩ rfl (by simp)
theorem OY (G:CH TT R K S) (hu:TT u) (s:TT v) (m:T1=tw u) (d:T2=tw v) (g:A1=em u x) (h:A2=em v y) (A:El u S x) (B:El v S y) {i:Re} (z:In v i) (o:y*i=1) (n:El v S i) (j:II v.length R S<=60000000000000) (w:T=tw (Aj u v)) (t:C=em (Aj u v) (x*i)):CF 115 [.agg [.sl (.sl AA) T1,.sl AA A1],.agg [.sl (.sl AA) T2,.sl AA A2]] (.AF [(true,[.sl (.sl AA) T,.sl AA C]),(false,[.int .i64 0])]):=by
 refine AE Tryz.func115 (by kernel_rfl) rfl fun E r=>?_
 conv=>cbv
 obtain⟨F,a⟩:=Bu (em v i);refine cL r (JR (G.AL s) d h B z o j a) t2 ?_;try conv=>cbv
 intro D f;cases f.trans (show _=false by decide);conv=>cbv
 refine cL r (Lb G hu s m d g a A n w t) ⟨t2,t2,trivial⟩ ?_;try conv=>cbv
 exact fA ⟨t3,t2,trivial⟩ rfl (by simp)
theorem Uk (G:CH TT R K S) (hu:TT u) (m:TT v) (j:T1=tw u) (f:T2=tw v) (h:A1=em u x) (d:A2=em v y) (o:El u S x) (s:El v S y) (g:y=0):CF 115 [.agg [.sl (.sl AA) T1,.sl AA A1],.agg [.sl (.sl AA) T2,.sl AA A2]] (.AF [(true,[.sl (.sl AA) (([]:List LR)),.sl AA (([]:LR))]),(false,[.int .i64 6])]):=by
 refine AE Tryz.func115 (by kernel_rfl) rfl fun E i=>?_
 conv=>cbv
 refine cL (r:= .AF [(false,[.sl AA []]),(false,[.int .i64 6])]) i (Om (G.AL m) f (d.trans (by rw[g]))) t2 ?_;try conv=>cbv
 intro n a;cases a.trans (show _=true by decide);conv=>cbv
 exact fA ⟨⟨rfl,.inr (.inl ⟨_,rfl⟩),.inr (.inl ⟨_,rfl⟩),trivial⟩,t2,trivial⟩ rfl (by simp)
theorem Uj (G:CH TT R K S) (hu:TT u) (r:TT v) (j:T1=tw u) (m:T2=tw v) (h:A1=em u x) (i:A2=em v y) (z:El u S x) (A:El v S y) (B:CH TT R K2 S2) (H:2*(S+K)+1<=S2) (D:c=At (x-y)):CF 86 [.agg [.sl (.sl AA) T1,.sl AA A1],.agg [.sl (.sl AA) T2,.sl AA A2]] (.AF [(false,[.int .i64 c]),(false,[.int .i64 0])]):=by
 obtain⟨a,n,o⟩:=G.toGam.Aj hu r;have s:=G.BF hu a n z;have t:=G.BF r a o A;have hmul:=G.mul a;refine AE Tryz.func86 (by kernel_rfl) rfl fun E w=>?_
 conv=>cbv
 obtain⟨J,f⟩:=EG (tw (Aj u v));obtain⟨I,d⟩:=Bu (em (Aj u v) (x-y));refine cL w (Le G hu r j m h i z A f d) ⟨t2,t2,trivial⟩ ?_;try conv=>cbv
 intro F g;cases g.trans (show _=false by decide);conv=>cbv
 refine cL w (Ld B a f d ((s.sub (G.AL a).red t).mono (by omega)) D) ⟨t2,trivial⟩ ?_;try conv=>cbv
 exact fA ⟨t2,t2,trivial⟩ rfl (by simp)
theorem Ul (G:CH TT R K S) (hu:TT u) (t:TT v) (j:T1=tw u) (m:T2=tw v) (g:A1=em u x) (i:A2=em v y) (w:El u S x) (z:El v S y) (n:CH TT R K2 S2) (r:2*(S+K)+1<=S2) {c:Bool} (s:c=true↔x=y):CF 28 [.agg [.sl (.sl AA) T1,.sl AA A1],.agg [.sl (.sl AA) T2,.sl AA A2]] (.one (.bool c)):=by
 refine AE Tryz.func28 (by kernel_rfl) rfl fun E o=>?_
 conv=>cbv
 obtain⟨D,a⟩:=xI (At (x-y));refine cL o (Uj G hu t j m g i w z n r a) ⟨t2,t2,trivial⟩ ?_;try conv=>cbv
 intro A d;cases d.trans (show _=true by decide);conv=>cbv
 intro B f;conv=>cbv
 exact fA ⟨⟨rfl,congrArg _ (by rw[Bool.eq_iff_iff,s,f,beq_iff_eq,a,Ez];constructor <;> intro h <;> grind),trivial⟩,trivial⟩ rfl (by simp)
theorem Un (G:CH TT R K S) (hu:TT u) (a:T1=tw u) (d:A1=em u x) (m:El u S x):CF 27 [.agg [.sl (.sl AA) T1,.sl AA A1]] (.one (.bool true)):=by
 have i:T1.length=u.length:=by rw[a,Ay]
 have j:=G.ht hu;have hmul:=G.mul hu;refine AE Tryz.func27 (by kernel_rfl) rfl fun E g=>?_
 conv=>cbv
 rintro r ⟨o,f5⟩;conv=>cbv
 intro n f;conv=>cbv
 cases n <;> conv=>cbv
 ·have h:=Hd f;exact absurd h (by omega)
 have h:=He f;refine cL g (H9 (G.AL hu) a d m (by omega)) t2 ?_;try conv=>cbv
 refine cL g (Lf (G.AL hu) a (G.GB hu).vR (G.GB hu).qR) t1 ?_;try conv=>cbv
 exact fA ⟨t2,trivial⟩ rfl (by simp)
theorem JO {b1 b2:Bool} {l1 l2:List UInt32} (d:Ap q b1 l1 b2 l2) (a:C=em [] (Re.ofRat q)):CF 131 [.agg [.bool b1,.sl .u32 l1,.bool b2,.sl .u32 l2]] (.agg [.sl (.sl AA) (([]:List LR)),.sl AA C]):=by
 refine AE Tryz.func131 (by kernel_rfl) rfl fun E f=>?_
 conv=>cbv
 refine⟨[((b1,l1),(b2,l2))],fun _=>⟨rfl,by decide,rfl,⟨rfl,by first | exact t1 | exact t2 | exact t4 | simp[Ac,Ak,cells],trivial⟩⟩,.inr ?_⟩;try conv=>cbv
 exact fA ⟨⟨rfl,.inr (.inl ⟨_,rfl⟩),congrArg _ (by rw[a,Ci,<-d.rp]),trivial⟩,trivial⟩ rfl (by simp)
theorem Um {x:Int} (g: -9223372036854775808<=x/\x<9223372036854775808) (f:C=em [] (Re.ofRat x)):CF 73 [.one (.int .i64 x)] (.agg [.sl (.sl AA) (([]:List LR)),.sl AA C]):=by
 refine AE Tryz.func73 (by kernel_rfl) rfl fun E d=>?_
 conv=>cbv
 obtain⟨j,m,h,i,a⟩:=BD (x:Rat);refine cL d (DI g rfl a) t1 ?_;try conv=>cbv
 refine cL d (JO a f) ⟨t4,trivial⟩ ?_;try conv=>cbv
 exact fA ⟨t3,trivial⟩ rfl (by simp)
theorem La {n d:Int} (j: -9223372036854775808<=n/\n<9223372036854775808) (i: -9223372036854775808<=d/\d<9223372036854775808) (g:d≠0) (m:q=Rat.divInt n d) (h:C=em [] (Re.ofRat q)):CF 98 [.one (.int .i64 n),.one (.int .i64 d)] (.agg [.sl (.sl AA) (([]:List LR)),.sl AA C]):=by
 refine AE Tryz.func98 (by kernel_rfl) rfl fun E f=>?_
 conv=>cbv
 obtain⟨s,t,o,r,a⟩:=BD q;refine cL f (LX j i g m a) t2 ?_;try conv=>cbv
 refine cL f (JO a h) ⟨t4,trivial⟩ ?_;try conv=>cbv
 exact fA ⟨t3,trivial⟩ rfl (by simp)
end Go.Abs
namespace Go.Abs
open Go.RowKit
section
variable {TT:List (List Rat)->Prop} {w:List (List Rat)} {R b c M q p k l:Nat} {T1 T2:List LR} {A1 A2:LR} {x y:Re}
theorem Nm.data {f:LR} (h:Nm TT w b k T1 A1 x) (g:Nm TT w b l T1 f y) (e:x=y):A1=f:=by
 obtain⟨u,_,j,i,_⟩:=h;obtain⟨v,_,d,a,_⟩:=g;rw[i,a,e,Nq (j.symm.trans d)]
theorem Hj (F:Fm TT w R b c M q p) (s:Nm TT w b k T1 A1 x) (hb:Nm TT w b l T2 A2 y) (t:k+c+1<=M) (z:l+c+1<=M):∃T A,Nm TT w b (k+l+1) T A (x+y)/\CF 128 [.agg [.sl (.sl AA) T1,.sl AA A1],.agg [.sl (.sl AA) T2,.sl AA A2]] (.AF [(true,[.sl (.sl AA) T,.sl AA A]),(false,[.int .i64 0])])/\CF 112 [.agg [.sl (.sl AA) T1,.sl AA A1],.agg [.sl (.sl AA) T2,.sl AA A2]] (.AF [(true,[.sl (.sl AA) T,.sl AA A]),(false,[.int .i64 0])]):=by
 obtain⟨u,v,j,H,_,hu,o,f,g,a,d,B,D,m,n,h,i,G,g1,g2,r⟩:=F.two s hb t z;refine⟨_,_,⟨Aj u v,g1,rfl,rfl,B6 (g2 _ B) (r _ D),(m.add (G.AL F.top).red n).mono ?_⟩,Ty G.toGam hu o f g a d h i rfl rfl,LZ G hu o f g a d h i rfl rfl⟩;have:=F.hb;have:=F.ee;rw[Nat.add_mul,Nat.add_mul];omega
theorem RO (F:Fm TT w R b c M q p) (s:Nm TT w b k T1 A1 x) (hb:Nm TT w b l T2 A2 y) (t:k+c+1<=M) (z:l+c+1<=M):∃T A,Nm TT w b (k+l+1) T A (x-y)/\CF 122 [.agg [.sl (.sl AA) T1,.sl AA A1],.agg [.sl (.sl AA) T2,.sl AA A2]] (.AF [(true,[.sl (.sl AA) T,.sl AA A]),(false,[.int .i64 0])])/\CF 114 [.agg [.sl (.sl AA) T1,.sl AA A1],.agg [.sl (.sl AA) T2,.sl AA A2]] (.AF [(true,[.sl (.sl AA) T,.sl AA A]),(false,[.int .i64 0])]):=by
 obtain⟨u,v,j,H,_,hu,o,f,g,a,d,B,D,m,n,h,i,G,g1,g2,r⟩:=F.two s hb t z;refine⟨_,_,⟨Aj u v,g1,rfl,rfl,DQ (g2 _ B) (r _ D),(m.sub (G.AL F.top).red n).mono ?_⟩,UD G.toGam hu o f g a d h i rfl rfl,Le G hu o f g a d h i rfl rfl⟩;have:=F.hb;have:=F.ee;rw[Nat.add_mul,Nat.add_mul];omega
theorem GL (F:Fm TT w R b c M q p) (s:Nm TT w b k T1 A1 x) (hb:Nm TT w b l T2 A2 y) (t:k+c+1<=M) (z:l+c+1<=M):∃T A,Nm TT w b (k+l+1) T A (x*y)/\CF 124 [.agg [.sl (.sl AA) T1,.sl AA A1],.agg [.sl (.sl AA) T2,.sl AA A2]] (.AF [(true,[.sl (.sl AA) T,.sl AA A]),(false,[.int .i64 0])])/\CF 39 [.agg [.sl (.sl AA) T1,.sl AA A1],.agg [.sl (.sl AA) T2,.sl AA A2]] (.AF [(true,[.sl (.sl AA) T,.sl AA A]),(false,[.int .i64 0])]):=by
 obtain⟨u,v,j,H,_,hu,o,f,g,a,d,B,D,m,n,h,i,G,g1,g2,r⟩:=F.two s hb t z;refine⟨_,_,⟨Aj u v,g1,rfl,rfl,Aa (G.AL g1).red (g2 _ B) (r _ D),(m.mul (G.AL F.top) n).mono ?_⟩,OF G.toGam hu o f g a d h i rfl rfl,Lb G hu o f g a d h i rfl rfl⟩;have:=F.hb;have:=F.ee;rw[Nat.add_mul,Nat.add_mul];omega
theorem Hk (F:Fm TT w R b c M q p) (j:Nm TT w b k T1 A1 x) (m:k+c+1<=M):∃A,Nm TT w b k T1 A (-x)/\CF 62 [.agg [.sl (.sl AA) T1,.sl AA A1]] (.agg [.sl (.sl AA) T1,.sl AA A])/\CF 38 [.agg [.sl (.sl AA) T1,.sl AA A1]] (.agg [.sl (.sl AA) T1,.sl AA A]):=by
 obtain⟨u,hu,d,f,n,i,h⟩:=F.own (by omega) j;have G:=F.g m (by omega);have a:=h.mono (Nat.mul_le_mul_right b (Nat.le_succ (k+c)));exact⟨_,⟨u,hu,d,rfl,Em n,i.neg (G.AL F.top).red⟩,UB G.toGam hu d f a rfl,Lc G hu d f a rfl⟩
theorem KX (F:Fm TT w R b c M q p) (i:Nm TT w b k T1 A1 x) (j:k+c+1<=M):∃s:Int,s=At x/\CF 56 [.agg [.sl (.sl AA) T1,.sl AA A1]] (.one (.int .i64 s))/\CF 37 [.agg [.sl (.sl AA) T1,.sl AA A1]] (.one (.int .i64 s)):=by
 obtain⟨u,hu,f,d,n,m,h⟩:=F.own (by omega) i;have G:=F.g j (by omega);have a:=h.mono (Nat.mul_le_mul_right b (Nat.le_succ (k+c)));exact⟨_,rfl,UC G.toGam hu f d a rfl,Ld G hu f d a rfl⟩
theorem RP (F:Fm TT w R b c M q p) (h:Nm TT w b k T1 A1 x) (i:k+c+1<=M):CF 27 [.agg [.sl (.sl AA) T1,.sl AA A1]] (.one (.bool true)):=by
 obtain⟨u,hu,d,a,m,j,f⟩:=F.own (by omega) h;exact Un (F.g i (by omega)) hu d a (f.mono (Nat.mul_le_mul_right b (Nat.le_succ (k+c))))
theorem Fm.pair (F:Fm TT w R b c M q p) {j:Nat} (h:2*j+2*c+1<=M):CH TT R (c*b) ((2*j+2*c+1)*b)/\2*(j*b+c*b)+1<=(2*j+2*c+1)*b:=by
 refine⟨F.g h (by omega),?_⟩;have:=F.hb;rw[Nat.add_mul,Nat.add_mul,Nat.mul_assoc,Nat.mul_assoc];omega
theorem KW (F:Fm TT w R b c M q p) (r:Nm TT w b k T1 A1 x) (hb:Nm TT w b l T2 A2 y) (D:2*k+4*c+3<=M) (H:2*l+4*c+3<=M):∃e:Bool,(e=true↔x=y)/\CF 101 [.agg [.sl (.sl AA) T1,.sl AA A1],.agg [.sl (.sl AA) T2,.sl AA A2]] (.one (.bool e))/\CF 28 [.agg [.sl (.sl AA) T1,.sl AA A1],.agg [.sl (.sl AA) T2,.sl AA A2]] (.one (.bool e)):=by
 obtain⟨u,v,j,B,s,hu,m,f,g,a,d,I,J,t,z,h,i,G,g1,g2,A⟩:=F.two r hb (by omega) (by omega);obtain⟨n,o⟩:=F.pair (j:=j) (by omega);obtain⟨e,he⟩:=CY (x=y);exact⟨e,he,UA G.toGam hu m f g a d h i he,Ul G hu m f g a d h i n o he⟩
theorem a7 (F:Fm TT w R b c M q p) (U:Nm TT w b k T1 A1 x) (hb:Nm TT w b l T2 A2 y) {d:Nat} (V:q*l+p<=d) (z:y≠0) (hk:k+c+1<=M) (hl:l+c+1<=M) (Z:d+c+1<=M):∃T A,Nm TT w b (k+d+1) T A (x*Dk y)/\CF 60 [.agg [.sl (.sl AA) T1,.sl AA A1],.agg [.sl (.sl AA) T2,.sl AA A2]] (.AF [(true,[.sl (.sl AA) T,.sl AA A]),(false,[.int .i64 0])])/\CF 115 [.agg [.sl (.sl AA) T1,.sl AA A1],.agg [.sl (.sl AA) T2,.sl AA A2]] (.AF [(true,[.sl (.sl AA) T,.sl AA A]),(false,[.int .i64 0])]):=by
 obtain⟨u,hu,m,h,X,I,H⟩:=F.own (by omega) U;obtain⟨v,f,n,i,Y,L,J⟩:=F.own (by omega) hb;have G:=F.g (Nat.le_refl M) (by omega);obtain⟨g1,g2,O⟩:=G.toGam.Aj hu f;have a:=KB (G.AL f).red Y z
 have r:El w (d*b) (Dk y):=(L.inv (G.AL F.top) (F.all f _ a) (HW z)).mono (by
  have:=F.ii (l*b) F.top;have P:=Nat.mul_le_mul_right b V;rw[Nat.add_mul,Nat.mul_assoc] at P;omega)
 obtain⟨N,W,B,Q,_,_,D⟩:=F.own (by omega) (show Nm TT w b d (tw v) (em v (Dk y)) (Dk y) from⟨v,f,rfl,rfl,a,r⟩);have ev:N=v:=(Nq B).symm;subst ev;have j:II N.length R (M*b)<=60000000000000:=Nat.le_trans (F.ii (M*b) f) F.hM;have s:=H.mono (Nat.mul_le_mul_right b (show k+c<=M by omega));have t:=J.mono (Nat.mul_le_mul_right b (show l+c<=M by omega));have o:=D.mono (Nat.mul_le_mul_right b (show d+c<=M by omega));refine⟨_,_,⟨Aj u N,g1,rfl,rfl,Aa (G.AL g1).red (g2 _ X) (O _ a),(I.mul (G.AL F.top) r).mono ?_⟩,Tz G.toGam hu f m n h i s t a (HW z) o j rfl rfl,OY G hu f m n h i s t a (HW z) o j rfl rfl⟩;have:=F.ee;rw[Nat.add_mul,Nat.add_mul,Nat.one_mul];omega
end
end Go.Abs
