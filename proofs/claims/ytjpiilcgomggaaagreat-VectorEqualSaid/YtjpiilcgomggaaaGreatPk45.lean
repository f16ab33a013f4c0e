/- Part 46 of a proof. Conditions: each theorem's own. -/
import Derived.Test.YtjpiilcgomggaaaGreatPk43
set_option linter.all false
set_option maxHeartbeats 8000000
open Go.Proofs
namespace Go.Abs
open Go.RowKit
abbrev Vee:=Nu×Nu
structure Nvv (TT:List (List Rat)->Prop) (s:Nat) (T:List LR) (A:LR) (n:Nu):Prop where
 hu:TT n.1
 hT:T=tw n.1
 hA:A=em n.1 n.2
 hx:El n.1 s n.2
structure Wvv (TT:List (List Rat)->Prop) (s:Nat) (T1:List LR) (A1:LR) (T2:List LR) (A2:LR) (p:Vee):Prop where
 x:Nvv TT s T1 A1 p.1
 y:Nvv TT s T2 A2 p.2
structure Ctx (TT:List (List Rat)->Prop) (R C:Nat) (L:Nat->Nat) (m:Nat):Prop where
 J5:∀{k},k<=m->CP TT R C (L k)
 bV:∀{k},k<m->2*(L k+C)+1<=L (k+1)
 upm:∀{k u},k<m->TT u->2*(L k+C)+EE u.length R<=L (k+1)
noncomputable def ar (a b:Nu):Nu:=(Al a.1 b.1,a.2+b.2)
noncomputable def cB (a b:Nu):Nu:=(Al a.1 b.1,a.2-b.2)
noncomputable def al (a b:Nu):Nu:=(Al a.1 b.1,a.2*b.2)
noncomputable def aw (a:Nu):Nu:=(a.1,-a.2)
noncomputable def qN (q:Rat):Nu:=([],Re.ofRat q)
theorem cd (a:Nu):aw (aw a)=a:=by
 obtain⟨u,x⟩:=a
 show (u,- -x)=(u,x)
 rw[show- -x=x by grind]
noncomputable def ae (p q:Vee):Vee:=(ar p.1 q.1,ar p.2 q.2)
noncomputable def dV (p q:Vee):Vee:=(cB p.1 q.1,cB p.2 q.2)
noncomputable def bK (p:Vee) (n:Nu):Vee:=(al p.1 n,al p.2 n)
noncomputable def bE (p:Vee):Vee:=(aw p.2,p.1)
noncomputable def aW (p q:Vee):Nu:=ar (al p.1 q.1) (al p.2 q.2)
noncomputable def ak (p q:Vee):Nu:=aW (bE p) q
noncomputable def bB (p q:Vee):Vee:=bK (ae p q) (qN (1/2))
noncomputable def qV (p q:Rat):Vee:=(qN p,qN q)
def au (p q:Vee):Prop:=p.1.2=q.1.2/\p.2.2=q.2.2
section
variable {TT:List (List Rat)->Prop} {R C m k j s:Nat} {L:Nat->Nat} {T T1 T2 T3 T4 T5 T6:List LR} {A A1 A2 A3 A4 A5 A6:LR} {a b n:Nu} {p q:Vee}
theorem Ctx.mono (F:Ctx TT R C L m) (f:k<=m):∀{j},j<=k->L j<=L k:=by
 intro j d
 induction k with
 | zero=>rw[show j=0 by omega];exact Nat.le_refl _
 | succ k c=>
  by_cases h:j=k+1
  ·rw[h];exact Nat.le_refl _
  have:=F.bV (k:=k) (by omega);exact Nat.le_trans (c (by omega) (by omega)) (by omega)
theorem Nvv.up (F:Ctx TT R C L m) (h:Nvv TT (L j) T A n) (c:j<=k) (d:k<=m):Nvv TT (L k) T A n:=⟨h.hu,h.hT,h.hA,h.hx.mono (F.mono d c)⟩
theorem Wvv.up (F:Ctx TT R C L m) (h:Wvv TT (L j) T1 A1 T2 A2 p) (c:j<=k) (d:k<=m):Wvv TT (L k) T1 A1 T2 A2 p:=⟨h.x.up F c d,h.y.up F c d⟩
theorem Nvv.ex (hu:TT n.1) (hx:El n.1 s n.2):∃T A,Nvv TT s T A n:=⟨_,_,hu,rfl,rfl,hx⟩
theorem Nvv.bg (F:Ctx TT R C L m) (i:k<=m) (d:Nvv TT (L k) T1 A1 a) (f:Nvv TT (L k) T2 A2 b):TT (Al a.1 b.1)/\El (Al a.1 b.1) (L k+C) a.2/\El (Al a.1 b.1) (L k+C) b.2:=by
 have G:=(F.J5 i).toGam;obtain⟨c,g,h⟩:=G.Al d.hu f.hu;exact⟨c,G.BA d.hu c g d.hx,G.BA f.hu c h f.hx⟩
theorem Nvv.add (F:Ctx TT R C L m) (d:k<m) (h:Nvv TT (L k) T1 A1 a) (i:Nvv TT (L k) T2 A2 b):∃T A,Nvv TT (L (k+1)) T A (ar a b):=by
 obtain⟨c,f,g⟩:=h.bg F (by omega) i;have l:=F.bV d;exact Nvv.ex c ((f.add ((F.J5 (Nat.le_of_lt d)).toGam.AN c).red g).mono (by omega))
theorem Nvv.mul (F:Ctx TT R C L m) (d:k<m) (h:Nvv TT (L k) T1 A1 a) (i:Nvv TT (L k) T2 A2 b):∃T A,Nvv TT (L (k+1)) T A (al a b):=by
 obtain⟨c,f,g⟩:=h.bg F (by omega) i;have l:=F.upm d c;exact Nvv.ex c ((f.mul ((F.J5 (Nat.le_of_lt d)).toGam.AN c) g).mono (by omega))
theorem Nvv.neg (F:Ctx TT R C L m) (d:k<=m) (c:Nvv TT (L k) T1 A1 a):∃A,Nvv TT (L k) T1 A (aw a):=⟨_,c.hu,c.hT,rfl,c.hx.neg ((F.J5 d).toGam.AN c.hu).red⟩
theorem Wvv.left (F:Ctx TT R C L m) (c:k<=m) (h:Wvv TT (L k) T1 A1 T2 A2 p):∃A,Wvv TT (L k) T2 A T1 A1 (bE p):=by
 obtain⟨A,hA⟩:=h.y.neg F c;exact⟨A,hA,h.x⟩
theorem Wvv.add (F:Ctx TT R C L m) (c:k<m) (d:Wvv TT (L k) T1 A1 T2 A2 p) (f:Wvv TT (L k) T3 A3 T4 A4 q):∃T A i g,Wvv TT (L (k+1)) T A i g (ae p q):=by
 obtain⟨_,_,h⟩:=d.x.add F c f.x;obtain⟨_,_,h'⟩:=d.y.add F c f.y;exact⟨_,_,_,_,h,h'⟩
theorem Wvv.scale (F:Ctx TT R C L m) (c:k<m) (f:Wvv TT (L k) T1 A1 T2 A2 p) (d:Nvv TT (L k) T3 A3 n):∃T A i g,Wvv TT (L (k+1)) T A i g (bK p n):=by
 obtain⟨_,_,h⟩:=f.x.mul F c d;obtain⟨_,_,h'⟩:=f.y.mul F c d;exact⟨_,_,_,_,h,h'⟩
theorem Wvv.dot (F:Ctx TT R C L m) (f:k+1<m) (c:Wvv TT (L k) T1 A1 T2 A2 p) (d:Wvv TT (L k) T3 A3 T4 A4 q):∃T A,Nvv TT (L (k+2)) T A (aW p q):=by
 obtain⟨_,_,h⟩:=c.x.mul F (by omega) d.x;obtain⟨_,_,h'⟩:=c.y.mul F (by omega) d.y;exact h.add F f h'
theorem Nvv.rat (F:Ctx TT R C L m) (c:k<=m) {q:Rat} (d:El [] (L k) (Re.ofRat q)):∃A,Nvv TT (L k) [] A (qN q):=⟨_,(F.J5 c).toGam.nil,rfl,rfl,d⟩
theorem Wvv.aj (F:Ctx TT R C L m) (c:k+1<m) (g:El [] (L (k+1)) (Re.ofRat (1/2))) (i:Wvv TT (L k) T1 A1 T2 A2 p) (l:Wvv TT (L k) T3 A3 T4 A4 q):∃T A f d,Wvv TT (L (k+2)) T A f d (bB p q):=by
 obtain⟨_,_,_,_,h⟩:=i.add F (by omega) l;obtain⟨_,h'⟩:=Nvv.rat F (Nat.le_of_lt c) g;exact h.scale F c h'
theorem bT (F:Ctx TT R C L m) (g:k<=m) (c:Nvv TT (L k) T1 A1 a) (d:Nvv TT (L k) T2 A2 b) (f:Nvv TT s T A (ar a b)):CF 70 [.agg [.sl (.sl AA) T1,.sl AA A1],.agg [.sl (.sl AA) T2,.sl AA A2]] (.AG [(true,[.sl (.sl AA) T,.sl AA A]),(false,[.int .i64 0])]):=LQ (F.J5 g).toGam c.hu d.hu c.hT d.hT c.hA d.hA c.hx d.hx f.hT f.hA
theorem bH (F:Ctx TT R C L m) (g:k<=m) (c:Nvv TT (L k) T1 A1 a) (d:Nvv TT (L k) T2 A2 b) (f:Nvv TT s T A (ar a b)):CF 45 [.agg [.sl (.sl AA) T1,.sl AA A1],.agg [.sl (.sl AA) T2,.sl AA A2]] (.AG [(true,[.sl (.sl AA) T,.sl AA A]),(false,[.int .i64 0])]):=OO (F.J5 g) c.hu d.hu c.hT d.hT c.hA d.hA c.hx d.hx f.hT f.hA
theorem bG (F:Ctx TT R C L m) (g:k<=m) (c:Nvv TT (L k) T1 A1 a) (d:Nvv TT (L k) T2 A2 b) (f:Nvv TT s T A (al a b)):CF 68 [.agg [.sl (.sl AA) T1,.sl AA A1],.agg [.sl (.sl AA) T2,.sl AA A2]] (.AG [(true,[.sl (.sl AA) T,.sl AA A]),(false,[.int .i64 0])]):=N7 (F.J5 g).toGam c.hu d.hu c.hT d.hT c.hA d.hA c.hx d.hx f.hT f.hA
theorem bI (F:Ctx TT R C L m) (g:k<=m) (c:Nvv TT (L k) T1 A1 a) (d:Nvv TT (L k) T2 A2 b) (f:Nvv TT s T A (al a b)):CF 16 [.agg [.sl (.sl AA) T1,.sl AA A1],.agg [.sl (.sl AA) T2,.sl AA A2]] (.AG [(true,[.sl (.sl AA) T,.sl AA A]),(false,[.int .i64 0])]):=JO (F.J5 g) c.hu d.hu c.hT d.hT c.hA d.hA c.hx d.hx f.hT f.hA
theorem bU (F:Ctx TT R C L m) (f:k<=m) (c:Nvv TT (L k) T1 A1 a) (d:Nvv TT s T1 A (aw a)):CF 111 [.agg [.sl (.sl AA) T1,.sl AA A1]] (.agg [.sl (.sl AA) T1,.sl AA A]):=aN (F.J5 f).toGam c.hu c.hT c.hA c.hx d.hA
theorem bY (F:Ctx TT R C L m) (f:k<=m) (c:Nvv TT (L k) T1 A1 a) (d:Nvv TT s T1 A (aw a)):CF 87 [.agg [.sl (.sl AA) T1,.sl AA A1]] (.agg [.sl (.sl AA) T1,.sl AA A]):=OQ (F.J5 f) c.hu c.hT c.hA c.hx d.hA
theorem bn (F:Ctx TT R C L m) (g:k<=m) (d:Nvv TT (L k) T1 A1 a) {c:Int} (f:c=Ao a.2):CF 118 [.agg [.sl (.sl AA) T1,.sl AA A1]] (.one (.int .i64 c)):=Tw (F.J5 g).toGam d.hu d.hT d.hA d.hx f
theorem cI (F:Ctx TT R C L m) (g:k<=m) (d:Nvv TT (L k) T1 A1 a) {c:Int} (f:c=Ao a.2):CF 18 [.agg [.sl (.sl AA) T1,.sl AA A1]] (.one (.int .i64 c)):=JP (F.J5 g) d.hu d.hT d.hA d.hx f
theorem bF (F:Ctx TT R C L m) (h:k<=m) (d:Nvv TT (L k) T1 A1 a) (f:Nvv TT (L k) T2 A2 b) {c:Bool} (g:c=true↔a.2=b.2):CF 73 [.agg [.sl (.sl AA) T1,.sl AA A1],.agg [.sl (.sl AA) T2,.sl AA A2]] (.one (.bool c)):=Tu (F.J5 h).toGam d.hu f.hu d.hT f.hT d.hA f.hA d.hx f.hx g
theorem ay (F:Ctx TT R C L m) (g:k<m) (d:Nvv TT (L k) T1 A1 a) (f:Nvv TT (L k) T2 A2 b) {c:Bool} (h:c=true↔a.2=b.2):CF 21 [.agg [.sl (.sl AA) T1,.sl AA A1],.agg [.sl (.sl AA) T2,.sl AA A2]] (.one (.bool c)):=Uf (F.J5 (Nat.le_of_lt g)) d.hu f.hu d.hT f.hT d.hA f.hA d.hx f.hx (F.J5 g) (F.bV g) h
theorem bO (F:Ctx TT R C L m) (d:k<=m) (c:Nvv TT (L k) T1 A1 a):CF 20 [.agg [.sl (.sl AA) T1,.sl AA A1]] (.one (.bool true)):=Uh (F.J5 d) c.hu c.hT c.hA c.hx
end
def Lvv:Nat->Nat
 | 0=>Rm
 | k+1=>2*(Lvv k+Cm)+6000000
theorem ah {V:List Re} {ns:List Nu} (d:V.length<=3) (h:∀n∈ns,BI V n):Ctx (Tf (PN ns)) Rm Cm Lvv 7:=by
 have key:∀k,k<=7->Rm<=Lvv k/\Lvv k<=Sm:=by
  intro k c;have:k=0\/k=1\/k=2\/k=3\/k=4\/k=5\/k=6\/k=7:=by omega
  rcases this with rfl | rfl | rfl | rfl | rfl | rfl | rfl | rfl <;> decide +kernel
 refine⟨fun {k} c=>EP d h (key k c).1 (key k c).2,fun {k} c=>?_,fun {k u} c hu=>?_⟩
 ·show _<=2*(Lvv k+Cm)+6000000
  omega
 have he:EE u.length Rm<=6000000:=by
  have f:u.length<=3:=Nat.le_trans (hu.len (PN.Dg d h) (fun g=>PN.A3 h g)) d;exact Nat.le_trans (Ft f (Nat.le_refl _)) (by decide +kernel)
 show _<=2*(Lvv k+Cm)+6000000
 omega
theorem bu {V:List Re} {ns:List Nu} (d:V.length<=3) (h:∀n∈ns,BI V n) {n:Nu} (c:n∈ns\/n=Gz):El n.1 (Lvv 0) n.2/\Tf (PN ns) n.1:=by
 rcases c with c | rfl
 ·exact⟨((h n c).el d).mono (by decide),C5 d h c⟩
 exact⟨(El.rat (u:=[]) trivial (q:=0) (Ee (a:=[0]) (fun q f=>by rw[List.mem_singleton.1 f];decide +kernel))).mono (by decide),(EP d h (Nat.le_refl Rm) (by decide)).toGam.nil⟩
theorem bP {g:FuncId} {T1 T2 T3 T4 T5 T6:List LR} {A1 A2 A3 A4 A5 A6:LR} (h:CF g [.agg [.sl (.sl AA) T1,.sl AA A1],.agg [.sl (.sl AA) T3,.sl AA A3]] (.AG [(true,[.sl (.sl AA) T5,.sl AA A5]),(false,[.int .i64 0])])) (i:CF g [.agg [.sl (.sl AA) T2,.sl AA A2],.agg [.sl (.sl AA) T4,.sl AA A4]] (.AG [(true,[.sl (.sl AA) T6,.sl AA A6]),(false,[.int .i64 0])])):CF 106 [.agg [.sl (.sl AA) T1,.sl AA A1,.sl (.sl AA) T2,.sl AA A2],.agg [.sl (.sl AA) T3,.sl AA A3,.sl (.sl AA) T4,.sl AA A4],.one (.fn g)] (.AG [(true,[.sl (.sl AA) T5,.sl AA A5,.sl (.sl AA) T6,.sl AA A6]),(false,[.int .i64 0])]):=by
 refine AE Tryz.func106 (by kernel_rfl) rfl fun E f=>?_
 conv=>cbv
 refine cL f h ⟨t2,t2,trivial⟩ ?_;try conv=>cbv
 intro l c;cases c.trans (show _=false by decide);conv=>cbv
 refine cL f i ⟨t2,t2,trivial⟩ ?_;try conv=>cbv
 intro o d;cases d.trans (show _=false by decide);conv=>cbv
 exact fA ⟨⟨rfl,rfl,rfl,rfl,rfl,trivial⟩,t2,trivial⟩ rfl (by simp)
theorem cD {TT:List (List Rat)->Prop} {R C m k s:Nat} {L:Nat->Nat} (F:Ctx TT R C L m) {T1 T2 T3 T4 T5 T6:List LR} {A1 A2 A3 A4 A5 A6:LR} {p q:Vee} (c:k<=m) (d:Wvv TT (L k) T1 A1 T2 A2 p) (f:Wvv TT (L k) T3 A3 T4 A4 q) (g:Wvv TT s T5 A5 T6 A6 (ae p q)):CF 44 [.agg [.sl (.sl AA) T1,.sl AA A1,.sl (.sl AA) T2,.sl AA A2],.agg [.sl (.sl AA) T3,.sl AA A3,.sl (.sl AA) T4,.sl AA A4]] (.AG [(true,[.sl (.sl AA) T5,.sl AA A5,.sl (.sl AA) T6,.sl AA A6]),(false,[.int .i64 0])]):=by
 refine AE Tryz.func44 (by kernel_rfl) rfl fun E h=>?_
 conv=>cbv
 refine cL h (bP (bT F c d.x f.x g.x) (bT F c d.y f.y g.y)) ⟨t4,t4,rfl,trivial⟩ ?_;try conv=>cbv
 exact fA ⟨⟨rfl,rfl,rfl,rfl,rfl,trivial⟩,t2,trivial⟩ rfl (by simp)
theorem cp {TT:List (List Rat)->Prop} {R C m k s:Nat} {L:Nat->Nat} (F:Ctx TT R C L m) {T1 T2 T3 T5 T6:List LR} {A1 A2 A3 A5 A6:LR} {p:Vee} {n:Nu} (c:k<=m) (f:Wvv TT (L k) T1 A1 T2 A2 p) (d:Nvv TT (L k) T3 A3 n) (g:Wvv TT s T5 A5 T6 A6 (bK p n)):CF 51 [.agg [.sl (.sl AA) T1,.sl AA A1,.sl (.sl AA) T2,.sl AA A2],.agg [.sl (.sl AA) T3,.sl AA A3]] (.AG [(true,[.sl (.sl AA) T5,.sl AA A5,.sl (.sl AA) T6,.sl AA A6]),(false,[.int .i64 0])]):=by
 refine AE Tryz.func51 (by kernel_rfl) rfl fun E h=>?_
 conv=>cbv
 refine cL h (bP (bG F c f.x d g.x) (bG F c f.y d g.y)) ⟨t4,t4,rfl,trivial⟩ ?_;try conv=>cbv
 exact fA ⟨⟨rfl,rfl,rfl,rfl,rfl,trivial⟩,t2,trivial⟩ rfl (by simp)
theorem cq {TT:List (List Rat)->Prop} {R C m k:Nat} {L:Nat->Nat} (F:Ctx TT R C L m) {T1:List LR} {A1:LR} {n:Nu} (c:k<=m) (d:Nvv TT (L k) T1 A1 n):CF 112 [.agg [.sl (.sl AA) T1,.sl AA A1]] (.agg [.sl (.sl AA) T1,.sl AA A1]):=by
 refine AE Tryz.func112 (by kernel_rfl) rfl fun E g=>?_
 conv=>cbv
 obtain⟨A4,f⟩:=d.neg F c;refine cL g (bU F c d f) ⟨t2,trivial⟩ ?_;try conv=>cbv
 refine cL (r:= .agg [.sl (.sl AA) T1,.sl AA A1]) g (bU F c f (by rw[cd];exact d)) ⟨t2,trivial⟩ ?_;try conv=>cbv
 exact fA ⟨t3,trivial⟩ rfl (by simp)
theorem bW {TT:List (List Rat)->Prop} {R C m k s:Nat} {L:Nat->Nat} (F:Ctx TT R C L m) {T1 T2:List LR} {A1 A2:LR} {p:Vee} {A5:LR} (d:k<=m) (f:Wvv TT (L k) T1 A1 T2 A2 p) (g:Wvv TT s T2 A5 T1 A1 (bE p)):CF 43 [.agg [.sl (.sl AA) T1,.sl AA A1,.sl (.sl AA) T2,.sl AA A2]] (.agg [.sl (.sl AA) T2,.sl AA A5,.sl (.sl AA) T1,.sl AA A1]):=by
 refine AE Tryz.func43 (by kernel_rfl) rfl fun E c=>?_
 conv=>cbv
 refine cL c (bU F d f.y g.x) ⟨t2,trivial⟩ ?_;try conv=>cbv
 refine cL c (cq F d f.x) ⟨t2,trivial⟩ ?_;try conv=>cbv
 refine⟨fun _=>by kernel_rfl,?_⟩;exact fA ⟨⟨rfl,rfl,rfl,rfl,rfl,trivial⟩,trivial⟩ rfl (by simp)
theorem ax {TT:List (List Rat)->Prop} {R C m k s:Nat} {L:Nat->Nat} (F:Ctx TT R C L m) {T1 T2 T3 T4:List LR} {A1 A2 A3 A4:LR} {T:List LR} {A:LR} {p q:Vee} (c:k<m) (d:Wvv TT (L k) T1 A1 T2 A2 p) (f:Wvv TT (L k) T3 A3 T4 A4 q) (o:Nvv TT s T A (aW p q)):CF 32 [.agg [.sl (.sl AA) T1,.sl AA A1,.sl (.sl AA) T2,.sl AA A2],.agg [.sl (.sl AA) T3,.sl AA A3,.sl (.sl AA) T4,.sl AA A4]] (.AG [(true,[.sl (.sl AA) T,.sl AA A]),(false,[.int .i64 0])]):=by
 refine AE Tryz.func32 (by kernel_rfl) rfl fun E l=>?_
 conv=>cbv
 obtain⟨T5,A5,h⟩:=d.x.mul F c f.x;obtain⟨T6,A6,i⟩:=d.y.mul F c f.y;refine cL l (bP (bG F (Nat.le_of_lt c) d.x f.x h) (bG F (Nat.le_of_lt c) d.y f.y i)) ⟨t4,t4,rfl,trivial⟩ ?_;try conv=>cbv
 intro r g;cases g.trans (show _=false by decide);conv=>cbv
 refine cL l (bT F c h i o) ⟨t2,t2,trivial⟩ ?_;try conv=>cbv
 exact fA ⟨t3,t2,trivial⟩ rfl (by simp)
theorem bC {TT:List (List Rat)->Prop} {R C m k s:Nat} {L:Nat->Nat} (F:Ctx TT R C L m) {T1 T2 T3 T4:List LR} {A1 A2 A3 A4:LR} {T:List LR} {A:LR} {p q:Vee} (c:k<m) (g:Wvv TT (L k) T1 A1 T2 A2 p) (h:Wvv TT (L k) T3 A3 T4 A4 q) (i:Nvv TT s T A (ak p q)):CF 37 [.agg [.sl (.sl AA) T1,.sl AA A1,.sl (.sl AA) T2,.sl AA A2],.agg [.sl (.sl AA) T3,.sl AA A3,.sl (.sl AA) T4,.sl AA A4]] (.AG [(true,[.sl (.sl AA) T,.sl AA A]),(false,[.int .i64 0])]):=by
 refine AE Tryz.func37 (by kernel_rfl) rfl fun E f=>?_
 conv=>cbv
 obtain⟨A5,d⟩:=g.left F (Nat.le_of_lt c);refine cL f (bW F (Nat.le_of_lt c) g d) ⟨t4,trivial⟩ ?_;try conv=>cbv
 refine cL f (ax F c d h i) ⟨t4,t4,trivial⟩ ?_;try conv=>cbv
 refine⟨fun _=>by kernel_rfl,?_⟩;exact fA ⟨t3,t2,trivial⟩ rfl (by simp)
theorem bM {TT:List (List Rat)->Prop} {R C m k s:Nat} {L:Nat->Nat} (F:Ctx TT R C L m) {T1 T2:List LR} {A1 A2:LR} {T:List LR} {A:LR} {p:Vee} (f:k<m) (c:Wvv TT (L k) T1 A1 T2 A2 p) (g:Nvv TT s T A (aW p p)):CF 34 [.agg [.sl (.sl AA) T1,.sl AA A1,.sl (.sl AA) T2,.sl AA A2]] (.AG [(true,[.sl (.sl AA) T,.sl AA A]),(false,[.int .i64 0])]):=by
 refine AE Tryz.func34 (by kernel_rfl) rfl fun E d=>?_
 conv=>cbv
 refine cL d (ax F f c c g) ⟨t4,t4,trivial⟩ ?_;try conv=>cbv
 exact fA ⟨t3,t2,trivial⟩ rfl (by simp)
theorem cE {TT:List (List Rat)->Prop} {R C m k:Nat} {L:Nat->Nat} (F:Ctx TT R C L m) {T1 T2:List LR} {A1 A2:LR} {T:List LR} {A:LR} {p:Vee} (i:k<m) (l:Wvv TT (L k) T1 A1 T2 A2 p) {u:Nat} {f:List LR} {d:LR} (h:Nvv TT u f d (aW p p)) (o:CF 17 [.agg [.sl (.sl AA) f,.sl AA d]] (.AG [(true,[.sl (.sl AA) T,.sl AA A]),(false,[.int .i64 0])])):CF 39 [.agg [.sl (.sl AA) T1,.sl AA A1,.sl (.sl AA) T2,.sl AA A2]] (.AG [(true,[.sl (.sl AA) T,.sl AA A]),(false,[.int .i64 0])]):=by
 refine AE Tryz.func39 (by kernel_rfl) rfl fun E g=>?_
 conv=>cbv
 refine cL g (bM F i l h) ⟨t4,trivial⟩ ?_;try conv=>cbv
 intro r c;cases c.trans (show _=false by decide);conv=>cbv
 refine cL g o ⟨t2,trivial⟩ ?_;try conv=>cbv
 exact fA ⟨t3,t2,trivial⟩ rfl (by simp)
theorem cF {TT:List (List Rat)->Prop} {R C m k:Nat} {L:Nat->Nat} (F:Ctx TT R C L m) {T1 T2:List LR} {A1 A2:LR} {T:List LR} {A:LR} {p:Vee} (l:k<m) (d:Wvv TT (L k) T1 A1 T2 A2 p) (i:k+2<=m) (hw:TT (Aa (aW p p).1 (aW p p).2)) (h:0<=(aW p p).2) {s2:Nat} (f:Nvv TT s2 T A (Aa (aW p p).1 (aW p p).2,Re.sqrt (aW p p).2)) (g:s2<=60000000000000):CF 39 [.agg [.sl (.sl AA) T1,.sl AA A1,.sl (.sl AA) T2,.sl AA A2]] (.AG [(true,[.sl (.sl AA) T,.sl AA A]),(false,[.int .i64 0])]):=by
 obtain⟨r,o,c⟩:=d.dot F (by omega) d;exact cE F l d c (LU (F.J5 i).toGam c.hu c.hT c.hA c.hx hw h f.hT f.hA f.hx g)
theorem bX {TT:List (List Rat)->Prop} {R C m k s:Nat} {L:Nat->Nat} (F:Ctx TT R C L m) {T1 T2 T3 T4 T5 T6:List LR} {A1 A2 A3 A4 A5 A6:LR} {p q:Vee} (f:k<m) (c:El [] (L (k+1)) (Re.ofRat (1/2))) (o:Wvv TT (L k) T1 A1 T2 A2 p) (r:Wvv TT (L k) T3 A3 T4 A4 q) (v:Wvv TT s T5 A5 T6 A6 (bB p q)):CF 40 [.agg [.sl (.sl AA) T1,.sl AA A1,.sl (.sl AA) T2,.sl AA A2],.agg [.sl (.sl AA) T3,.sl AA A3,.sl (.sl AA) T4,.sl AA A4]] (.AG [(true,[.sl (.sl AA) T5,.sl AA A5,.sl (.sl AA) T6,.sl AA A6]),(false,[.int .i64 0])]):=by
 obtain⟨B,G,D,H,l⟩:=A9 (1/2:Rat);have u:(1/2:Rat)=Rat.divInt 1 2:=by decide +kernel
 obtain⟨x,h⟩:∃A,Nvv TT (L (k+1)) [] A (qN (1/2)):=Nvv.rat F f c
 refine AE Tryz.func40 (by kernel_rfl) rfl fun E d=>?_
 conv=>cbv
 obtain⟨z,y,T9,A9,i⟩:=o.add F f r;refine cL d (cD F (Nat.le_of_lt f) o r i) ⟨t4,t4,trivial⟩ ?_;try conv=>cbv
 intro w g;cases g.trans (show _=false by decide);conv=>cbv
 refine cL d (Tm (by decide) (by decide) (by decide) u l) t2 ?_;try conv=>cbv
 refine cL d (LS l (Fp (by decide +kernel:Bf (1/2:Rat))) h.hA) ⟨t4,trivial⟩ ?_;try conv=>cbv
 refine cL d (cp F f i h v) ⟨t4,t2,trivial⟩ ?_;try conv=>cbv
 refine⟨fun _=>by kernel_rfl,?_⟩;exact fA ⟨⟨rfl,rfl,rfl,rfl,rfl,trivial⟩,t2,trivial⟩ rfl (by simp)
theorem bL {TT:List (List Rat)->Prop} {R C m k:Nat} {L:Nat->Nat} (F:Ctx TT R C L m) {T1 T2 T3 T4:List LR} {A1 A2 A3 A4:LR} {p q:Vee} {c:Bool} (l:k<=m) (o:Wvv TT (L k) T1 A1 T2 A2 p) (r:Wvv TT (L k) T3 A3 T4 A4 q) (i:c=true↔au p q):CF 57 [.agg [.sl (.sl AA) T1,.sl AA A1,.sl (.sl AA) T2,.sl AA A2],.agg [.sl (.sl AA) T3,.sl AA A3,.sl (.sl AA) T4,.sl AA A4]] (.one (.bool c)):=by
 refine AE Tryz.func57 (by kernel_rfl) rfl fun E g=>?_
 conv=>cbv
 obtain⟨v,f⟩:=CZ (p.1.2=q.1.2);refine cL g (bF F l o.x r.x f) ⟨t2,t2,trivial⟩ ?_;try conv=>cbv
 cases v <;> conv=>cbv
 ·exact fA ⟨⟨rfl,congrArg _ (by cases c with | false=>rfl | true=>exact absurd (f.2 (i.1 rfl).1) (by simp)),trivial⟩,trivial⟩ rfl (by simp)
 obtain⟨u,d⟩:=CZ (p.2.2=q.2.2);refine cL g (bF F l o.y r.y d) ⟨t2,t2,trivial⟩ ?_;try conv=>cbv
 exact fA ⟨⟨rfl,congrArg _ (by rw[Bool.eq_iff_iff,d,i];exact⟨fun h=>h.2,fun h=>⟨f.1 rfl,h⟩⟩),trivial⟩,trivial⟩ rfl (by simp)
theorem cn {f g:Rat} {b1 c1 b2 c2:Bool} {l1 m1 l2 m2:List UInt32} (i:Aq f b1 l1 c1 m1) (l:Aq g b2 l2 c2 m2) (s1:BF f) (s2:BF g) {A1 A2:LR} (c:A1=em [] (Re.ofRat f)) (d:A2=em [] (Re.ofRat g)):CF 54 [.agg [.bool b1,.sl .u32 l1,.bool c1,.sl .u32 m1],.agg [.bool b2,.sl .u32 l2,.bool c2,.sl .u32 m2]] (.agg [.sl (.sl AA) (([]:List LR)),.sl AA A1,.sl (.sl AA) (([]:List LR)),.sl AA A2]):=by
 refine AE Tryz.func54 (by kernel_rfl) rfl fun E h=>?_
 conv=>cbv
 refine cL h (LS i s1 c) ⟨t4,trivial⟩ ?_;try conv=>cbv
 refine cL h (LS l s2 d) ⟨t4,trivial⟩ ?_;try conv=>cbv
 refine⟨fun _=>by kernel_rfl,?_⟩;exact fA ⟨⟨rfl,rfl,rfl,rfl,rfl,trivial⟩,trivial⟩ rfl (by simp)
theorem cr {g h:Rat} {b1 c1 b2 c2:Bool} {l1 m1 l2 m2:List UInt32} (i:Aq g b1 l1 c1 m1) (l:Aq h b2 l2 c2 m2) {A1 A2:LR} (c:A1=em [] (Re.ofRat g)) (d:A2=em [] (Re.ofRat h)):CF 55 [.agg [.bool b1,.sl .u32 l1,.bool c1,.sl .u32 m1],.agg [.bool b2,.sl .u32 l2,.bool c2,.sl .u32 m2]] (.agg [.sl (.sl AA) (([]:List LR)),.sl AA A1,.sl (.sl AA) (([]:List LR)),.sl AA A2]):=by
 refine AE Tryz.func55 (by kernel_rfl) rfl fun E f=>?_
 conv=>cbv
 refine cL f (Ug i c) ⟨t4,trivial⟩ ?_;try conv=>cbv
 refine cL f (Ug l d) ⟨t4,trivial⟩ ?_;try conv=>cbv
 refine⟨fun _=>by kernel_rfl,?_⟩;exact fA ⟨⟨rfl,rfl,rfl,rfl,rfl,trivial⟩,trivial⟩ rfl (by simp)
theorem az {x y:Int} {A1 A2:LR} (hx: -9223372036854775808<=x/\x<9223372036854775808) (i: -9223372036854775808<=y/\y<9223372036854775808) (c:A1=em [] (Re.ofRat x)) (d:A2=em [] (Re.ofRat y)):CF 105 [.one (.int .i64 x),.one (.int .i64 y)] (.agg [.sl (.sl AA) (([]:List LR)),.sl AA A1,.sl (.sl AA) (([]:List LR)),.sl AA A2]):=by
 refine AE Tryz.func105 (by kernel_rfl) rfl fun E f=>?_
 conv=>cbv
 obtain⟨b1,l1,c1,m1,g⟩:=A9 (x:Rat);refine cL f (Dp hx rfl g) t1 ?_;try conv=>cbv
 obtain⟨b2,l2,c2,m2,h⟩:=A9 (y:Rat);refine cL f (Dp i rfl h) t1 ?_;try conv=>cbv
 refine cL f (cr g h c d) ⟨t4,t4,trivial⟩ ?_;try conv=>cbv
 exact fA ⟨⟨rfl,rfl,rfl,rfl,rfl,trivial⟩,trivial⟩ rfl (by simp)
theorem cJ:CF 107 [.one (.int .i64 0),.one (.int .i64 0)] (.one (.int .i64 0)):=by
 refine AE Tryz.func107 (by kernel_rfl) rfl fun E d=>?_
 conv=>cbv
 intro f c;cases c.trans (show _=false by decide);conv=>cbv
 exact fA ⟨t2,trivial⟩ rfl (by simp)
theorem cK {T1 T2:List LR} {A1 A2:LR}:CF 114 [.agg [.sl (.sl AA) T1,.sl AA A1],.agg [.sl (.sl AA) T2,.sl AA A2],.one (.int .i64 0)] (.AG [(true,[.sl (.sl AA) T1,.sl AA A1,.sl (.sl AA) T2,.sl AA A2]),(false,[.int .i64 0])]):=by
 refine AE Tryz.func114 (by kernel_rfl) rfl fun E d=>?_
 conv=>cbv
 intro f c;cases c.trans (show _=false by decide);conv=>cbv
 exact fA ⟨⟨rfl,rfl,rfl,rfl,rfl,trivial⟩,t2,trivial⟩ rfl (by simp)
theorem cM {TT:List (List Rat)->Prop} {R C m k s:Nat} {L:Nat->Nat} (F:Ctx TT R C L m) {T1 T2 T3 T4 T5 T6:List LR} {A1 A2 A3 A4 A5 A6:LR} {p q:Vee} (d:k<=m) (f:Wvv TT (L k) T1 A1 T2 A2 p) (g:Wvv TT (L k) T3 A3 T4 A4 q) (h:Wvv TT s T5 A5 T6 A6 (ae p q)):CF 48 [.agg [.sl (.sl AA) T1,.sl AA A1,.sl (.sl AA) T2,.sl AA A2],.agg [.sl (.sl AA) T3,.sl AA A3,.sl (.sl AA) T4,.sl AA A4]] (.AG [(true,[.sl (.sl AA) T5,.sl AA A5,.sl (.sl AA) T6,.sl AA A6]),(false,[.int .i64 0])]):=by
 refine AE Tryz.func48 (by kernel_rfl) rfl fun E c=>?_
 conv=>cbv
 refine cL c (bH F d f.x g.x h.x) ⟨t2,t2,trivial⟩ ?_;try conv=>cbv
 refine cL c (bH F d f.y g.y h.y) ⟨t2,t2,trivial⟩ ?_;try conv=>cbv
 refine cL c cJ t2 ?_;try conv=>cbv
 refine cL c cK ⟨t2,t2,rfl,trivial⟩ ?_;try conv=>cbv
 refine⟨fun _=>by kernel_rfl,?_⟩;exact fA ⟨⟨rfl,rfl,rfl,rfl,rfl,trivial⟩,t2,trivial⟩ rfl (by simp)
theorem c8 {TT:List (List Rat)->Prop} {R C m k s:Nat} {L:Nat->Nat} (F:Ctx TT R C L m) {T1 T2 T3 T5 T6:List LR} {A1 A2 A3 A5 A6:LR} {p:Vee} {n:Nu} (d:k<=m) (g:Wvv TT (L k) T1 A1 T2 A2 p) (f:Nvv TT (L k) T3 A3 n) (h:Wvv TT s T5 A5 T6 A6 (bK p n)):CF 52 [.agg [.sl (.sl AA) T1,.sl AA A1,.sl (.sl AA) T2,.sl AA A2],.agg [.sl (.sl AA) T3,.sl AA A3]] (.AG [(true,[.sl (.sl AA) T5,.sl AA A5,.sl (.sl AA) T6,.sl AA A6]),(false,[.int .i64 0])]):=by
 refine AE Tryz.func52 (by kernel_rfl) rfl fun E c=>?_
 conv=>cbv
 refine cL c (bI F d g.x f h.x) ⟨t2,t2,trivial⟩ ?_;try conv=>cbv
 refine cL c (bI F d g.y f h.y) ⟨t2,t2,trivial⟩ ?_;try conv=>cbv
 refine cL c cJ t2 ?_;try conv=>cbv
 refine cL c cK ⟨t2,t2,rfl,trivial⟩ ?_;try conv=>cbv
 refine⟨fun _=>by kernel_rfl,?_⟩;exact fA ⟨⟨rfl,rfl,rfl,rfl,rfl,trivial⟩,t2,trivial⟩ rfl (by simp)
theorem cw {TT:List (List Rat)->Prop} {R C m k s:Nat} {L:Nat->Nat} (F:Ctx TT R C L m) {T1 T2:List LR} {A1 A2:LR} {p:Vee} {A5:LR} (d:k<=m) (f:Wvv TT (L k) T1 A1 T2 A2 p) (g:Wvv TT s T2 A5 T1 A1 (bE p)):CF 53 [.agg [.sl (.sl AA) T1,.sl AA A1,.sl (.sl AA) T2,.sl AA A2]] (.agg [.sl (.sl AA) T2,.sl AA A5,.sl (.sl AA) T1,.sl AA A1]):=by
 refine AE Tryz.func53 (by kernel_rfl) rfl fun E c=>?_
 conv=>cbv
 refine cL c (bY F d f.y g.x) ⟨t2,trivial⟩ ?_;try conv=>cbv
 refine⟨fun _=>by kernel_rfl,?_⟩;exact fA ⟨⟨rfl,rfl,rfl,rfl,rfl,trivial⟩,trivial⟩ rfl (by simp)
theorem bZ {TT:List (List Rat)->Prop} {R C m k s:Nat} {L:Nat->Nat} (F:Ctx TT R C L m) {T1 T2 T3 T4:List LR} {A1 A2 A3 A4:LR} {T:List LR} {A:LR} {p q:Vee} (c:k<m) (d:Wvv TT (L k) T1 A1 T2 A2 p) (f:Wvv TT (L k) T3 A3 T4 A4 q) (r:Nvv TT s T A (aW p q)):CF 33 [.agg [.sl (.sl AA) T1,.sl AA A1,.sl (.sl AA) T2,.sl AA A2],.agg [.sl (.sl AA) T3,.sl AA A3,.sl (.sl AA) T4,.sl AA A4]] (.AG [(true,[.sl (.sl AA) T,.sl AA A]),(false,[.int .i64 0])]):=by
 refine AE Tryz.func33 (by kernel_rfl) rfl fun E i=>?_
 conv=>cbv
 obtain⟨T5,A5,l⟩:=d.x.mul F c f.x;refine cL i (bI F (Nat.le_of_lt c) d.x f.x l) ⟨t2,t2,trivial⟩ ?_;try conv=>cbv
 obtain⟨T6,A6,o⟩:=d.y.mul F c f.y;refine cL i (bI F (Nat.le_of_lt c) d.y f.y o) ⟨t2,t2,trivial⟩ ?_;try conv=>cbv
 intro u g;cases g.trans (show _=false by decide);conv=>cbv
 intro v h;cases h.trans (show _=false by decide);conv=>cbv
 refine cL i (bH F c l o r) ⟨t2,t2,trivial⟩ ?_;try conv=>cbv
 exact fA ⟨t3,t2,trivial⟩ rfl (by simp)
theorem ct {TT:List (List Rat)->Prop} {R C m k s:Nat} {L:Nat->Nat} (F:Ctx TT R C L m) {T1 T2 T3 T4:List LR} {A1 A2 A3 A4:LR} {T:List LR} {A:LR} {p q:Vee} (c:k<m) (g:Wvv TT (L k) T1 A1 T2 A2 p) (h:Wvv TT (L k) T3 A3 T4 A4 q) (i:Nvv TT s T A (ak p q)):CF 38 [.agg [.sl (.sl AA) T1,.sl AA A1,.sl (.sl AA) T2,.sl AA A2],.agg [.sl (.sl AA) T3,.sl AA A3,.sl (.sl AA) T4,.sl AA A4]] (.AG [(true,[.sl (.sl AA) T,.sl AA A]),(false,[.int .i64 0])]):=by
 refine AE Tryz.func38 (by kernel_rfl) rfl fun E f=>?_
 conv=>cbv
 obtain⟨A5,d⟩:=g.left F (Nat.le_of_lt c);refine cL f (cw F (Nat.le_of_lt c) g d) ⟨t4,trivial⟩ ?_;try conv=>cbv
 refine cL f (bZ F c d h i) ⟨t4,t4,trivial⟩ ?_;try conv=>cbv
 refine⟨fun _=>by kernel_rfl,?_⟩;exact fA ⟨t3,t2,trivial⟩ rfl (by simp)
theorem ba {TT:List (List Rat)->Prop} {R C m k s:Nat} {L:Nat->Nat} (F:Ctx TT R C L m) {T1 T2:List LR} {A1 A2:LR} {T:List LR} {A:LR} {p:Vee} (f:k<m) (c:Wvv TT (L k) T1 A1 T2 A2 p) (g:Nvv TT s T A (aW p p)):CF 35 [.agg [.sl (.sl AA) T1,.sl AA A1,.sl (.sl AA) T2,.sl AA A2]] (.AG [(true,[.sl (.sl AA) T,.sl AA A]),(false,[.int .i64 0])]):=by
 refine AE Tryz.func35 (by kernel_rfl) rfl fun E d=>?_
 conv=>cbv
 refine cL d (bZ F f c c g) ⟨t4,t4,trivial⟩ ?_;try conv=>cbv
 exact fA ⟨t3,t2,trivial⟩ rfl (by simp)
theorem cy {TT:List (List Rat)->Prop} {R C m k s:Nat} {L:Nat->Nat} (F:Ctx TT R C L m) {T1 T2 T3 T4 T5 T6:List LR} {A1 A2 A3 A4 A5 A6:LR} {p q:Vee} (d:k<m) (c:El [] (L (k+1)) (Re.ofRat (1/2))) (l:Wvv TT (L k) T1 A1 T2 A2 p) (o:Wvv TT (L k) T3 A3 T4 A4 q) (u:Wvv TT s T5 A5 T6 A6 (bB p q)):CF 41 [.agg [.sl (.sl AA) T1,.sl AA A1,.sl (.sl AA) T2,.sl AA A2],.agg [.sl (.sl AA) T3,.sl AA A3,.sl (.sl AA) T4,.sl AA A4]] (.AG [(true,[.sl (.sl AA) T5,.sl AA A5,.sl (.sl AA) T6,.sl AA A6]),(false,[.int .i64 0])]):=by
 obtain⟨z,D,B,G,H⟩:=A9 (1/2:Rat);have r:(1/2:Rat)=Rat.divInt 1 2:=by decide +kernel
 obtain⟨w,h⟩:∃A,Nvv TT (L (k+1)) [] A (qN (1/2)):=Nvv.rat F d c
 refine AE Tryz.func41 (by kernel_rfl) rfl fun E g=>?_
 conv=>cbv
 obtain⟨y,x,T9,A9,i⟩:=l.add F d o;refine cL g (cM F (Nat.le_of_lt d) l o i) ⟨t4,t4,trivial⟩ ?_;try conv=>cbv
 intro v f;cases f.trans (show _=false by decide);conv=>cbv
 refine cL g (OP (by decide) (by decide) (by decide) r h.hA) t2 ?_;try conv=>cbv
 refine cL g (c8 F d i h u) ⟨t4,t2,trivial⟩ ?_;try conv=>cbv
 refine⟨fun _=>by kernel_rfl,?_⟩;exact fA ⟨⟨rfl,rfl,rfl,rfl,rfl,trivial⟩,t2,trivial⟩ rfl (by simp)
theorem dD {TT:List (List Rat)->Prop} {R C m k:Nat} {L:Nat->Nat} (F:Ctx TT R C L m) {T1 T2:List LR} {A1 A2:LR} {p:Vee} (d:k<=m) (f:Wvv TT (L k) T1 A1 T2 A2 p):CF 109 [.agg [.sl (.sl AA) T1,.sl AA A1,.sl (.sl AA) T2,.sl AA A2]] (.one (.bool true)):=by
 refine AE Tryz.func109 (by kernel_rfl) rfl fun E c=>?_
 conv=>cbv
 refine cL c (bO F d f.x) ⟨t2,trivial⟩ ?_;try conv=>cbv
 refine cL c (bO F d f.y) ⟨t2,trivial⟩ ?_;try conv=>cbv
 exact fA ⟨t2,trivial⟩ rfl (by simp)
theorem cu {TT:List (List Rat)->Prop} {R C m k:Nat} {L:Nat->Nat} (F:Ctx TT R C L m) {T1 T2 T3 T4:List LR} {A1 A2 A3 A4:LR} {p q:Vee} {c:Bool} (l:k<m) (o:Wvv TT (L k) T1 A1 T2 A2 p) (r:Wvv TT (L k) T3 A3 T4 A4 q) (i:c=true↔au p q):CF 110 [.agg [.sl (.sl AA) T1,.sl AA A1,.sl (.sl AA) T2,.sl AA A2],.agg [.sl (.sl AA) T3,.sl AA A3,.sl (.sl AA) T4,.sl AA A4]] (.one (.bool c)):=by
 refine AE Tryz.func110 (by kernel_rfl) rfl fun E g=>?_
 conv=>cbv
 obtain⟨v,f⟩:=CZ (p.1.2=q.1.2);refine cL g (ay F l o.x r.x f) ⟨t2,t2,trivial⟩ ?_;try conv=>cbv
 cases v <;> conv=>cbv
 ·exact fA ⟨⟨rfl,congrArg _ (by cases c with | false=>rfl | true=>exact absurd (f.2 (i.1 rfl).1) (by simp)),trivial⟩,trivial⟩ rfl (by simp)
 obtain⟨u,d⟩:=CZ (p.2.2=q.2.2);refine cL g (ay F l o.y r.y d) ⟨t2,t2,trivial⟩ ?_;try conv=>cbv
 exact fA ⟨⟨rfl,congrArg _ (by rw[Bool.eq_iff_iff,d,i];exact⟨fun h=>h.2,fun h=>⟨f.1 rfl,h⟩⟩),trivial⟩,trivial⟩ rfl (by simp)
end Go.Abs
namespace Go.Abs
open Go.RowKit
variable {ns:List Nu} {t:List (List Rat)}
theorem ck (X:List (el Bl)):(runN (X.take 24)).1.length<=24:=by
 have:=SN (X.take 24) ([],0);have c:(X.take 24).length<=24:=by rw[List.length_take];omega
 show ((X.take 24).foldl Fs ([],0)).1.length<=24
 rw[this];simpa using c
theorem cC:∀{u:List (List Rat)} {k:Nat} {x:LR},(tw u)[k]? =some x->∃r c,r::c<:+u/\c.length=k/\x=AW r/\(tw u).take k=tw c
 | [],k,x,h=>by simp[tw] at h
 | r::u,k,x,h=>by
  have v:=Au u;have o:=GA h;rw[Au,List.length_cons] at o
  by_cases e:k<u.length
  ·rw[I9,List.getElem?_append_left (by omega)] at h;obtain⟨w,c,f,g,i,l⟩:=cC h;exact⟨w,c,f.trans (List.suffix_cons r u),g,i,by rw[I9,List.take_append_of_le_length (by omega)];exact l⟩
  have d:k=u.length:=by omega
  subst d;rw[I9,List.getElem?_append_right (by omega),show u.length-(tw u).length=0 by omega] at h;exact⟨r,u,List.suffix_refl _,rfl,(Option.some.inj h).symm,by rw[I9,<-v,List.take_left]⟩
theorem get_join {O:List (el AZ)} {i:Nat} {x:el AZ} (d:O=ns.map (fun n=>nm (t,n.2))) (hx:O[i]? =some x):∃n,ns[i]? =some n/\x.1=tw t/\x.2=em t n.2:=by
 rw[d,List.getElem?_map] at hx;cases c:ns[i]? with
 | none=>rw[c] at hx;simp at hx
 | some n=>
  rw[c] at hx;have e:nm (t,n.2)=x:=Option.some.inj hx;exact⟨n,rfl,by rw[<-e];rfl,by rw[<-e];rfl⟩
theorem cj {R:Nat} {u:List (List Rat)} {r:List Rat} (h:AU R t) (d:r::u<:+t):AU R u/\In u (AI u r)/\El u R (AI u r)/\AW r=em u (AI u r):=by
 have c:=Fj d h.red;have e:=EM c;refine⟨⟨c.1,fun q g=>h.tb q (d.subset (List.mem_cons_of_mem _ g)),h.hR,?_⟩,Bg c,⟨Bg c,by rw[e];exact h.tb r (d.subset List.mem_cons_self)⟩,by rw[em,e]⟩;have f:=d.length_le;have i:=h.ht;rw[List.length_cons] at f;omega
theorem dE {X:List (el Bl)} (aA:ns=(runN (X.take 24)).1) {V:List Re} (P:V.length<=3) (B:∀n∈ns,BI V n) {n:Int} {w:UInt8} (hn:LY n w):CF 4 [.one (.sl Bl X),.one (.int .u8 n)] (.one (.bool true)):=by
 have en:=hn.eq;have aX:=ck X;rw[<-aA] at aX;have b1:=w.toNat_lt;have F:=ah P B;have G1:=EP P B (S:=Rm) (by decide) (by decide);obtain⟨ad,v⟩:∃z:List (el AZ),z=ns.map nm:=⟨_,rfl⟩
 have bg:ad.length=ns.length:=by rw[v,List.length_map]
 refine AE Tryz.func4 (by kernel_rfl) rfl fun E M=>?_
 conv=>cbv
 refine cL (r:= .one (.sl AZ ad)) M (OK (by rw[v,aA])) t1 ?_;try conv=>cbv
 refine cL M Lt trivial ?_;try conv=>cbv
 intro bG aO;cases aO.trans (rfl:_=false);conv=>cbv
 refine cL M (UQ v (fun n hn=>⟨(B n hn).cos,(B n hn).EU⟩)) t1 ?_;try conv=>cbv
 intro bH aP;cases aP.trans (rfl:_=false);conv=>cbv
 rintro bI ⟨bo,f25⟩;conv=>cbv
 rintro bJ ⟨bp,f27⟩;conv=>cbv
 intro bK br;conv=>cbv
 refine g2 (by omega) ?_;intro bL ai;conv=>cbv
 have ai:=wrap_i64 ai;intro bM bs;conv=>cbv
 intro bN bt;conv=>cbv
 refine g1 (by omega) ?_;intro bF az;conv=>cbv
 refine g2 (by omega) ?_;rintro aI bn ⟨bf,ar⟩;conv=>cbv
 intro J ax;conv=>cbv
 obtain⟨ms,a8⟩:∃z,z=ns.drop aI:=⟨_,rfl⟩
 have hm:∀q∈ms,q∈ns:=fun q R=>List.mem_of_mem_drop (a8 ▸ R)
 have bB:ms.length<=24:=by rw[a8,List.length_drop];omega
 have x:J=ms.map nm:=by rw[ax,ar,az,List.take_length,v,a8,List.map_drop]
 have g:∀q∈ms,Tf (PN ns) q.1:=fun q R=>C5 P B (hm q R)
 have o:∀q∈ms,El q.1 Rm q.2:=fun q R=>((B q (hm q R)).el P).mono (by decide)
 obtain⟨t,ht⟩:∃z,z=AY ms:=⟨_,rfl⟩
 have D:Tf (PN ns) t:=ht ▸ G1.toGam.AY g;obtain⟨O,hO⟩:∃z:List (el AZ),z=ms.map (fun q=>nm (t,q.2)):=⟨_,rfl⟩
 have aU:O.length=J.length:=by rw[hO,x,List.length_map,List.length_map]
 refine cL (r:= .AG [(false,[.sl AZ O]),(false,[.int .i64 0])]) M (LP G1.toGam g x o (by omega) (by rw[hO,ht])) t1 ?_;try conv=>cbv
 refine cL (r:= .AG [(false,[.sl AZ O]),(false,[.int .i64 0])]) M (UZ G1 g x o (by omega) (by rw[hO,ht])) t1 ?_;try conv=>cbv
 intro bP aQ;cases aQ.trans (show _=false by decide);conv=>cbv
 rintro bQ ⟨aK,f49⟩;conv=>cbv
 rintro B4 ⟨aL,f51⟩;conv=>cbv
 intro b6 aj;conv=>cbv
 cases b6 <;> conv=>cbv
 ·have aD:=DK aj;rintro aG ⟨bq,f55⟩;conv=>cbv
  refine .inr ?_;obtain⟨J0,a5⟩:=xJ fun vs bl k=>∃(k':Nat) (i:Int),vs=[.one (.sl AZ J),.one (.sl AZ O),.one (.sl AZ O),.one (.sl AZ O),.one (.int .i64 aG),.one (.int .i64 i)]/\bl=[]/\(AK i k'/\k'<=O.length)/\k=O.length-k'
  refine⟨[5,6,8,54,55,56],[],J0,⟨O.length-0,by rw[a5];exact⟨0,0,rfl,rfl,⟨Ai 0,Nat.zero_le _⟩,rfl⟩⟩,?_⟩;intro vs bl bD hj;rw[a5] at hj;obtain⟨k',i,rfl,rfl,⟨hi,bu⟩,bx⟩:=hj;conv=>cbv
  have ei:=hi.eq;intro b7 ak;conv=>cbv
  cases b7 <;> conv=>cbv
  ·have b4:=AR ak;exact fA ⟨t2,trivial⟩ rfl (by simp)
  have b4:=AS ak;refine .inr ?_;obtain⟨d,U⟩:=AF (l:=O) (i:=k') (by omega);refine⟨d,fun _=>⟨by omega,by rw[show (i).toNat=k' by omega];exact U⟩,?_⟩;try conv=>cbv
  obtain⟨q,R,f,al⟩:=get_join hO U;have G:=List.mem_of_getElem? R;have aZ:=(G1.toGam.BA (g q G) D (by rw[ht];exact Ei G1.toGam g q G) (o q G)).mono (show Rm+Cm<=Lvv 1 by decide);have ha:Nvv (Tf (PN ns)) (Lvv 1) d.1 d.2 (t,q.2):=⟨D,f,al,aZ⟩;refine cL M (bO F (by decide) ha) ⟨t2,trivial⟩ ?_;try conv=>cbv
  intro bR aR;cases aR.trans (rfl:_=false);conv=>cbv
  obtain⟨ab,W⟩:=AF (l:=J) (i:=k') (by omega);refine⟨ab,fun _=>⟨by omega,by rw[show (i).toNat=k' by omega];exact W⟩,?_⟩;try conv=>cbv
  obtain⟨u,y,b2,b3,aY⟩:=Cy x W;cases R.symm.trans aY;have hb:Nvv (Tf (PN ns)) (Lvv 1) ab.1 ab.2 (u,y):=⟨g _ G,b2,b3,(o _ G).mono (by decide)⟩;refine cL M (ay F (by decide) ha hb (c:=true) ⟨fun _=>rfl,fun _=>rfl⟩) ⟨t2,t2,trivial⟩ ?_;try conv=>cbv
  intro bS aS;cases aS.trans (rfl:_=false);conv=>cbv
  rintro bT ⟨aM,f76⟩;conv=>cbv
  obtain⟨ba,Y⟩:=AF (l:=O) (i:=k') (by omega);refine⟨ba,fun _=>⟨by omega,by rw[show (i).toNat=k' by omega];exact Y⟩,?_⟩;try conv=>cbv
  obtain⟨_,_,an,_⟩:=get_join hO Y;rintro bU ⟨aN,f82⟩;conv=>cbv
  intro b8 ao;conv=>cbv
  cases b8 <;> conv=>cbv
  ·have aE:=DK ao;refine cL M (Lb (G1.AN D) f (G1.fit D).vR (G1.F8 D).qR) t1 ?_;try conv=>cbv
   intro bV aT;cases aT.trans (rfl:_=false);conv=>cbv
   refine⟨fun _=>YB (by kernel_rfl),?_⟩;rintro aa ⟨af,f93⟩;conv=>cbv
   have aJ:aa=((d.1).length:Int):=af;refine .inr ?_;obtain⟨J1,a6⟩:=xJ fun vs bl k=>∃(N:Nat) (j:Int),vs=[.one (.sl AZ J),.one (.sl AZ O),.one (.sl AZ O),.one (.An 11 0 0),.one (.sl AZ O),.one (.int .i64 aG),.one (.int .i64 i),.one (.int .i64 aa),.one (.int .i64 j)]/\bl=[.var 0 [.sl (.sl AA) d.1,.sl AA d.2]]/\(AK j N/\N<=d.1.length)/\k=d.1.length-N
   refine⟨[5,6,8,11,54,55,56,93,94],[11],J1,⟨d.1.length-0,by rw[a6];exact⟨0,0,rfl,rfl,⟨Ai 0,Nat.zero_le _⟩,rfl⟩⟩,?_⟩;intro vs bl bE hj;rw[a6] at hj;obtain⟨N,j,rfl,rfl,⟨hj,bw⟩,bz⟩:=hj;conv=>cbv
   have ej:=hj.eq;intro b9 aq;conv=>cbv
   cases b9 <;> conv=>cbv
   ·have b5:=AR aq;intro bm bd;conv=>cbv
    refine g1 (by omega) ?_;refine⟨O.length-(k'+1),?_,?_⟩
    ·omega
    rw[a5];exact⟨k'+1,_,rfl,rfl,⟨⟨by omega⟩,by omega⟩,rfl⟩
   have b5:=AS aq;refine .inr ?_;intro aF a7;conv=>cbv
   refine⟨fun _=>⟨by omega,by have:aF=(d.1).length:=a7;omega⟩,?_⟩;intro bb aV;conv=>cbv
   intro bh aW;conv=>cbv
   obtain⟨a1,h⟩:=AF (l:=d.1) (i:=N) (by omega);refine⟨a1,fun _=>⟨by omega,by rw[show (j).toNat=N by omega];exact h⟩,?_⟩;try conv=>cbv
   obtain⟨K,H⟩:=AF (l:=O) (i:=0) (by omega);refine⟨K,fun _=>⟨by omega,H⟩,?_⟩;try conv=>cbv
   obtain⟨_,_,Q,_⟩:=get_join hO H;have aH:K.1.length=d.1.length:=by rw[Q,f]
   obtain⟨a2,I⟩:=AF (l:=K.1) (i:=N) (by omega);refine⟨a2,fun _=>⟨by omega,by rw[show (j).toNat=N by omega];exact I⟩,?_⟩;try conv=>cbv
   obtain⟨r,u1,b0,bA,aC,bC⟩:=cC (f ▸ h);have ae:a2=a1:=Option.some.inj (I.symm.trans (by rw[Q,<-f];exact h));obtain⟨aB,aw,au,av⟩:=cj (G1.AN D) b0;obtain⟨Z,hZ⟩:=BB (em u1 (AI u1 r-AI u1 r));refine cL (r:= .one (.sl AA Z)) M (JT aB (aC.trans av) (by rw[ae];exact aC.trans av) au au (by decide) (by decide) hZ) t3 ?_;try conv=>cbv
   refine cL (r:= .one (.bool true)) M (FU aB.red (Dv aw aw) hZ (by grind)) t1 ?_;try conv=>cbv
   intro bj ag;cases ag.trans (rfl:_=false);conv=>cbv
   refine⟨fun _=>YB (by kernel_rfl),?_⟩;intro bk bc;conv=>cbv
   refine g1 (by omega) ?_;have aJ:aa=((d.1).length:Int):=af;refine⟨d.1.length-(N+1),?_,?_⟩
   ·omega
   rw[a6];exact⟨N+1,_,rfl,rfl,⟨⟨by omega⟩,by omega⟩,rfl⟩
  have aE:=DL ao;exact absurd (by rw[aM,aN];exact congrArg (fun l:List LR=>(l.length:Int)) (f.trans an.symm)) aE
 have aD:=DL aj;exact absurd (by rw[aK,aL,aU]) aD
end Go.Abs
