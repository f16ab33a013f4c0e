/- Part 48 of a proof. Conditions: each theorem's own. -/
import Derived.Test.YtoonaidhfikkeaaGreatPk45
import Derived.Test.YtoonaidhfikkeaaGreatPk46
set_option linter.all false
set_option maxHeartbeats 8000000
open Go.Proofs
namespace Go.Abs
open Go.RowKit
open Classical in
noncomputable def fs (x y:Re):Re:=if x=0 then y else x
open Classical in
noncomputable def un (x:Re):Re:=if x=0 then 0 else 1
section
variable {x y z:Re}
theorem cG (h:x=0):fs x y=y:=if_pos h
theorem cH (h:x≠0):fs x y=x:=if_neg h
theorem cI (h:x=0):un x=0:=if_pos h
theorem cF (h:x≠0):un x=1:=if_neg h
theorem dI (h:¬(x=0/\y=0)):fs x y≠0:=by
 by_cases a:x=0
 ·rw[cG a];exact fun e=>h ⟨a,e⟩
 rw[cH a];exact a
theorem cj:(1:Re)≠0:=fun e=>absurd (Re.GM.1 (show Re.ofRat 1=Re.ofRat 0 from e)) (by decide)
theorem cr {i:Re} (h:x*i=1):i=Dk x:=by
 have a:x≠0:=fun e=>cj (by rw[<-h,e];grind)
 have:=HW a;have e:i=i*(x*Dk x):=by rw[this];grind
 rw[e,show i*(x*Dk x)=(x*i)*Dk x by grind,h];grind
theorem inv_neg (h:x≠0):Dk (-x)= -Dk x:=(cr (by have:=HW h;grind)).symm
theorem eT:un (-x)=un x:=by
 by_cases h:x=0
 ·rw[cI h,cI (by rw[h];grind)]
 rw[cF h,cF (fun e=>h (by grind))]
theorem dh:fs (-x) (-y)= -fs x y:=by
 by_cases h:x=0
 ·rw[cG h,cG (by rw[h];grind)]
 rw[cH h,cH (fun e=>h (by grind))]
theorem dO (h:¬(x=0/\y=0)): -z*Dk (fs (-x) (-y))=z*Dk (fs x y):=by
 rw[dh,inv_neg (dI h)];grind
theorem cZ (h:¬(x=0/\y=0)):un x=1\/un x=0/\y*Dk (fs x y)=1:=by
 by_cases a:x=0
 ·exact .inr ⟨cI a,by rw[cG a];exact HW (fun e=>h ⟨a,e⟩)⟩
 exact .inl (cF a)
end
structure bh (TT:List (List Rat)->Prop) (w:List (List Rat)) (b k l:Nat) (T1:List LR) (A1:LR) (T2:List LR) (A2:LR) (T3:List LR) (A3:LR) (x y z:Re):Prop where
 x:Nm TT w b 1 T1 A1 x
 y:Nm TT w b k T2 A2 y
 z:Nm TT w b l T3 A3 z
section
variable {TT:List (List Rat)->Prop} {w:List (List Rat)} {R b c M q p k k' l l':Nat} {T1 T2:List LR} {A1 A2:LR} {x y:Re}
theorem Nm.shrink (h:Nm TT w b k T1 A1 x) (d:Nm TT w b l T2 A2 y) (e:x=y):Nm TT w b l T1 A1 x:=by
 obtain⟨u,a,i,g,j,_⟩:=h;obtain⟨_,_,_,_,_,f⟩:=d;exact⟨u,a,i,g,j,e ▸ f⟩
theorem cg (F:Fm TT w R b c M q p) (hM:1<=M) {r:Rat} (a:Bq r) (h:Nm TT w b k T1 A1 x) (e:x=Re.ofRat r):Nm TT w b 1 T1 A1 (Re.ofRat r):=e ▸ h.shrink (Hi F hM (HF a F.hb)) e
theorem Vm.shrink {T3 T4:List LR} {A3 A4:LR} {x' y':Re} (h:Vm TT w b k k' T1 A1 T2 A2 x y) (a:Vm TT w b l l' T3 A3 T4 A4 x' y') (e:x=x') (f:y=y'):Vm TT w b l l' T1 A1 T2 A2 x y:=⟨h.x.shrink a.x e,h.y.shrink a.y f⟩
end
theorem bu {T1:List LR} {A1:LR}:Dc Tryz.prog 59 [.one (.Am 0 0 0),.agg [.sl (.sl AA) T1,.sl AA A1],.one (.int .i64 0)] (.var 0 [.int .i64 0]) (.agg [.sl (.sl AA) T1,.sl AA A1]):=by
 refine cB Tryz.func59 (by kernel_rfl) rfl fun E h=>?_
 conv=>cbv
 intro f a;cases a.trans (show _=true by decide);conv=>cbv
 refine .inr ?_;intro g d;cases d.trans (show _=false by decide);conv=>cbv
 refine fun _=>⟨⟨⟨t3,trivial⟩,rfl,by simp⟩,rfl⟩
theorem cD {T1 T2:List LR} {A1 A2:LR}:Dc Tryz.prog 57 [.one (.Am 0 0 0),.agg [.sl (.sl AA) T1,.sl AA A1,.sl (.sl AA) T2,.sl AA A2],.one (.int .i64 0)] (.var 0 [.int .i64 0]) (.agg [.sl (.sl AA) T1,.sl AA A1,.sl (.sl AA) T2,.sl AA A2]):=by
 refine cB Tryz.func57 (by kernel_rfl) rfl fun E h=>?_
 conv=>cbv
 intro f a;cases a.trans (show _=true by decide);conv=>cbv
 refine .inr ?_;intro g d;cases d.trans (show _=false by decide);conv=>cbv
 refine fun _=>⟨⟨⟨⟨rfl,rfl,rfl,rfl,rfl,trivial⟩,trivial⟩,rfl,by simp⟩,rfl⟩
theorem de {T1 T2:List LR} {A1 A2:LR}:Dc Tryz.prog 133 [.one (.Am 0 0 0),.agg [.sl (.sl AA) T1,.sl AA A1,.sl (.sl AA) T2,.sl AA A2]] (.var 0 [.int .i64 0]) (.AF [(true,[.sl (.sl AA) T1,.sl AA A1,.sl (.sl AA) T2,.sl AA A2]),(false,[.int .i64 0])]):=by
 refine cB Tryz.func133 (by kernel_rfl) rfl fun E f=>?_
 conv=>cbv
 intro d a;cases a.trans (show _=false by decide);conv=>cbv
 refine fun _=>⟨⟨⟨⟨rfl,rfl,rfl,rfl,rfl,trivial⟩,t2,trivial⟩,rfl,by simp⟩,rfl⟩
theorem cT {T1:List LR} {A1:LR}:Dc Tryz.prog 130 [.one (.Am 0 0 0),.agg [.sl (.sl AA) T1,.sl AA A1],.one (.int .i64 0)] (.var 0 [.int .i64 0]) (.agg [.sl (.sl AA) T1,.sl AA A1]):=by
 refine cB Tryz.func130 (by kernel_rfl) rfl fun E h=>?_
 conv=>cbv
 intro f a;cases a.trans (show _=true by decide);conv=>cbv
 refine .inr ?_;intro g d;cases d.trans (show _=false by decide);conv=>cbv
 refine fun _=>⟨⟨⟨t3,trivial⟩,rfl,by simp⟩,rfl⟩
theorem cM {TT:List (List Rat)->Prop} {w:List (List Rat)} {R b c M q p k l:Nat} (F:Fm TT w R b c M q p) {T1 T2:List LR} {A1 A2:LR} {x y:Re} (g:Nm TT w b k T1 A1 x) (hb:Nm TT w b l T2 A2 y) (h:k+c+1<=M) (i:l+c+1<=M):∃T A,Nm TT w b (k+l+1) T A (x+y)/\Dc Tryz.prog 71 [.one (.Am 0 0 0),.agg [.sl (.sl AA) T1,.sl AA A1],.agg [.sl (.sl AA) T2,.sl AA A2]] (.var 0 [.int .i64 0]) (.agg [.sl (.sl AA) T,.sl AA A]):=by
 obtain⟨T5,A5,f,_,d⟩:=Hj F g hb (by omega) (by omega);refine⟨T5,A5,f,?_⟩;refine cB Tryz.func71 (by kernel_rfl) rfl fun E a=>?_
 conv=>cbv
 refine cL a d ⟨t2,t2,trivial⟩ ?_;try conv=>cbv
 refine .inr (.inr (.inr (.inl ⟨0,.var 0 [.int .i64 0],[.one (.Am 0 0 0),.agg [.sl (.sl AA) T5,.sl AA A5],.one (.int .i64 0)],.agg [.sl (.sl AA) T5,.sl AA A5],fun _=>⟨rfl,⟨⟨⟨rfl,rfl⟩,rfl⟩,t2,rfl,trivial⟩⟩,fun _=>E4 a (cT),?_⟩)));try conv=>cbv
 refine fun _=>⟨⟨⟨t3,trivial⟩,rfl,by simp⟩,rfl⟩
theorem cN {TT:List (List Rat)->Prop} {w:List (List Rat)} {R b c M q p k l:Nat} (F:Fm TT w R b c M q p) {T1 T2:List LR} {A1 A2:LR} {x y:Re} (g:Nm TT w b k T1 A1 x) (hb:Nm TT w b l T2 A2 y) (h:k+c+1<=M) (i:l+c+1<=M):∃T A,Nm TT w b (k+l+1) T A (x-y)/\Dc Tryz.prog 68 [.one (.Am 0 0 0),.agg [.sl (.sl AA) T1,.sl AA A1],.agg [.sl (.sl AA) T2,.sl AA A2]] (.var 0 [.int .i64 0]) (.agg [.sl (.sl AA) T,.sl AA A]):=by
 obtain⟨T5,A5,f,_,d⟩:=RO F g hb (by omega) (by omega);refine⟨T5,A5,f,?_⟩;refine cB Tryz.func68 (by kernel_rfl) rfl fun E a=>?_
 conv=>cbv
 refine cL a d ⟨t2,t2,trivial⟩ ?_;try conv=>cbv
 refine .inr (.inr (.inr (.inl ⟨0,.var 0 [.int .i64 0],[.one (.Am 0 0 0),.agg [.sl (.sl AA) T5,.sl AA A5],.one (.int .i64 0)],.agg [.sl (.sl AA) T5,.sl AA A5],fun _=>⟨rfl,⟨⟨⟨rfl,rfl⟩,rfl⟩,t2,rfl,trivial⟩⟩,fun _=>E4 a (cT),?_⟩)));try conv=>cbv
 refine fun _=>⟨⟨⟨t3,trivial⟩,rfl,by simp⟩,rfl⟩
theorem bn {TT:List (List Rat)->Prop} {w:List (List Rat)} {R b c M q p k l:Nat} (F:Fm TT w R b c M q p) {T1 T2:List LR} {A1 A2:LR} {x y:Re} (g:Nm TT w b k T1 A1 x) (hb:Nm TT w b l T2 A2 y) (h:k+c+1<=M) (i:l+c+1<=M):∃T A,Nm TT w b (k+l+1) T A (x*y)/\Dc Tryz.prog 72 [.one (.Am 0 0 0),.agg [.sl (.sl AA) T1,.sl AA A1],.agg [.sl (.sl AA) T2,.sl AA A2]] (.var 0 [.int .i64 0]) (.agg [.sl (.sl AA) T,.sl AA A]):=by
 obtain⟨T5,A5,f,_,d⟩:=GL F g hb (by omega) (by omega);refine⟨T5,A5,f,?_⟩;refine cB Tryz.func72 (by kernel_rfl) rfl fun E a=>?_
 conv=>cbv
 refine cL a d ⟨t2,t2,trivial⟩ ?_;try conv=>cbv
 refine .inr (.inr (.inr (.inl ⟨0,.var 0 [.int .i64 0],[.one (.Am 0 0 0),.agg [.sl (.sl AA) T5,.sl AA A5],.one (.int .i64 0)],.agg [.sl (.sl AA) T5,.sl AA A5],fun _=>⟨rfl,⟨⟨⟨rfl,rfl⟩,rfl⟩,t2,rfl,trivial⟩⟩,fun _=>E4 a (cT),?_⟩)));try conv=>cbv
 refine fun _=>⟨⟨⟨t3,trivial⟩,rfl,by simp⟩,rfl⟩
theorem cK {TT:List (List Rat)->Prop} {w:List (List Rat)} {R b c M q p k l:Nat} (F:Fm TT w R b c M q p) {T1 T2:List LR} {A1 A2:LR} {x y:Re} (i:Nm TT w b k T1 A1 x) (hb:Nm TT w b l T2 A2 y) {d:Nat} (j:q*l+p<=d) (g:y≠0) (n:k+c+1<=M) (o:l+c+1<=M) (m:d+c+1<=M):∃T A,Nm TT w b (k+d+1) T A (x*Dk y)/\Dc Tryz.prog 69 [.one (.Am 0 0 0),.agg [.sl (.sl AA) T1,.sl AA A1],.agg [.sl (.sl AA) T2,.sl AA A2]] (.var 0 [.int .i64 0]) (.agg [.sl (.sl AA) T,.sl AA A]):=by
 obtain⟨T5,A5,h,_,f⟩:=a7 F i hb j g (by omega) (by omega) (by omega);refine⟨T5,A5,h,?_⟩;refine cB Tryz.func69 (by kernel_rfl) rfl fun E a=>?_
 conv=>cbv
 refine cL a f ⟨t2,t2,trivial⟩ ?_;try conv=>cbv
 refine .inr (.inr (.inr (.inl ⟨0,.var 0 [.int .i64 0],[.one (.Am 0 0 0),.agg [.sl (.sl AA) T5,.sl AA A5],.one (.int .i64 0)],.agg [.sl (.sl AA) T5,.sl AA A5],fun _=>⟨rfl,⟨⟨⟨rfl,rfl⟩,rfl⟩,t2,rfl,trivial⟩⟩,fun _=>E4 a (cT),?_⟩)));try conv=>cbv
 refine fun _=>⟨⟨⟨t3,trivial⟩,rfl,by simp⟩,rfl⟩
theorem dE {T1 T2:List LR} {A1 A2:LR}:Dc Tryz.prog 74 [.one (.Am 0 0 0),.agg [.sl (.sl AA) T1,.sl AA A1],.agg [.sl (.sl AA) T2,.sl AA A2]] (.var 0 [.int .i64 0]) (.AF [(true,[.sl (.sl AA) T1,.sl AA A1,.sl (.sl AA) T2,.sl AA A2]),(false,[.int .i64 0])]):=by
 refine cB Tryz.func74 (by kernel_rfl) rfl fun E f=>?_
 conv=>cbv
 intro d a;cases a.trans (show _=false by decide);conv=>cbv
 refine fun _=>⟨⟨⟨⟨rfl,rfl,rfl,rfl,rfl,trivial⟩,t2,trivial⟩,rfl,by simp⟩,rfl⟩
theorem da {T1:List LR} {A1:LR}:Dc Tryz.prog 82 [.one (.Am 0 0 0),.agg [.sl (.sl AA) T1,.sl AA A1]] (.var 0 [.int .i64 0]) (.AF [(true,[.sl (.sl AA) T1,.sl AA A1]),(false,[.int .i64 0])]):=by
 refine cB Tryz.func82 (by kernel_rfl) rfl fun E f=>?_
 conv=>cbv
 intro d a;cases a.trans (show _=false by decide);conv=>cbv
 refine fun _=>⟨⟨⟨t3,t2,trivial⟩,rfl,by simp⟩,rfl⟩
theorem dd {TT:List (List Rat)->Prop} {w:List (List Rat)} {R b c M q p k k' l l':Nat} (F:Fm TT w R b c M q p) {T1 T2 T3 T4:List LR} {A1 A2 A3 A4:LR} {x1 y1 x2 y2:Re} (W:Vm TT w b k k' T1 A1 T2 A2 x1 y1) (f:Vm TT w b l l' T3 A3 T4 A4 x2 y2) {d:Nat} (G:q*l+p<=d) (V:q*l'+p<=d) (Z:d+c+1<=M) (Y:k+k'+l+l'+c+4<=M) (g:x2≠0):∃T A J I i h,bh TT w b (l'+d+1) (k+k'+l+l'+d+4) T A J I i h (un x2) (y2*Dk (fs x2 y2)) ((x1*x2+y1*y2)*Dk (fs x2 y2))/\Dc Tryz.prog 63 [.one (.Am 0 0 0),.agg [.sl (.sl AA) T1,.sl AA A1,.sl (.sl AA) T2,.sl AA A2],.agg [.sl (.sl AA) T3,.sl AA A3,.sl (.sl AA) T4,.sl AA A4]] (.var 0 [.int .i64 0]) (.AF [(true,[.sl (.sl AA) T,.sl AA A,.sl (.sl AA) J,.sl AA I,.sl (.sl AA) i,.sl AA h]),(false,[.int .i64 0])]):=by
 obtain⟨T5,A5,P,K⟩:=aE F W f (by omega) (by omega);obtain⟨X,m,C,_⟩:=KX F f.x (by omega);obtain⟨u,o,Q,L,_⟩:=a7 F f.x f.x G g (by omega) (by omega) (by omega);obtain⟨v,s,S,N,_⟩:=a7 F f.y f.x G g (by omega) (by omega) (by omega);obtain⟨B,t,U,O,_⟩:=a7 F P f.x G g (by omega) (by omega) (by omega);rw[cH g,cF g];refine⟨u,o,v,s,B,t,⟨(cg F (by omega) (r:=1) (by decide +kernel) Q (HW g)),S.mono (by omega),U.mono (by omega)⟩,?_⟩;refine cB Tryz.func63 (by kernel_rfl) rfl fun E a=>?_
 conv=>cbv
 refine cL a K ⟨t4,t4,trivial⟩ ?_;try conv=>cbv
 refine .inr (.inr (.inr (.inl ⟨0,.var 0 [.int .i64 0],[.one (.Am 0 0 0),.agg [.sl (.sl AA) T5,.sl AA A5],.one (.int .i64 0)],.agg [.sl (.sl AA) T5,.sl AA A5],fun _=>⟨rfl,⟨⟨⟨rfl,rfl⟩,rfl⟩,t2,rfl,trivial⟩⟩,fun _=>E4 a (bu),?_⟩)));try conv=>cbv
 refine cL a C ⟨t2,trivial⟩ ?_;try conv=>cbv
 intro H j;conv=>cbv
 refine .inr ?_;cases H <;> conv=>cbv
 ·have n:=Ab j;refine cL a L ⟨t2,t2,trivial⟩ ?_;try conv=>cbv
  refine .inr (.inr (.inr (.inl ⟨0,.var 0 [.int .i64 0],[.one (.Am 0 0 0),.agg [.sl (.sl AA) u,.sl AA o],.one (.int .i64 0)],.agg [.sl (.sl AA) u,.sl AA o],fun _=>⟨rfl,⟨⟨⟨rfl,rfl⟩,rfl⟩,t2,rfl,trivial⟩⟩,fun _=>E4 a (bu),?_⟩)));try conv=>cbv
  refine cL a N ⟨t2,t2,trivial⟩ ?_;try conv=>cbv
  refine .inr (.inr (.inr (.inl ⟨0,.var 0 [.int .i64 0],[.one (.Am 0 0 0),.agg [.sl (.sl AA) v,.sl AA s],.one (.int .i64 0)],.agg [.sl (.sl AA) v,.sl AA s],fun _=>⟨rfl,⟨⟨⟨rfl,rfl⟩,rfl⟩,t2,rfl,trivial⟩⟩,fun _=>E4 a (bu),?_⟩)));try conv=>cbv
  refine cL a O ⟨t2,t2,trivial⟩ ?_;try conv=>cbv
  refine .inr (.inr (.inr (.inl ⟨0,.var 0 [.int .i64 0],[.one (.Am 0 0 0),.agg [.sl (.sl AA) B,.sl AA t],.one (.int .i64 0)],.agg [.sl (.sl AA) B,.sl AA t],fun _=>⟨rfl,⟨⟨⟨rfl,rfl⟩,rfl⟩,t2,rfl,trivial⟩⟩,fun _=>E4 a (bu),?_⟩)));try conv=>cbv
  refine⟨fun _=>Et (by kernel_rfl),?_⟩;intro CQ D;cases D.trans (show _=false by decide);conv=>cbv
  refine fun _=>⟨⟨⟨⟨rfl,rfl,rfl,rfl,rfl,rfl,rfl,trivial⟩,t2,trivial⟩,rfl,by simp⟩,rfl⟩
 have n:=Ad j;exact absurd (Ez.1 (m.symm.trans n)) g
theorem dc {TT:List (List Rat)->Prop} {w:List (List Rat)} {R b c M q p k k' l l':Nat} (F:Fm TT w R b c M q p) {T1 T2 T3 T4:List LR} {A1 A2 A3 A4:LR} {x1 y1 x2 y2:Re} (W:Vm TT w b k k' T1 A1 T2 A2 x1 y1) (g:Vm TT w b l l' T3 A3 T4 A4 x2 y2) {d:Nat} (Z:q*l+p<=d) (f:q*l'+p<=d) (hi:d+c+1<=M) (Y:k+k'+l+l'+c+4<=M) (o:x2=0) (H:y2≠0):∃T A K J i h,bh TT w b (l'+d+1) (k+k'+l+l'+d+4) T A K J i h (un x2) (y2*Dk (fs x2 y2)) ((x1*x2+y1*y2)*Dk (fs x2 y2))/\Dc Tryz.prog 63 [.one (.Am 0 0 0),.agg [.sl (.sl AA) T1,.sl AA A1,.sl (.sl AA) T2,.sl AA A2],.agg [.sl (.sl AA) T3,.sl AA A3,.sl (.sl AA) T4,.sl AA A4]] (.var 0 [.int .i64 0]) (.AF [(true,[.sl (.sl AA) T,.sl AA A,.sl (.sl AA) K,.sl AA J,.sl (.sl AA) i,.sl AA h]),(false,[.int .i64 0])]):=by
 obtain⟨T5,A5,Q,L⟩:=aE F W g (by omega) (by omega);obtain⟨X,m,D,_⟩:=KX F g.x (by omega);obtain⟨v,s,S,N,_⟩:=a7 F g.x g.y f H (by omega) (by omega) (by omega);obtain⟨B,t,U,O,_⟩:=a7 F g.y g.y f H (by omega) (by omega) (by omega);obtain⟨C,u,V,P,_⟩:=a7 F Q g.y f H (by omega) (by omega) (by omega);rw[cG o,cI o];refine⟨v,s,B,t,C,u,⟨(cg F (by omega) (r:=0) (by decide +kernel) S (show _=(0:Re) by rw[o];grind)),U.mono (by omega),V.mono (by omega)⟩,?_⟩;refine cB Tryz.func63 (by kernel_rfl) rfl fun E a=>?_
 conv=>cbv
 refine cL a L ⟨t4,t4,trivial⟩ ?_;try conv=>cbv
 refine .inr (.inr (.inr (.inl ⟨0,.var 0 [.int .i64 0],[.one (.Am 0 0 0),.agg [.sl (.sl AA) T5,.sl AA A5],.one (.int .i64 0)],.agg [.sl (.sl AA) T5,.sl AA A5],fun _=>⟨rfl,⟨⟨⟨rfl,rfl⟩,rfl⟩,t2,rfl,trivial⟩⟩,fun _=>E4 a (bu),?_⟩)));try conv=>cbv
 refine cL a D ⟨t2,trivial⟩ ?_;try conv=>cbv
 intro I j;conv=>cbv
 refine .inr ?_;cases I <;> conv=>cbv
 ·have n:=Ab j;exact absurd (m.trans (by rw[o];exact E0)) n
 have n:=Ad j;refine cL a N ⟨t2,t2,trivial⟩ ?_;try conv=>cbv
 refine .inr (.inr (.inr (.inl ⟨0,.var 0 [.int .i64 0],[.one (.Am 0 0 0),.agg [.sl (.sl AA) v,.sl AA s],.one (.int .i64 0)],.agg [.sl (.sl AA) v,.sl AA s],fun _=>⟨rfl,⟨⟨⟨rfl,rfl⟩,rfl⟩,t2,rfl,trivial⟩⟩,fun _=>E4 a (bu),?_⟩)));try conv=>cbv
 refine cL a O ⟨t2,t2,trivial⟩ ?_;try conv=>cbv
 refine .inr (.inr (.inr (.inl ⟨0,.var 0 [.int .i64 0],[.one (.Am 0 0 0),.agg [.sl (.sl AA) B,.sl AA t],.one (.int .i64 0)],.agg [.sl (.sl AA) B,.sl AA t],fun _=>⟨rfl,⟨⟨⟨rfl,rfl⟩,rfl⟩,t2,rfl,trivial⟩⟩,fun _=>E4 a (bu),?_⟩)));try conv=>cbv
 refine cL a P ⟨t2,t2,trivial⟩ ?_;try conv=>cbv
 refine .inr (.inr (.inr (.inl ⟨0,.var 0 [.int .i64 0],[.one (.Am 0 0 0),.agg [.sl (.sl AA) C,.sl AA u],.one (.int .i64 0)],.agg [.sl (.sl AA) C,.sl AA u],fun _=>⟨rfl,⟨⟨⟨rfl,rfl⟩,rfl⟩,t2,rfl,trivial⟩⟩,fun _=>E4 a (bu),?_⟩)));try conv=>cbv
 refine⟨fun _=>Et (by kernel_rfl),?_⟩;intro CQ G;cases G.trans (show _=false by decide);conv=>cbv
 refine fun _=>⟨⟨⟨⟨rfl,rfl,rfl,rfl,rfl,rfl,rfl,trivial⟩,t2,trivial⟩,rfl,by simp⟩,rfl⟩
theorem cP {TT:List (List Rat)->Prop} {w:List (List Rat)} {R b c M q p k k' l l':Nat} (F:Fm TT w R b c M q p) {T1 T2 T3 T4:List LR} {A1 A2 A3 A4:LR} {x1 y1 x2 y2:Re} (s:Vm TT w b k k' T1 A1 T2 A2 x1 y1) (r:Vm TT w b l l' T3 A3 T4 A4 x2 y2) {d:Nat} (n:q*l+p<=d) (g:q*l'+p<=d) (o:d+c+1<=M) (m:k+k'+l+l'+c+4<=M) (t:¬(x2=0/\y2=0)):∃T A j i f a,bh TT w b (l'+d+1) (k+k'+l+l'+d+4) T A j i f a (un x2) (y2*Dk (fs x2 y2)) ((x1*x2+y1*y2)*Dk (fs x2 y2))/\Dc Tryz.prog 63 [.one (.Am 0 0 0),.agg [.sl (.sl AA) T1,.sl AA A1,.sl (.sl AA) T2,.sl AA A2],.agg [.sl (.sl AA) T3,.sl AA A3,.sl (.sl AA) T4,.sl AA A4]] (.var 0 [.int .i64 0]) (.AF [(true,[.sl (.sl AA) T,.sl AA A,.sl (.sl AA) j,.sl AA i,.sl (.sl AA) f,.sl AA a]),(false,[.int .i64 0])]):=by
 by_cases h:x2=0
 ·exact dc F s r n g o m h fun e=>t ⟨h,e⟩
 exact dd F s r n g o m h
theorem dZ {TT:List (List Rat)->Prop} {w:List (List Rat)} {R b c M q p l l' j:Nat} (F:Fm TT w R b c M q p) {T1 T2 T3:List LR} {A1 A2 A3:LR} {x2 y2 z:Re} (a:Nm TT w b l T1 A1 x2) (v:Nm TT w b l' T2 A2 y2) (W:Nm TT w b j T3 A3 z) {d:Nat} (u:q*l+p<=d) (V:q*l'+p<=d) (hi:d+c+1<=M) (Z:l+c+1<=M) (h2:l'+c+1<=M) (h3:j+c+1<=M) (f:x2≠0):∃T A I C h g,bh TT w b (l'+d+1) (j+d+1) T A I C h g (un x2) (y2*Dk (fs x2 y2)) (z*Dk (fs x2 y2))/\Dc Tryz.prog 88 [.one (.Am 0 0 0),.agg [.sl (.sl AA) T1,.sl AA A1],.agg [.sl (.sl AA) T2,.sl AA A2],.agg [.sl (.sl AA) T3,.sl AA A3]] (.var 0 [.int .i64 0]) (.AF [(true,[.sl (.sl AA) T,.sl AA A,.sl (.sl AA) I,.sl AA C,.sl (.sl AA) h,.sl AA g]),(false,[.int .i64 0])]):=by
 obtain⟨Y,m,_,s⟩:=KX F a (by omega);obtain⟨J,D,Q,N⟩:=cK F a a u f (by omega) (by omega) (by omega);obtain⟨K,G,S,O⟩:=cK F v a u f (by omega) (by omega) (by omega);obtain⟨L,H,U,P⟩:=cK F W a u f (by omega) (by omega) (by omega);rw[cH f,cF f];refine⟨J,D,K,G,L,H,⟨(cg F (by omega) (r:=1) (by decide +kernel) Q (HW f)),S.mono (by omega),U.mono (by omega)⟩,?_⟩;refine cB Tryz.func88 (by kernel_rfl) rfl fun E o=>?_
 conv=>cbv
 refine cL o s ⟨t2,trivial⟩ ?_;try conv=>cbv
 intro B i;conv=>cbv
 refine .inr ?_;cases B <;> conv=>cbv
 ·have n:=Ab i;refine .inr (.inr (.inr (.inl ⟨0,.var 0 [.int .i64 0],[.one (.Am 0 0 0),.agg [.sl (.sl AA) T1,.sl AA A1],.agg [.sl (.sl AA) T1,.sl AA A1]],.agg [.sl (.sl AA) J,.sl AA D],fun _=>⟨rfl,⟨⟨⟨rfl,rfl⟩,rfl⟩,t2,t2,trivial⟩⟩,fun _=>E4 o (N),?_⟩)));try conv=>cbv
  refine .inr (.inr (.inr (.inl ⟨0,.var 0 [.int .i64 0],[.one (.Am 0 0 0),.agg [.sl (.sl AA) T2,.sl AA A2],.agg [.sl (.sl AA) T1,.sl AA A1]],.agg [.sl (.sl AA) K,.sl AA G],fun _=>⟨rfl,⟨⟨⟨rfl,rfl⟩,rfl⟩,t2,t2,trivial⟩⟩,fun _=>E4 o (O),?_⟩)));try conv=>cbv
  refine .inr (.inr (.inr (.inl ⟨0,.var 0 [.int .i64 0],[.one (.Am 0 0 0),.agg [.sl (.sl AA) T3,.sl AA A3],.agg [.sl (.sl AA) T1,.sl AA A1]],.agg [.sl (.sl AA) L,.sl AA H],fun _=>⟨rfl,⟨⟨⟨rfl,rfl⟩,rfl⟩,t2,t2,trivial⟩⟩,fun _=>E4 o (P),?_⟩)));try conv=>cbv
  refine⟨fun _=>Et (by kernel_rfl),?_⟩;intro X t;cases t.trans (show _=false by decide);conv=>cbv
  refine fun _=>⟨⟨⟨⟨rfl,rfl,rfl,rfl,rfl,rfl,rfl,trivial⟩,t2,trivial⟩,rfl,by simp⟩,rfl⟩
 have n:=Ad i;exact absurd (Ez.1 (m.symm.trans n)) f
theorem dY {TT:List (List Rat)->Prop} {w:List (List Rat)} {R b c M q p l l' j:Nat} (F:Fm TT w R b c M q p) {T1 T2 T3:List LR} {A1 A2 A3:LR} {x2 y2 z:Re} (n:Nm TT w b l T1 A1 x2) (a:Nm TT w b l' T2 A2 y2) (W:Nm TT w b j T3 A3 z) {d:Nat} (hd:q*l+p<=d) (f:q*l'+p<=d) (hi:d+c+1<=M) (Z:l+c+1<=M) (h2:l'+c+1<=M) (h3:j+c+1<=M) (t:x2=0) (B:y2≠0):∃T A J D h g,bh TT w b (l'+d+1) (j+d+1) T A J D h g (un x2) (y2*Dk (fs x2 y2)) (z*Dk (fs x2 y2))/\Dc Tryz.prog 88 [.one (.Am 0 0 0),.agg [.sl (.sl AA) T1,.sl AA A1],.agg [.sl (.sl AA) T2,.sl AA A2],.agg [.sl (.sl AA) T3,.sl AA A3]] (.var 0 [.int .i64 0]) (.AF [(true,[.sl (.sl AA) T,.sl AA A,.sl (.sl AA) J,.sl AA D,.sl (.sl AA) h,.sl AA g]),(false,[.int .i64 0])]):=by
 obtain⟨Y,m,_,u⟩:=KX F n (by omega);obtain⟨K,G,S,O⟩:=cK F n a f B (by omega) (by omega) (by omega);obtain⟨L,H,U,P⟩:=cK F a a f B (by omega) (by omega) (by omega);obtain⟨N,I,V,Q⟩:=cK F W a f B (by omega) (by omega) (by omega);rw[cG t,cI t];refine⟨K,G,L,H,N,I,⟨(cg F (by omega) (r:=0) (by decide +kernel) S (show _=(0:Re) by rw[t];grind)),U.mono (by omega),V.mono (by omega)⟩,?_⟩;refine cB Tryz.func88 (by kernel_rfl) rfl fun E s=>?_
 conv=>cbv
 refine cL s u ⟨t2,trivial⟩ ?_;try conv=>cbv
 intro C i;conv=>cbv
 refine .inr ?_;cases C <;> conv=>cbv
 ·have o:=Ab i;exact absurd (m.trans (by rw[t];exact E0)) o
 have o:=Ad i;refine .inr (.inr (.inr (.inl ⟨0,.var 0 [.int .i64 0],[.one (.Am 0 0 0),.agg [.sl (.sl AA) T1,.sl AA A1],.agg [.sl (.sl AA) T2,.sl AA A2]],.agg [.sl (.sl AA) K,.sl AA G],fun _=>⟨rfl,⟨⟨⟨rfl,rfl⟩,rfl⟩,t2,t2,trivial⟩⟩,fun _=>E4 s (O),?_⟩)));try conv=>cbv
 refine .inr (.inr (.inr (.inl ⟨0,.var 0 [.int .i64 0],[.one (.Am 0 0 0),.agg [.sl (.sl AA) T2,.sl AA A2],.agg [.sl (.sl AA) T2,.sl AA A2]],.agg [.sl (.sl AA) L,.sl AA H],fun _=>⟨rfl,⟨⟨⟨rfl,rfl⟩,rfl⟩,t2,t2,trivial⟩⟩,fun _=>E4 s (P),?_⟩)));try conv=>cbv
 refine .inr (.inr (.inr (.inl ⟨0,.var 0 [.int .i64 0],[.one (.Am 0 0 0),.agg [.sl (.sl AA) T3,.sl AA A3],.agg [.sl (.sl AA) T2,.sl AA A2]],.agg [.sl (.sl AA) N,.sl AA I],fun _=>⟨rfl,⟨⟨⟨rfl,rfl⟩,rfl⟩,t2,t2,trivial⟩⟩,fun _=>E4 s (Q),?_⟩)));try conv=>cbv
 refine⟨fun _=>Et (by kernel_rfl),?_⟩;intro X v;cases v.trans (show _=false by decide);conv=>cbv
 refine fun _=>⟨⟨⟨⟨rfl,rfl,rfl,rfl,rfl,rfl,rfl,trivial⟩,t2,trivial⟩,rfl,by simp⟩,rfl⟩
theorem dD {TT:List (List Rat)->Prop} {w:List (List Rat)} {R b c M q p l l' j:Nat} (F:Fm TT w R b c M q p) {T1 T2 T3:List LR} {A1 A2 A3:LR} {x2 y2 z:Re} (h:Nm TT w b l T1 A1 x2) (i:Nm TT w b l' T2 A2 y2) (B:Nm TT w b j T3 A3 z) {d:Nat} (u:q*l+p<=d) (g:q*l'+p<=d) (v:d+c+1<=M) (r:l+c+1<=M) (s:l'+c+1<=M) (t:j+c+1<=M) (C:¬(x2=0/\y2=0)):∃T A o n f a,bh TT w b (l'+d+1) (j+d+1) T A o n f a (un x2) (y2*Dk (fs x2 y2)) (z*Dk (fs x2 y2))/\Dc Tryz.prog 88 [.one (.Am 0 0 0),.agg [.sl (.sl AA) T1,.sl AA A1],.agg [.sl (.sl AA) T2,.sl AA A2],.agg [.sl (.sl AA) T3,.sl AA A3]] (.var 0 [.int .i64 0]) (.AF [(true,[.sl (.sl AA) T,.sl AA A,.sl (.sl AA) o,.sl AA n,.sl (.sl AA) f,.sl AA a]),(false,[.int .i64 0])]):=by
 by_cases m:x2=0
 ·exact dY F h i B u g v r s t m fun e=>C ⟨m,e⟩
 exact dZ F h i B u g v r s t m
theorem cX {TT:List (List Rat)->Prop} {w:List (List Rat)} {R b c M q p k k':Nat} (F:Fm TT w R b c M q p) {T1 T2:List LR} {A1 A2:LR} {x1 y1:Re} (a:Vm TT w b k k' T1 A1 T2 A2 x1 y1) (h:k+c+1<=M) (i:k'+c+1<=M):∃A,Vm TT w b k' k T2 A2 T1 A y1 (-x1)/\CF 67 [.agg [.sl (.sl AA) T1,.sl AA A1,.sl (.sl AA) T2,.sl AA A2]] (.agg [.sl (.sl AA) T2,.sl AA A2,.sl (.sl AA) T1,.sl AA A]):=by
 obtain⟨A5,f,d,_⟩:=Hk F a.x h;refine⟨A5,⟨a.y,f⟩,?_⟩;refine bj Tryz.func67 (by kernel_rfl) rfl fun E g=>?_
 conv=>cbv
 refine cL g d ⟨t2,trivial⟩ ?_;try conv=>cbv
 refine⟨fun _=>Et (by kernel_rfl),?_⟩;exact fA ⟨⟨rfl,rfl,rfl,rfl,rfl,trivial⟩,trivial⟩ rfl (by simp)
theorem cS {T1 T2 T3:List LR} {A1 A2 A3:LR}:CF 100 [.agg [.sl (.sl AA) T1,.sl AA A1,.sl (.sl AA) T2,.sl AA A2,.sl (.sl AA) T3,.sl AA A3]] (.agg [.sl (.sl AA) T1,.sl AA A1,.sl (.sl AA) T2,.sl AA A2]):=by
 refine bj Tryz.func100 (by kernel_rfl) rfl fun E a=>?_
 conv=>cbv
 exact fA ⟨⟨rfl,rfl,rfl,rfl,rfl,trivial⟩,trivial⟩ rfl (by simp)
theorem cY {TT:List (List Rat)->Prop} {w:List (List Rat)} {R b c M q p k k' l l':Nat} (F:Fm TT w R b c M q p) {T1 T2 T3 T4:List LR} {A1 A2 A3 A4:LR} {x1 y1 x2 y2:Re} (v:Vm TT w b k k' T1 A1 T2 A2 x1 y1) (K:Vm TT w b l l' T3 A3 T4 A4 x2 y2) (W:2*k+4*c+3<=M) (t:2*k'+4*c+3<=M) (X:2*l+4*c+3<=M) (u:2*l'+4*c+3<=M) (J:¬(x1=x2/\y1=y2)) {d:Nat} (U:q*(l+k+1)+p<=d) (s:q*(l'+k'+1)+p<=d) (V:d+c+1<=M) (Y:2*k+2*k'+l+l'+c+6<=M):∃T A G B g a,bh TT w b (l+k+d+2) (2*k+2*k'+l+l'+d+6) T A G B g a (un (y2-y1)) (-(x2-x1)*Dk (fs (y2-y1) (-(x2-x1)))) ((x1*(y2-y1)+y1* -(x2-x1))*Dk (fs (y2-y1) (-(x2-x1))))/\CF 29 [.agg [.sl (.sl AA) T1,.sl AA A1,.sl (.sl AA) T2,.sl AA A2],.agg [.sl (.sl AA) T3,.sl AA A3,.sl (.sl AA) T4,.sl AA A4]] (.AF [(true,[.sl (.sl AA) T,.sl AA A,.sl (.sl AA) G,.sl AA B,.sl (.sl AA) g,.sl AA a]),(false,[.int .i64 0])]):=by
 obtain⟨T5,A5,n,m,Q,N⟩:=bJ F K v (by omega) (by omega) (by omega) (by omega);obtain⟨L,S,O⟩:=cX F Q (by omega) (by omega);obtain⟨H,C,I,D,i,f,o,P⟩:=cP F v S s U V (by omega) (fun h=>J ⟨by grind,by grind⟩);refine⟨H,C,I,D,i,f,⟨o.x,o.y.mono (by omega),o.z.mono (by omega)⟩,?_⟩;refine bj Tryz.func29 (by kernel_rfl) rfl fun E j=>?_
 conv=>cbv
 refine cL (r:= .one (.bool false)) j (bF F v K W t X u (e:=false) ⟨fun h=>(by cases h),fun h=>absurd h J⟩) ⟨t4,t4,trivial⟩ ?_;try conv=>cbv
 refine cL j N ⟨t4,t4,trivial⟩ ?_;try conv=>cbv
 refine .inr (.inr (.inr (.inl ⟨12,.var 1 [.int .i64 0],[.one (.Am 0 0 0),.agg [.sl (.sl AA) T5,.sl AA A5,.sl (.sl AA) n,.sl AA m],.one (.int .i64 0)],.agg [.sl (.sl AA) T5,.sl AA A5,.sl (.sl AA) n,.sl AA m],fun _=>⟨rfl,⟨⟨⟨rfl,rfl⟩,rfl⟩,t4,rfl,trivial⟩⟩,fun _=>E4 j (cD),?_⟩)));try conv=>cbv
 refine cL j O ⟨t4,trivial⟩ ?_;try conv=>cbv
 refine .inr (.inr (.inr (.inl ⟨12,.var 1 [.int .i64 0],[.one (.Am 0 0 0),.agg [.sl (.sl AA) T1,.sl AA A1,.sl (.sl AA) T2,.sl AA A2],.agg [.sl (.sl AA) n,.sl AA m,.sl (.sl AA) T5,.sl AA L]],.AF [(true,[.sl (.sl AA) H,.sl AA C,.sl (.sl AA) I,.sl AA D,.sl (.sl AA) i,.sl AA f]),(false,[.int .i64 0])],fun _=>⟨rfl,⟨⟨⟨rfl,rfl⟩,rfl⟩,t4,t4,trivial⟩⟩,fun _=>E4 j (P),?_⟩)));try conv=>cbv
 refine⟨fun _=>Et (by kernel_rfl),?_⟩;exact fA ⟨⟨rfl,rfl,rfl,rfl,rfl,rfl,rfl,trivial⟩,t2,trivial⟩ rfl (by simp)
theorem du {TT:List (List Rat)->Prop} {w:List (List Rat)} {R b c M q p k k' l l':Nat} (F:Fm TT w R b c M q p) {T1 T2 T3 T4:List LR} {A1 A2 A3 A4:LR} {x1 y1 x2 y2:Re} (j:Vm TT w b k k' T1 A1 T2 A2 x1 y1) (m:Vm TT w b l l' T3 A3 T4 A4 x2 y2) (h:2*k+4*c+3<=M) (a:2*k'+4*c+3<=M) (i:2*l+4*c+3<=M) (d:2*l'+4*c+3<=M) (f:x1=x2/\y1=y2):CF 29 [.agg [.sl (.sl AA) T1,.sl AA A1,.sl (.sl AA) T2,.sl AA A2],.agg [.sl (.sl AA) T3,.sl AA A3,.sl (.sl AA) T4,.sl AA A4]] (.AF [(true,[.sl (.sl AA) (([]:List LR)),.sl AA (([]:LR)),.sl (.sl AA) (([]:List LR)),.sl AA (([]:LR)),.sl (.sl AA) (([]:List LR)),.sl AA (([]:LR))]),(false,[.int .i64 11])]):=by
 refine bj Tryz.func29 (by kernel_rfl) rfl fun E g=>?_
 conv=>cbv
 refine cL g (bF F j m h a i d (e:=true) ⟨fun _=>f,fun _=>rfl⟩) ⟨t4,t4,trivial⟩ ?_;try conv=>cbv
 exact fA ⟨⟨rfl,.inr (.inl ⟨_,rfl⟩),.inr (.inl ⟨_,rfl⟩),.inr (.inl ⟨_,rfl⟩),.inr (.inl ⟨_,rfl⟩),.inr (.inl ⟨_,rfl⟩),.inr (.inl ⟨_,rfl⟩),trivial⟩,t2,trivial⟩ rfl (by simp)
theorem dJ {TT:List (List Rat)->Prop} {w:List (List Rat)} {R b c M q p k k' l l':Nat} (F:Fm TT w R b c M q p) {T1 T2 T3 T4:List LR} {A1 A2 A3 A4:LR} {x1 y1 x2 y2:Re} (P:Vm TT w b k k' T1 A1 T2 A2 x1 y1) (G:Vm TT w b l l' T3 A3 T4 A4 x2 y2) (O:l+c+1<=M) (o:l'+c+1<=M) (D:¬(x2=0/\y2=0)) {d:Nat} (L:q*l+p<=d) (n:q*l'+p<=d) (N:d+c+1<=M) (Q:k+k'+l+l'+c+4<=M):∃T A v s g a,bh TT w b (l+d+1) (k+k'+l+l'+d+4) T A v s g a (un y2) (-x2*Dk (fs y2 (-x2))) ((x1*y2+y1* -x2)*Dk (fs y2 (-x2)))/\CF 30 [.agg [.sl (.sl AA) T1,.sl AA A1,.sl (.sl AA) T2,.sl AA A2],.agg [.sl (.sl AA) T3,.sl AA A3,.sl (.sl AA) T4,.sl AA A4]] (.AF [(true,[.sl (.sl AA) T,.sl AA A,.sl (.sl AA) v,.sl AA s,.sl (.sl AA) g,.sl AA a]),(false,[.int .i64 0])]):=by
 obtain⟨H,K,I⟩:=cX F G (by omega) (by omega);obtain⟨B,t,C,u,i,f,j,J⟩:=cP F P K n L N (by omega) (fun h=>D ⟨by grind,by grind⟩);refine⟨B,t,C,u,i,f,⟨j.x,j.y.mono (by omega),j.z.mono (by omega)⟩,?_⟩;refine bj Tryz.func30 (by kernel_rfl) rfl fun E m=>?_
 conv=>cbv
 refine cL (r:= .one (.bool false)) m (bK F G O o (e:=false) ⟨fun h=>(by cases h),fun h=>absurd h D⟩) ⟨t4,trivial⟩ ?_;try conv=>cbv
 refine cL m I ⟨t4,trivial⟩ ?_;try conv=>cbv
 refine .inr (.inr (.inr (.inl ⟨10,.var 1 [.int .i64 0],[.one (.Am 0 0 0),.agg [.sl (.sl AA) T1,.sl AA A1,.sl (.sl AA) T2,.sl AA A2],.agg [.sl (.sl AA) T4,.sl AA A4,.sl (.sl AA) T3,.sl AA H]],.AF [(true,[.sl (.sl AA) B,.sl AA t,.sl (.sl AA) C,.sl AA u,.sl (.sl AA) i,.sl AA f]),(false,[.int .i64 0])],fun _=>⟨rfl,⟨⟨⟨rfl,rfl⟩,rfl⟩,t4,t4,trivial⟩⟩,fun _=>E4 m (J),?_⟩)));try conv=>cbv
 refine⟨fun _=>Et (by kernel_rfl),?_⟩;exact fA ⟨⟨rfl,rfl,rfl,rfl,rfl,rfl,rfl,trivial⟩,t2,trivial⟩ rfl (by simp)
theorem di {TT:List (List Rat)->Prop} {w:List (List Rat)} {R b c M q p k k' l l':Nat} (F:Fm TT w R b c M q p) {T1 T2 T3 T4:List LR} {A1 A2 A3 A4:LR} {x1 y1 x2 y2:Re} (i:Vm TT w b k k' T1 A1 T2 A2 x1 y1) (h:Vm TT w b l l' T3 A3 T4 A4 x2 y2) (g:l+c+1<=M) (a:l'+c+1<=M) (d:x2=0/\y2=0):CF 30 [.agg [.sl (.sl AA) T1,.sl AA A1,.sl (.sl AA) T2,.sl AA A2],.agg [.sl (.sl AA) T3,.sl AA A3,.sl (.sl AA) T4,.sl AA A4]] (.AF [(true,[.sl (.sl AA) (([]:List LR)),.sl AA (([]:LR)),.sl (.sl AA) (([]:List LR)),.sl AA (([]:LR)),.sl (.sl AA) (([]:List LR)),.sl AA (([]:LR))]),(false,[.int .i64 6])]):=by
 refine bj Tryz.func30 (by kernel_rfl) rfl fun E f=>?_
 conv=>cbv
 refine cL f (bK F h g a (e:=true) ⟨fun _=>d,fun _=>rfl⟩) ⟨t4,trivial⟩ ?_;try conv=>cbv
 exact fA ⟨⟨rfl,.inr (.inl ⟨_,rfl⟩),.inr (.inl ⟨_,rfl⟩),.inr (.inl ⟨_,rfl⟩),.inr (.inl ⟨_,rfl⟩),.inr (.inl ⟨_,rfl⟩),.inr (.inl ⟨_,rfl⟩),trivial⟩,t2,trivial⟩ rfl (by simp)
theorem cw {TT:List (List Rat)->Prop} {w:List (List Rat)} {R b c M q p k k' l l':Nat} (F:Fm TT w R b c M q p) {T1 T2 T3 T4:List LR} {A1 A2 A3 A4:LR} {x1 y1 x2 y2:Re} (O:Vm TT w b k k' T1 A1 T2 A2 x1 y1) (P:Vm TT w b l l' T3 A3 T4 A4 x2 y2) (hl:l+c+1<=M) (u:l'+c+1<=M) (N:¬(x2=0/\y2=0)) {d:Nat} (hd:q*l+p<=d) (t:q*l'+p<=d) (hi:d+c+1<=M) (h1:k+k'+l+l'+c+4<=M):∃T A H v j f,bh TT w b (l+d+1) (k+k'+l+l'+d+4) T A H v j f (un (-y2)) (x2*Dk (fs (-y2) x2)) ((-y2*x1+x2*y1)*Dk (fs (-y2) x2))/\CF 31 [.agg [.sl (.sl AA) T1,.sl AA A1,.sl (.sl AA) T2,.sl AA A2],.agg [.sl (.sl AA) T3,.sl AA A3,.sl (.sl AA) T4,.sl AA A4]] (.AF [(true,[.sl (.sl AA) T,.sl AA A,.sl (.sl AA) H,.sl AA v,.sl (.sl AA) j,.sl AA f]),(false,[.int .i64 0])]):=by
 obtain⟨A5,o,Q⟩:=bO F P (by omega) (by omega);obtain⟨I,B,X,S⟩:=bn F o.x O.x (by omega) (by omega);obtain⟨J,C,Y,U⟩:=bn F o.y O.y (by omega) (by omega);obtain⟨K,D,Z,V⟩:=cM F X Y (by omega) (by omega);obtain⟨L,G,m,g,n,i,s,W⟩:=dD F o.x o.y Z t hd hi (by omega) (by omega) (by omega) (fun h=>N ⟨by grind,by grind⟩);refine⟨L,G,m,g,n,i,⟨s.x,s.y.mono (by omega),s.z.mono (by omega)⟩,?_⟩;refine bj Tryz.func31 (by kernel_rfl) rfl fun E a=>?_
 conv=>cbv
 refine cL (r:= .one (.bool false)) a (bW F P hl u (e:=false) ⟨fun h=>(by cases h),fun h=>absurd h N⟩) ⟨t4,trivial⟩ ?_;try conv=>cbv
 refine cL a Q ⟨t4,trivial⟩ ?_;try conv=>cbv
 refine .inr (.inr (.inr (.inl ⟨12,.var 1 [.int .i64 0],[.one (.Am 0 0 0),.agg [.sl (.sl AA) T4,.sl AA A5],.agg [.sl (.sl AA) T1,.sl AA A1]],.agg [.sl (.sl AA) I,.sl AA B],fun _=>⟨rfl,⟨⟨⟨rfl,rfl⟩,rfl⟩,t2,t2,trivial⟩⟩,fun _=>E4 a (S),?_⟩)));try conv=>cbv
 refine .inr (.inr (.inr (.inl ⟨12,.var 1 [.int .i64 0],[.one (.Am 0 0 0),.agg [.sl (.sl AA) T3,.sl AA A3],.agg [.sl (.sl AA) T2,.sl AA A2]],.agg [.sl (.sl AA) J,.sl AA C],fun _=>⟨rfl,⟨⟨⟨rfl,rfl⟩,rfl⟩,t2,t2,trivial⟩⟩,fun _=>E4 a (U),?_⟩)));try conv=>cbv
 refine .inr (.inr (.inr (.inl ⟨12,.var 1 [.int .i64 0],[.one (.Am 0 0 0),.agg [.sl (.sl AA) I,.sl AA B],.agg [.sl (.sl AA) J,.sl AA C]],.agg [.sl (.sl AA) K,.sl AA D],fun _=>⟨rfl,⟨⟨⟨rfl,rfl⟩,rfl⟩,t2,t2,trivial⟩⟩,fun _=>E4 a (V),?_⟩)));try conv=>cbv
 refine .inr (.inr (.inr (.inl ⟨12,.var 1 [.int .i64 0],[.one (.Am 0 0 0),.agg [.sl (.sl AA) T4,.sl AA A5],.agg [.sl (.sl AA) T3,.sl AA A3],.agg [.sl (.sl AA) K,.sl AA D]],.AF [(true,[.sl (.sl AA) L,.sl AA G,.sl (.sl AA) m,.sl AA g,.sl (.sl AA) n,.sl AA i]),(false,[.int .i64 0])],fun _=>⟨rfl,⟨⟨⟨rfl,rfl⟩,rfl⟩,t2,t2,t2,trivial⟩⟩,fun _=>E4 a (W),?_⟩)));try conv=>cbv
 refine⟨fun _=>Et (by kernel_rfl),?_⟩;exact fA ⟨⟨rfl,rfl,rfl,rfl,rfl,rfl,rfl,trivial⟩,t2,trivial⟩ rfl (by simp)
theorem dy {TT:List (List Rat)->Prop} {w:List (List Rat)} {R b c M q p k k' l l':Nat} (F:Fm TT w R b c M q p) {T1 T2 T3 T4:List LR} {A1 A2 A3 A4:LR} {x1 y1 x2 y2:Re} (i:Vm TT w b k k' T1 A1 T2 A2 x1 y1) (h:Vm TT w b l l' T3 A3 T4 A4 x2 y2) (g:l+c+1<=M) (a:l'+c+1<=M) (d:x2=0/\y2=0):CF 31 [.agg [.sl (.sl AA) T1,.sl AA A1,.sl (.sl AA) T2,.sl AA A2],.agg [.sl (.sl AA) T3,.sl AA A3,.sl (.sl AA) T4,.sl AA A4]] (.AF [(true,[.sl (.sl AA) (([]:List LR)),.sl AA (([]:LR)),.sl (.sl AA) (([]:List LR)),.sl AA (([]:LR)),.sl (.sl AA) (([]:List LR)),.sl AA (([]:LR))]),(false,[.int .i64 6])]):=by
 refine bj Tryz.func31 (by kernel_rfl) rfl fun E f=>?_
 conv=>cbv
 refine cL f (bW F h g a (e:=true) ⟨fun _=>d,fun _=>rfl⟩) ⟨t4,trivial⟩ ?_;try conv=>cbv
 exact fA ⟨⟨rfl,.inr (.inl ⟨_,rfl⟩),.inr (.inl ⟨_,rfl⟩),.inr (.inl ⟨_,rfl⟩),.inr (.inl ⟨_,rfl⟩),.inr (.inl ⟨_,rfl⟩),.inr (.inl ⟨_,rfl⟩),trivial⟩,t2,trivial⟩ rfl (by simp)
theorem eF {TT:List (List Rat)->Prop} {w:List (List Rat)} {R b c M q p k k' l l':Nat} (F:Fm TT w R b c M q p) {T1 T2 T3 T4:List LR} {A1 A2 A3 A4:LR} {x1 y1 x2 y2:Re} (u:Vm TT w b k k' T1 A1 T2 A2 x1 y1) (D:Vm TT w b l l' T3 A3 T4 A4 x2 y2) (Q:2*k+4*c+3<=M) (s:2*k'+4*c+3<=M) (S:2*l+4*c+3<=M) (t:2*l'+4*c+3<=M) (C:¬(x1=x2/\y1=y2)) {d:Nat} (O:q*(l+k+1)+p<=d) (o:q*(l'+k'+1)+p<=d) (P:d+c+1<=M) (X:2*k+2*k'+l+l'+c+6<=M):∃T A B v f a,bh TT w b (l+k+d+2) (2*k+2*k'+l+l'+d+6) T A B v f a (un (-(y2+ -y1))) ((x2+ -x1)*Dk (fs (-(y2+ -y1)) (x2+ -x1))) ((-(y2+ -y1)*x1+(x2+ -x1)*y1)*Dk (fs (-(y2+ -y1)) (x2+ -x1)))/\CF 19 [.agg [.sl (.sl AA) T1,.sl AA A1,.sl (.sl AA) T2,.sl AA A2],.agg [.sl (.sl AA) T3,.sl AA A3,.sl (.sl AA) T4,.sl AA A4]] (.AF [(true,[.sl (.sl AA) T,.sl AA A,.sl (.sl AA) B,.sl AA v,.sl (.sl AA) f,.sl AA a]),(false,[.int .i64 0])]):=by
 obtain⟨T5,A5,W,V,N,K⟩:=bU F D u (by omega) (by omega) (by omega) (by omega);obtain⟨I,G,J,H,i,g,m,L⟩:=cw F u N (by omega) (by omega) (fun h=>C ⟨by grind,by grind⟩) O o P (by omega);refine⟨I,G,J,H,i,g,⟨m.x,m.y.mono (by omega),m.z.mono (by omega)⟩,?_⟩;refine bj Tryz.func19 (by kernel_rfl) rfl fun E n=>?_
 conv=>cbv
 refine cL (r:= .one (.bool false)) n (bM F u D Q s S t (e:=false) ⟨fun h=>(by cases h),fun h=>absurd h C⟩) ⟨t4,t4,trivial⟩ ?_;try conv=>cbv
 refine cL n K ⟨t4,t4,trivial⟩ ?_;try conv=>cbv
 intro U j;cases j.trans (show _=false by decide);conv=>cbv
 refine cL n L ⟨t4,t4,trivial⟩ ?_;try conv=>cbv
 exact fA ⟨⟨rfl,rfl,rfl,rfl,rfl,rfl,rfl,trivial⟩,t2,trivial⟩ rfl (by simp)
theorem eH {TT:List (List Rat)->Prop} {w:List (List Rat)} {R b c M q p k k' l l':Nat} (F:Fm TT w R b c M q p) {T1 T2 T3 T4:List LR} {A1 A2 A3 A4:LR} {x1 y1 x2 y2:Re} (j:Vm TT w b k k' T1 A1 T2 A2 x1 y1) (m:Vm TT w b l l' T3 A3 T4 A4 x2 y2) (h:2*k+4*c+3<=M) (a:2*k'+4*c+3<=M) (i:2*l+4*c+3<=M) (d:2*l'+4*c+3<=M) (f:x1=x2/\y1=y2):CF 19 [.agg [.sl (.sl AA) T1,.sl AA A1,.sl (.sl AA) T2,.sl AA A2],.agg [.sl (.sl AA) T3,.sl AA A3,.sl (.sl AA) T4,.sl AA A4]] (.AF [(true,[.sl (.sl AA) (([]:List LR)),.sl AA (([]:LR)),.sl (.sl AA) (([]:List LR)),.sl AA (([]:LR)),.sl (.sl AA) (([]:List LR)),.sl AA (([]:LR))]),(false,[.int .i64 11])]):=by
 refine bj Tryz.func19 (by kernel_rfl) rfl fun E g=>?_
 conv=>cbv
 refine cL g (bM F j m h a i d (e:=true) ⟨fun _=>f,fun _=>rfl⟩) ⟨t4,t4,trivial⟩ ?_;try conv=>cbv
 exact fA ⟨⟨rfl,.inr (.inl ⟨_,rfl⟩),.inr (.inl ⟨_,rfl⟩),.inr (.inl ⟨_,rfl⟩),.inr (.inl ⟨_,rfl⟩),.inr (.inl ⟨_,rfl⟩),.inr (.inl ⟨_,rfl⟩),trivial⟩,t2,trivial⟩ rfl (by simp)
theorem dK {TT:List (List Rat)->Prop} {w:List (List Rat)} {R b c M q p k k' l l':Nat} (F:Fm TT w R b c M q p) {T1 T2 T3 T4 T5 i:List LR} {A1 A2 A3 A4 A5 g:LR} {x y z x' y' z':Re} (m:bh TT w b k k' T1 A1 T2 A2 T3 A3 x y z) (hm:bh TT w b l l' T4 A4 T5 A5 i g x' y' z') (u:2*k+4*c+3<=M) (s:2*l+4*c+3<=M) (t:4*c+5<=M) {e:Bool} (he:e=true↔x=x'/\y=y'):CF 44 [.agg [.sl (.sl AA) T1,.sl AA A1,.sl (.sl AA) T2,.sl AA A2,.sl (.sl AA) T3,.sl AA A3],.agg [.sl (.sl AA) T4,.sl AA A4,.sl (.sl AA) T5,.sl AA A5,.sl (.sl AA) i,.sl AA g]] (.one (.bool e)):=by
 obtain⟨r,d,n,_⟩:=KW F m.x hm.x (by omega) (by omega);obtain⟨o,a,f,_⟩:=KW F m.y hm.y (by omega) (by omega);refine bj Tryz.func44 (by kernel_rfl) rfl fun E j=>?_
 conv=>cbv
 refine cL j n ⟨t2,t2,trivial⟩ ?_;try conv=>cbv
 cases r <;> conv=>cbv
 ·exact fA ⟨⟨rfl,congrArg _ (by cases e with | false=>rfl | true=>exact absurd (d.2 (he.1 rfl).1) (by simp)),trivial⟩,trivial⟩ rfl (by simp)
 refine cL j f ⟨t2,t2,trivial⟩ ?_;try conv=>cbv
 exact fA ⟨⟨rfl,congrArg _ (by rw[Bool.eq_iff_iff,a,he];exact⟨fun h=>h.2,fun h=>⟨d.1 rfl,h⟩⟩),trivial⟩,trivial⟩ rfl (by simp)
theorem cU {TT:List (List Rat)->Prop} {w:List (List Rat)} {R b c M q p k k' l l':Nat} (F:Fm TT w R b c M q p) {T1 T2 T3 T4 T5 j:List LR} {A1 A2 A3 A4 A5 i:LR} {x y z x' y' z':Re} (n:bh TT w b k k' T1 A1 T2 A2 T3 A3 x y z) (hm:bh TT w b l l' T4 A4 T5 A5 j i x' y' z') (t:2*k+4*c+3<=M) (g:2*l+4*c+3<=M) (u:2*k'+4*c+3<=M) (v:2*l'+4*c+3<=M) (s:4*c+5<=M) {e:Bool} (he:e=true↔(x=x'/\y=y')/\z=z'):CF 42 [.agg [.sl (.sl AA) T1,.sl AA A1,.sl (.sl AA) T2,.sl AA A2,.sl (.sl AA) T3,.sl AA A3],.agg [.sl (.sl AA) T4,.sl AA A4,.sl (.sl AA) T5,.sl AA A5,.sl (.sl AA) j,.sl AA i]] (.one (.bool e)):=by
 obtain⟨r,a⟩:=CY (x=x'/\y=y');obtain⟨o,d,f,_⟩:=KW F n.z hm.z (by omega) (by omega);refine bj Tryz.func42 (by kernel_rfl) rfl fun E m=>?_
 conv=>cbv
 refine cL m (dK F n hm t g s a) ⟨⟨rfl,rfl,rfl,rfl,rfl,rfl,trivial⟩,⟨rfl,rfl,rfl,rfl,rfl,rfl,trivial⟩,trivial⟩ ?_;try conv=>cbv
 cases r <;> conv=>cbv
 ·exact fA ⟨⟨rfl,congrArg _ (by cases e with | false=>rfl | true=>exact absurd (a.2 (he.1 rfl).1) (by simp)),trivial⟩,trivial⟩ rfl (by simp)
 refine cL m f ⟨t2,t2,trivial⟩ ?_;try conv=>cbv
 exact fA ⟨⟨rfl,congrArg _ (by rw[Bool.eq_iff_iff,d,he];exact⟨fun h=>h.2,fun h=>⟨a.1 rfl,h⟩⟩),trivial⟩,trivial⟩ rfl (by simp)
theorem dQ {TT:List (List Rat)->Prop} {w:List (List Rat)} {R b c M q p k k' l l':Nat} (F:Fm TT w R b c M q p) {T1 T2 T3 T4 T5 i:List LR} {A1 A2 A3 A4 A5 g:LR} {x y z x' y' z':Re} (m:bh TT w b k k' T1 A1 T2 A2 T3 A3 x y z) (hm:bh TT w b l l' T4 A4 T5 A5 i g x' y' z') (u:2*k+4*c+3<=M) (s:2*l+4*c+3<=M) (t:4*c+5<=M) {e:Bool} (he:e=true↔x=x'/\y=y'):CF 45 [.agg [.sl (.sl AA) T1,.sl AA A1,.sl (.sl AA) T2,.sl AA A2,.sl (.sl AA) T3,.sl AA A3],.agg [.sl (.sl AA) T4,.sl AA A4,.sl (.sl AA) T5,.sl AA A5,.sl (.sl AA) i,.sl AA g]] (.one (.bool e)):=by
 obtain⟨r,d,_,n⟩:=KW F m.x hm.x (by omega) (by omega);obtain⟨o,a,_,f⟩:=KW F m.y hm.y (by omega) (by omega);refine bj Tryz.func45 (by kernel_rfl) rfl fun E j=>?_
 conv=>cbv
 refine cL j n ⟨t2,t2,trivial⟩ ?_;try conv=>cbv
 cases r <;> conv=>cbv
 ·exact fA ⟨⟨rfl,congrArg _ (by cases e with | false=>rfl | true=>exact absurd (d.2 (he.1 rfl).1) (by simp)),trivial⟩,trivial⟩ rfl (by simp)
 refine cL j f ⟨t2,t2,trivial⟩ ?_;try conv=>cbv
 exact fA ⟨⟨rfl,congrArg _ (by rw[Bool.eq_iff_iff,a,he];exact⟨fun h=>h.2,fun h=>⟨d.1 rfl,h⟩⟩),trivial⟩,trivial⟩ rfl (by simp)
theorem dP {TT:List (List Rat)->Prop} {w:List (List Rat)} {R b c M q p k k' l l':Nat} (F:Fm TT w R b c M q p) {T1 T2 T3 T4 T5 j:List LR} {A1 A2 A3 A4 A5 i:LR} {x y z x' y' z':Re} (n:bh TT w b k k' T1 A1 T2 A2 T3 A3 x y z) (hm:bh TT w b l l' T4 A4 T5 A5 j i x' y' z') (t:2*k+4*c+3<=M) (g:2*l+4*c+3<=M) (u:2*k'+4*c+3<=M) (v:2*l'+4*c+3<=M) (s:4*c+5<=M) {e:Bool} (he:e=true↔(x=x'/\y=y')/\z=z'):CF 46 [.agg [.sl (.sl AA) T1,.sl AA A1,.sl (.sl AA) T2,.sl AA A2,.sl (.sl AA) T3,.sl AA A3],.agg [.sl (.sl AA) T4,.sl AA A4,.sl (.sl AA) T5,.sl AA A5,.sl (.sl AA) j,.sl AA i]] (.one (.bool e)):=by
 obtain⟨r,a⟩:=CY (x=x'/\y=y');obtain⟨o,d,_,f⟩:=KW F n.z hm.z (by omega) (by omega);refine bj Tryz.func46 (by kernel_rfl) rfl fun E m=>?_
 conv=>cbv
 refine cL m (dQ F n hm t g s a) ⟨⟨rfl,rfl,rfl,rfl,rfl,rfl,trivial⟩,⟨rfl,rfl,rfl,rfl,rfl,rfl,trivial⟩,trivial⟩ ?_;try conv=>cbv
 cases r <;> conv=>cbv
 ·exact fA ⟨⟨rfl,congrArg _ (by cases e with | false=>rfl | true=>exact absurd (a.2 (he.1 rfl).1) (by simp)),trivial⟩,trivial⟩ rfl (by simp)
 refine cL m f ⟨t2,t2,trivial⟩ ?_;try conv=>cbv
 exact fA ⟨⟨rfl,congrArg _ (by rw[Bool.eq_iff_iff,d,he];exact⟨fun h=>h.2,fun h=>⟨a.1 rfl,h⟩⟩),trivial⟩,trivial⟩ rfl (by simp)
theorem eO {TT:List (List Rat)->Prop} {w:List (List Rat)} {R b c M q p k k':Nat} (F:Fm TT w R b c M q p) {T1 T2 T3:List LR} {A1 A2 A3:LR} {x y z:Re} (i:bh TT w b k k' T1 A1 T2 A2 T3 A3 x y z) (K:2*k+4*c+3<=M) (v:k'+c+1<=M) (J:4*c+5<=M) (B:x=1):CF 75 [.agg [.sl (.sl AA) T1,.sl AA A1,.sl (.sl AA) T2,.sl AA A2,.sl (.sl AA) T3,.sl AA A3]] (.one (.bool true)):=by
 obtain⟨I,j,_,o⟩:=KX F i.x (by omega);obtain⟨n,a⟩:=Bu (em [] (Re.ofRat ((1:Int):Rat)));have u:Nm TT w b 1 [] n (Re.ofRat ((1:Int):Rat)):=a ▸ Hi F (by omega) (HF (by decide +kernel) F.hb);obtain⟨C,g,_,r⟩:=KW F i.x u (by omega) (by omega);refine bj Tryz.func75 (by kernel_rfl) rfl fun E d=>?_
 conv=>cbv
 refine cL d (RP F i.x (by omega)) ⟨t2,trivial⟩ ?_;try conv=>cbv
 intro L D;cases D.trans (rfl:_=false);conv=>cbv
 refine cL d (RP F i.y (by omega)) ⟨t2,trivial⟩ ?_;try conv=>cbv
 intro G s;cases s.trans (rfl:_=false);conv=>cbv
 refine cL d (RP F i.z v) ⟨t2,trivial⟩ ?_;try conv=>cbv
 intro H t;cases t.trans (rfl:_=false);conv=>cbv
 refine cL d o ⟨t2,trivial⟩ ?_;try conv=>cbv
 intro A f;conv=>cbv
 refine .inr ?_;cases A <;> conv=>cbv
 ·have m:=Ab f;refine cL d (Um (by decide) a) t1 ?_;try conv=>cbv
  refine cL d r ⟨t2,t2,trivial⟩ ?_;try conv=>cbv
  refine⟨fun _=>Et (by kernel_rfl),?_⟩;exact fA ⟨⟨rfl,congrArg _ ((g.2 B).symm),trivial⟩,trivial⟩ rfl (by simp)
 have m:=Ad f;exact absurd (j.symm.trans m) (by rw[B];exact fun h=>cj (Ez.1 h))
theorem eN {TT:List (List Rat)->Prop} {w:List (List Rat)} {R b c M q p k k':Nat} (F:Fm TT w R b c M q p) {T1 T2 T3:List LR} {A1 A2 A3:LR} {x y z:Re} (h:bh TT w b k k' T1 A1 T2 A2 T3 A3 x y z) (K:2*k+4*c+3<=M) (u:k'+c+1<=M) (J:4*c+5<=M) (C:x=0) (D:y=1):CF 75 [.agg [.sl (.sl AA) T1,.sl AA A1,.sl (.sl AA) T2,.sl AA A2,.sl (.sl AA) T3,.sl AA A3]] (.one (.bool true)):=by
 obtain⟨I,i,_,n⟩:=KX F h.x (by omega);obtain⟨m,a⟩:=Bu (em [] (Re.ofRat ((1:Int):Rat)));have t:Nm TT w b 1 [] m (Re.ofRat ((1:Int):Rat)):=a ▸ Hi F (by omega) (HF (by decide +kernel) F.hb);obtain⟨A,g,_,o⟩:=KW F h.y t (by omega) (by omega);refine bj Tryz.func75 (by kernel_rfl) rfl fun E d=>?_
 conv=>cbv
 refine cL d (RP F h.x (by omega)) ⟨t2,trivial⟩ ?_;try conv=>cbv
 intro L B;cases B.trans (rfl:_=false);conv=>cbv
 refine cL d (RP F h.y (by omega)) ⟨t2,trivial⟩ ?_;try conv=>cbv
 intro G r;cases r.trans (rfl:_=false);conv=>cbv
 refine cL d (RP F h.z u) ⟨t2,trivial⟩ ?_;try conv=>cbv
 intro H s;cases s.trans (rfl:_=false);conv=>cbv
 refine cL d n ⟨t2,trivial⟩ ?_;try conv=>cbv
 intro v f;conv=>cbv
 refine .inr ?_;cases v <;> conv=>cbv
 ·have j:=Ab f;exact absurd (i.trans (by rw[C];exact E0)) j
 have j:=Ad f;refine cL d (Um (by decide) a) t1 ?_;try conv=>cbv
 refine cL d o ⟨t2,t2,trivial⟩ ?_;try conv=>cbv
 refine⟨fun _=>Et (by kernel_rfl),?_⟩;exact fA ⟨⟨rfl,congrArg _ ((g.2 D).symm),trivial⟩,trivial⟩ rfl (by simp)
theorem eK {TT:List (List Rat)->Prop} {w:List (List Rat)} {R b c M q p k k':Nat} (F:Fm TT w R b c M q p) {T1 T2 T3:List LR} {A1 A2 A3:LR} {x y z:Re} (g:bh TT w b k k' T1 A1 T2 A2 T3 A3 x y z) (f:2*k+4*c+3<=M) (a:k'+c+1<=M) (d:4*c+5<=M) (h:x=1\/x=0/\y=1):CF 75 [.agg [.sl (.sl AA) T1,.sl AA A1,.sl (.sl AA) T2,.sl AA A2,.sl (.sl AA) T3,.sl AA A3]] (.one (.bool true)):=by
 rcases h with h |⟨h,h'⟩
 ·exact eO F g f a d h
 exact eN F g f a d h h'
end Go.Abs
