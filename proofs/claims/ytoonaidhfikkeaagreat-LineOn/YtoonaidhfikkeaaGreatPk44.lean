/- Part 45 of a proof. Conditions: each theorem's own. -/
import Derived.Test.YtoonaidhfikkeaaGreatPk43
set_option linter.all false
set_option maxHeartbeats 8000000
open Go.Proofs
namespace Go.Abs
open Go.RowKit
structure Vm (TT:List (List Rat)->Prop) (w:List (List Rat)) (b k k':Nat) (T1:List LR) (A1:LR) (T2:List LR) (A2:LR) (x y:Re):Prop where
 x:Nm TT w b k T1 A1 x
 y:Nm TT w b k' T2 A2 y
section
variable {TT:List (List Rat)->Prop} {w:List (List Rat)} {R b c M q p k k' l l':Nat} {T1 T2:List LR} {A1 A2:LR} {x y x' y':Re}
theorem Vm.mono (h:Vm TT w b k k' T1 A1 T2 A2 x y) (d:k<=l) (a:k'<=l'):Vm TT w b l l' T1 A1 T2 A2 x y:=⟨h.x.mono d,h.y.mono a⟩
theorem Vm.cast (h:Vm TT w b k k' T1 A1 T2 A2 x y) (e:x=x') (f:y=y'):Vm TT w b k k' T1 A1 T2 A2 x' y':=e ▸ f ▸ h
theorem Hi (F:Fm TT w R b c M q p) (hM:1<=M) {r:Rat} (h:Bd b [r]):Nm TT w b 1 [] (em [] (Re.ofRat r)) (Re.ofRat r):=by
 have G:=F.g hM (Nat.le_refl 1);exact⟨[],G.nil,rfl,rfl,En r [],by rw[Nat.one_mul];exact El.rat (G.AL F.top).red h⟩
theorem HF {r:Rat} (h:Bq r) (hb:64<=b):Bd b [r]:=(Fe (a:=[r]) (fun z d=>by rw[List.mem_singleton.1 d];exact h)).mono hb
end
theorem Jc {g:FuncId} {T1 T2 m n o r:List LR} {A1 A2 f h i j:LR} (t:CF g [.agg [.sl (.sl AA) T1,.sl AA A1],.agg [.sl (.sl AA) m,.sl AA f]] (.AF [(true,[.sl (.sl AA) o,.sl AA i]),(false,[.int .i64 0])])) (u:CF g [.agg [.sl (.sl AA) T2,.sl AA A2],.agg [.sl (.sl AA) n,.sl AA h]] (.AF [(true,[.sl (.sl AA) r,.sl AA j]),(false,[.int .i64 0])])):CF 121 [.agg [.sl (.sl AA) T1,.sl AA A1,.sl (.sl AA) T2,.sl AA A2],.agg [.sl (.sl AA) m,.sl AA f,.sl (.sl AA) n,.sl AA h],.one (.fn g)] (.AF [(true,[.sl (.sl AA) o,.sl AA i,.sl (.sl AA) r,.sl AA j]),(false,[.int .i64 0])]):=by
 refine AE Tryz.func121 (by kernel_rfl) rfl fun E s=>?_
 conv=>cbv
 refine cL s t ⟨t2,t2,trivial⟩ ?_;try conv=>cbv
 intro v a;cases a.trans (show _=false by decide);conv=>cbv
 refine cL s u ⟨t2,t2,trivial⟩ ?_;try conv=>cbv
 intro w d;cases d.trans (show _=false by decide);conv=>cbv
 exact fA ⟨⟨rfl,rfl,rfl,rfl,rfl,trivial⟩,t2,trivial⟩ rfl (by simp)
theorem aD {TT:List (List Rat)->Prop} {w:List (List Rat)} {R b c M q p k k' l l':Nat} (F:Fm TT w R b c M q p) {T1 T2 h i:List LR} {A1 A2 d f:LR} {n r o s:Re} (j:Vm TT w b k k' T1 A1 T2 A2 n r) (m:Vm TT w b l l' h d i f o s) (K:k+c+1<=M) (I:k'+c+1<=M) (L:l+c+1<=M) (J:l'+c+1<=M):∃T A g a,Vm TT w b (k+l+1) (k'+l'+1) T A g a (n+o) (r+s)/\CF 64 [.agg [.sl (.sl AA) T1,.sl AA A1,.sl (.sl AA) T2,.sl AA A2],.agg [.sl (.sl AA) h,.sl AA d,.sl (.sl AA) i,.sl AA f]] (.AF [(true,[.sl (.sl AA) T,.sl AA A,.sl (.sl AA) g,.sl AA a]),(false,[.int .i64 0])]):=by
 obtain⟨v,t,D,B,_⟩:=Hj F j.x m.x (by omega) (by omega);obtain⟨z,u,G,C,_⟩:=Hj F j.y m.y (by omega) (by omega);refine⟨v,t,z,u,⟨D,G⟩,?_⟩;refine AE Tryz.func64 (by kernel_rfl) rfl fun E H=>?_
 conv=>cbv
 refine cL H (Jc B C) ⟨t4,t4,rfl,trivial⟩ ?_;try conv=>cbv
 exact fA ⟨⟨rfl,rfl,rfl,rfl,rfl,trivial⟩,t2,trivial⟩ rfl (by simp)
theorem bJ {TT:List (List Rat)->Prop} {w:List (List Rat)} {R b c M q p k k' l l':Nat} (F:Fm TT w R b c M q p) {T1 T2 h i:List LR} {A1 A2 d f:LR} {n r o s:Re} (j:Vm TT w b k k' T1 A1 T2 A2 n r) (m:Vm TT w b l l' h d i f o s) (K:k+c+1<=M) (I:k'+c+1<=M) (L:l+c+1<=M) (J:l'+c+1<=M):∃T A g a,Vm TT w b (k+l+1) (k'+l'+1) T A g a (n-o) (r-s)/\CF 58 [.agg [.sl (.sl AA) T1,.sl AA A1,.sl (.sl AA) T2,.sl AA A2],.agg [.sl (.sl AA) h,.sl AA d,.sl (.sl AA) i,.sl AA f]] (.AF [(true,[.sl (.sl AA) T,.sl AA A,.sl (.sl AA) g,.sl AA a]),(false,[.int .i64 0])]):=by
 obtain⟨v,t,D,B,_⟩:=RO F j.x m.x (by omega) (by omega);obtain⟨z,u,G,C,_⟩:=RO F j.y m.y (by omega) (by omega);refine⟨v,t,z,u,⟨D,G⟩,?_⟩;refine AE Tryz.func58 (by kernel_rfl) rfl fun E H=>?_
 conv=>cbv
 refine cL H (Jc B C) ⟨t4,t4,rfl,trivial⟩ ?_;try conv=>cbv
 exact fA ⟨⟨rfl,rfl,rfl,rfl,rfl,trivial⟩,t2,trivial⟩ rfl (by simp)
theorem aF {TT:List (List Rat)->Prop} {w:List (List Rat)} {R b c M q p k k' j:Nat} (F:Fm TT w R b c M q p) {T1 T2 g:List LR} {A1 A2 d:LR} {m o n:Re} (i:Vm TT w b k k' T1 A1 T2 A2 m o) (h:Nm TT w b j g d n) (H:k+c+1<=M) (G:k'+c+1<=M) (I:j+c+1<=M):∃T A f a,Vm TT w b (k+j+1) (k'+j+1) T A f a (m*n) (o*n)/\CF 65 [.agg [.sl (.sl AA) T1,.sl AA A1,.sl (.sl AA) T2,.sl AA A2],.agg [.sl (.sl AA) g,.sl AA d]] (.AF [(true,[.sl (.sl AA) T,.sl AA A,.sl (.sl AA) f,.sl AA a]),(false,[.int .i64 0])]):=by
 obtain⟨t,r,B,v,_⟩:=GL F i.x h (by omega) (by omega);obtain⟨u,s,C,z,_⟩:=GL F i.y h (by omega) (by omega);refine⟨t,r,u,s,⟨B,C⟩,?_⟩;refine AE Tryz.func65 (by kernel_rfl) rfl fun E D=>?_
 conv=>cbv
 refine cL D (Jc v z) ⟨t4,t4,rfl,trivial⟩ ?_;try conv=>cbv
 exact fA ⟨⟨rfl,rfl,rfl,rfl,rfl,trivial⟩,t2,trivial⟩ rfl (by simp)
theorem aL {TT:List (List Rat)->Prop} {w:List (List Rat)} {R b c M q p k:Nat} (F:Fm TT w R b c M q p) {T1:List LR} {A1:LR} {n:Re} (g:Nm TT w b k T1 A1 n) (f:k+c+1<=M):CF 129 [.agg [.sl (.sl AA) T1,.sl AA A1]] (.agg [.sl (.sl AA) T1,.sl AA A1]):=by
 obtain⟨o,j,i,_⟩:=Hk F g f;obtain⟨h,m,a,_⟩:=Hk F j f;have e:h=A1:=Nm.data m g (by grind);rw[e] at a;refine AE Tryz.func129 (by kernel_rfl) rfl fun E d=>?_
 conv=>cbv
 refine cL d i ⟨t2,trivial⟩ ?_;try conv=>cbv
 refine cL d a ⟨t2,trivial⟩ ?_;try conv=>cbv
 exact fA ⟨t3,trivial⟩ rfl (by simp)
theorem bG {TT:List (List Rat)->Prop} {w:List (List Rat)} {R b c M q p k k':Nat} (F:Fm TT w R b c M q p) {T1 T2:List LR} {A1 A2:LR} {g h:Re} (d:Vm TT w b k k' T1 A1 T2 A2 g h) (n:k+c+1<=M) (a:k'+c+1<=M):∃A,Vm TT w b k' k T2 A T1 A1 (-h) g/\CF 66 [.agg [.sl (.sl AA) T1,.sl AA A1,.sl (.sl AA) T2,.sl AA A2]] (.agg [.sl (.sl AA) T2,.sl AA A,.sl (.sl AA) T1,.sl AA A1]):=by
 obtain⟨i,m,j,_⟩:=Hk F d.y a;refine⟨i,⟨m,d.x⟩,?_⟩;refine AE Tryz.func66 (by kernel_rfl) rfl fun E f=>?_
 conv=>cbv
 refine cL f j ⟨t2,trivial⟩ ?_;try conv=>cbv
 refine cL f (aL F d.x n) ⟨t2,trivial⟩ ?_;try conv=>cbv
 refine⟨fun _=>Et (by kernel_rfl),?_⟩;exact fA ⟨⟨rfl,rfl,rfl,rfl,rfl,trivial⟩,trivial⟩ rfl (by simp)
theorem aE {TT:List (List Rat)->Prop} {w:List (List Rat)} {R b c M q p k k' l l':Nat} (F:Fm TT w R b c M q p) {T1 T2 g h:List LR} {A1 A2 d f:LR} {n r o s:Re} (j:Vm TT w b k k' T1 A1 T2 A2 n r) (m:Vm TT w b l l' g d h f o s) (O:k+l+c+2<=M) (H:k'+l'+c+2<=M):∃T A,Nm TT w b (k+k'+l+l'+3) T A (n*o+r*s)/\CF 99 [.agg [.sl (.sl AA) T1,.sl AA A1,.sl (.sl AA) T2,.sl AA A2],.agg [.sl (.sl AA) g,.sl AA d,.sl (.sl AA) h,.sl AA f]] (.AF [(true,[.sl (.sl AA) T,.sl AA A]),(false,[.int .i64 0])]):=by
 obtain⟨L,J,C,v,_⟩:=GL F j.x m.x (by omega) (by omega);obtain⟨N,K,D,z,_⟩:=GL F j.y m.y (by omega) (by omega);obtain⟨u,t,G,B,_⟩:=Hj F C D (by omega) (by omega);refine⟨u,t,G.mono (by omega),?_⟩;refine AE Tryz.func99 (by kernel_rfl) rfl fun E i=>?_
 conv=>cbv
 refine cL i (Jc v z) ⟨t4,t4,rfl,trivial⟩ ?_;try conv=>cbv
 intro I a;cases a.trans (show _=false by decide);conv=>cbv
 refine cL i B ⟨t2,t2,trivial⟩ ?_;try conv=>cbv
 exact fA ⟨t3,t2,trivial⟩ rfl (by simp)
theorem bI {TT:List (List Rat)->Prop} {w:List (List Rat)} {R b c M q p k k':Nat} (F:Fm TT w R b c M q p) {T1 T2:List LR} {A1 A2:LR} {a d:Re} (f:Vm TT w b k k' T1 A1 T2 A2 a d) (o:2*k+c+2<=M) (n:2*k'+c+2<=M):∃T A,Nm TT w b (2*k+2*k'+3) T A (a*a+d*d)/\CF 80 [.agg [.sl (.sl AA) T1,.sl AA A1,.sl (.sl AA) T2,.sl AA A2]] (.AF [(true,[.sl (.sl AA) T,.sl AA A]),(false,[.int .i64 0])]):=by
 obtain⟨h,g,j,i⟩:=aE F f f (by omega) (by omega);refine⟨h,g,j.mono (by omega),?_⟩;refine AE Tryz.func80 (by kernel_rfl) rfl fun E m=>?_
 conv=>cbv
 refine cL m i ⟨t4,t4,trivial⟩ ?_;try conv=>cbv
 exact fA ⟨t3,t2,trivial⟩ rfl (by simp)
theorem bH {TT:List (List Rat)->Prop} {w:List (List Rat)} {R b c M q p k k' l l':Nat} (F:Fm TT w R b c M q p) {T1 T2 m n:List LR} {A1 A2 h i:LR} {r t s u:Re} (O:Vm TT w b k k' T1 A1 T2 A2 r t) (P:Vm TT w b l l' m h n i s u) (hk:k+l+c+2<=M) (N:k'+l'+c+2<=M):∃T A j g,Vm TT w b (k+l+3) (k'+l'+3) T A j g ((r+s)*Re.ofRat (1/2)) ((t+u)*Re.ofRat (1/2))/\CF 89 [.agg [.sl (.sl AA) T1,.sl AA A1,.sl (.sl AA) T2,.sl AA A2],.agg [.sl (.sl AA) m,.sl AA h,.sl (.sl AA) n,.sl AA i]] (.AF [(true,[.sl (.sl AA) T,.sl AA A,.sl (.sl AA) j,.sl AA g]),(false,[.int .i64 0])]):=by
 obtain⟨X,Z,Y,fm,o⟩:=BD (1/2:Rat);have L:(1/2:Rat)=Rat.divInt 1 2:=by decide +kernel
 obtain⟨B,a⟩:=Bu (em [] (Re.ofRat (1/2)));have J:Nm TT w b 1 [] B (Re.ofRat (1/2)):=a ▸ Hi F (by omega) (HF (by decide +kernel) F.hb);obtain⟨V,S,W,U,K,H⟩:=aD F O P (by omega) (by omega) (by omega) (by omega);obtain⟨C,v,D,z,I,G⟩:=aF F K J (by omega) (by omega) (by omega);refine⟨C,v,D,z,I.mono (by omega) (by omega),?_⟩;refine AE Tryz.func89 (by kernel_rfl) rfl fun E d=>?_
 conv=>cbv
 refine cL d H ⟨t4,t4,trivial⟩ ?_;try conv=>cbv
 intro Q f;cases f.trans (show _=false by decide);conv=>cbv
 refine cL d (N8 (by decide) (by decide) (by decide) L o) t2 ?_;try conv=>cbv
 refine cL d (OE o (ZG (by decide +kernel:Bq (1/2:Rat))) a) ⟨t4,trivial⟩ ?_;try conv=>cbv
 refine cL d G ⟨t4,t2,trivial⟩ ?_;try conv=>cbv
 refine⟨fun _=>Et (by kernel_rfl),?_⟩;exact fA ⟨⟨rfl,rfl,rfl,rfl,rfl,trivial⟩,t2,trivial⟩ rfl (by simp)
theorem bF {TT:List (List Rat)->Prop} {w:List (List Rat)} {R b c M q p k k' l l':Nat} (F:Fm TT w R b c M q p) {T1 T2 j m:List LR} {A1 A2 g i:LR} {s u t v:Re} (o:Vm TT w b k k' T1 A1 T2 A2 s u) (r:Vm TT w b l l' j g m i t v) (G:2*k+4*c+3<=M) (C:2*k'+4*c+3<=M) (H:2*l+4*c+3<=M) (D:2*l'+4*c+3<=M) {e:Bool} (he:e=true↔s=t/\u=v):CF 53 [.agg [.sl (.sl AA) T1,.sl AA A1,.sl (.sl AA) T2,.sl AA A2],.agg [.sl (.sl AA) j,.sl AA g,.sl (.sl AA) m,.sl AA i]] (.one (.bool e)):=by
 obtain⟨B,d,z,_⟩:=KW F o.x r.x (by omega) (by omega);obtain⟨A,a,f,_⟩:=KW F o.y r.y (by omega) (by omega);refine AE Tryz.func53 (by kernel_rfl) rfl fun E n=>?_
 conv=>cbv
 refine cL n z ⟨t2,t2,trivial⟩ ?_;try conv=>cbv
 cases B <;> conv=>cbv
 ·exact fA ⟨⟨rfl,congrArg _ (by cases e with | false=>rfl | true=>exact absurd (d.2 (he.1 rfl).1) (by simp)),trivial⟩,trivial⟩ rfl (by simp)
 refine cL n f ⟨t2,t2,trivial⟩ ?_;try conv=>cbv
 exact fA ⟨⟨rfl,congrArg _ (by rw[Bool.eq_iff_iff,a,he];exact⟨fun h=>h.2,fun h=>⟨d.1 rfl,h⟩⟩),trivial⟩,trivial⟩ rfl (by simp)
theorem bM {TT:List (List Rat)->Prop} {w:List (List Rat)} {R b c M q p k k' l l':Nat} (F:Fm TT w R b c M q p) {T1 T2 j m:List LR} {A1 A2 g i:LR} {s u t v:Re} (o:Vm TT w b k k' T1 A1 T2 A2 s u) (r:Vm TT w b l l' j g m i t v) (G:2*k+4*c+3<=M) (C:2*k'+4*c+3<=M) (H:2*l+4*c+3<=M) (D:2*l'+4*c+3<=M) {e:Bool} (he:e=true↔s=t/\u=v):CF 34 [.agg [.sl (.sl AA) T1,.sl AA A1,.sl (.sl AA) T2,.sl AA A2],.agg [.sl (.sl AA) j,.sl AA g,.sl (.sl AA) m,.sl AA i]] (.one (.bool e)):=by
 obtain⟨B,d,_,z⟩:=KW F o.x r.x (by omega) (by omega);obtain⟨A,a,_,f⟩:=KW F o.y r.y (by omega) (by omega);refine AE Tryz.func34 (by kernel_rfl) rfl fun E n=>?_
 conv=>cbv
 refine cL n z ⟨t2,t2,trivial⟩ ?_;try conv=>cbv
 cases B <;> conv=>cbv
 ·exact fA ⟨⟨rfl,congrArg _ (by cases e with | false=>rfl | true=>exact absurd (d.2 (he.1 rfl).1) (by simp)),trivial⟩,trivial⟩ rfl (by simp)
 refine cL n f ⟨t2,t2,trivial⟩ ?_;try conv=>cbv
 exact fA ⟨⟨rfl,congrArg _ (by rw[Bool.eq_iff_iff,a,he];exact⟨fun h=>h.2,fun h=>⟨d.1 rfl,h⟩⟩),trivial⟩,trivial⟩ rfl (by simp)
theorem bK {TT:List (List Rat)->Prop} {w:List (List Rat)} {R b c M q p k k':Nat} (F:Fm TT w R b c M q p) {T1 T2:List LR} {A1 A2:LR} {o r:Re} (n:Vm TT w b k k' T1 A1 T2 A2 o r) (A:k+c+1<=M) (t:k'+c+1<=M) {e:Bool} (he:e=true↔o=0/\r=0):CF 76 [.agg [.sl (.sl AA) T1,.sl AA A1,.sl (.sl AA) T2,.sl AA A2]] (.one (.bool e)):=by
 obtain⟨B,d,s,_⟩:=KX F n.x (by omega);obtain⟨z,a,f,_⟩:=KX F n.y (by omega);refine AE Tryz.func76 (by kernel_rfl) rfl fun E m=>?_
 conv=>cbv
 refine cL m s ⟨t2,trivial⟩ ?_;try conv=>cbv
 intro v j;conv=>cbv
 cases v <;> conv=>cbv
 ·have i:=Ab j;exact fA ⟨⟨rfl,congrArg _ (by cases e with | false=>rfl | true=>exact absurd (by rw[d];exact Ez.2 (he.1 rfl).1) i),trivial⟩,trivial⟩ rfl (by simp)
 have i:=Ad j;refine cL m f ⟨t2,trivial⟩ ?_;try conv=>cbv
 intro u g;conv=>cbv
 exact fA ⟨⟨rfl,congrArg _ (by rw[Bool.eq_iff_iff,g,beq_iff_eq,a,Ez,he];exact⟨fun h=>h.2,fun h=>⟨Ez.1 (d.symm.trans i),h⟩⟩),trivial⟩,trivial⟩ rfl (by simp)
theorem bW {TT:List (List Rat)->Prop} {w:List (List Rat)} {R b c M q p k k':Nat} (F:Fm TT w R b c M q p) {T1 T2:List LR} {A1 A2:LR} {o r:Re} (n:Vm TT w b k k' T1 A1 T2 A2 o r) (A:k+c+1<=M) (t:k'+c+1<=M) {e:Bool} (he:e=true↔o=0/\r=0):CF 77 [.agg [.sl (.sl AA) T1,.sl AA A1,.sl (.sl AA) T2,.sl AA A2]] (.one (.bool e)):=by
 obtain⟨B,d,_,s⟩:=KX F n.x (by omega);obtain⟨z,a,_,f⟩:=KX F n.y (by omega);refine AE Tryz.func77 (by kernel_rfl) rfl fun E m=>?_
 conv=>cbv
 refine cL m s ⟨t2,trivial⟩ ?_;try conv=>cbv
 intro v j;conv=>cbv
 cases v <;> conv=>cbv
 ·have i:=Ab j;exact fA ⟨⟨rfl,congrArg _ (by cases e with | false=>rfl | true=>exact absurd (by rw[d];exact Ez.2 (he.1 rfl).1) i),trivial⟩,trivial⟩ rfl (by simp)
 have i:=Ad j;refine cL m f ⟨t2,trivial⟩ ?_;try conv=>cbv
 intro u g;conv=>cbv
 exact fA ⟨⟨rfl,congrArg _ (by rw[Bool.eq_iff_iff,g,beq_iff_eq,a,Ez,he];exact⟨fun h=>h.2,fun h=>⟨Ez.1 (d.symm.trans i),h⟩⟩),trivial⟩,trivial⟩ rfl (by simp)
theorem aP {g h:Rat} {b1 c1 b2 c2:Bool} {l1 m1 l2 m2:List UInt32} (i:Ap g b1 l1 c1 m1) (j:Ap h b2 l2 c2 m2) {A1 A2:LR} (a:A1=em [] (Re.ofRat g)) (d:A2=em [] (Re.ofRat h)):CF 108 [.agg [.bool b1,.sl .u32 l1,.bool c1,.sl .u32 m1],.agg [.bool b2,.sl .u32 l2,.bool c2,.sl .u32 m2]] (.agg [.sl (.sl AA) (([]:List LR)),.sl AA A1,.sl (.sl AA) (([]:List LR)),.sl AA A2]):=by
 refine AE Tryz.func108 (by kernel_rfl) rfl fun E f=>?_
 conv=>cbv
 refine cL f (JO i a) ⟨t4,trivial⟩ ?_;try conv=>cbv
 refine cL f (JO j d) ⟨t4,trivial⟩ ?_;try conv=>cbv
 refine⟨fun _=>Et (by kernel_rfl),?_⟩;exact fA ⟨⟨rfl,rfl,rfl,rfl,rfl,trivial⟩,trivial⟩ rfl (by simp)
theorem bL {x y:Int} {A1 A2:LR} (i: -9223372036854775808<=x/\x<9223372036854775808) (j: -9223372036854775808<=y/\y<9223372036854775808) (a:A1=em [] (Re.ofRat x)) (d:A2=em [] (Re.ofRat y)):CF 50 [.one (.int .i64 x),.one (.int .i64 y)] (.agg [.sl (.sl AA) (([]:List LR)),.sl AA A1,.sl (.sl AA) (([]:List LR)),.sl AA A2]):=by
 refine AE Tryz.func50 (by kernel_rfl) rfl fun E f=>?_
 conv=>cbv
 obtain⟨b1,l1,c1,m1,g⟩:=BD (x:Rat);refine cL f (DI i rfl g) t1 ?_;try conv=>cbv
 obtain⟨b2,l2,c2,m2,h⟩:=BD (y:Rat);refine cL f (DI j rfl h) t1 ?_;try conv=>cbv
 refine cL f (aP g h a d) ⟨t4,t4,trivial⟩ ?_;try conv=>cbv
 exact fA ⟨⟨rfl,rfl,rfl,rfl,rfl,trivial⟩,trivial⟩ rfl (by simp)
theorem Td:CF 140 [.one (.int .i64 0),.one (.int .i64 0)] (.one (.int .i64 0)):=by
 refine AE Tryz.func140 (by kernel_rfl) rfl fun E d=>?_
 conv=>cbv
 intro f a;cases a.trans (show _=false by decide);conv=>cbv
 exact fA ⟨t2,trivial⟩ rfl (by simp)
theorem Tg {T1 T2:List LR} {A1 A2:LR}:CF 139 [.agg [.sl (.sl AA) T1,.sl AA A1],.agg [.sl (.sl AA) T2,.sl AA A2],.one (.int .i64 0)] (.AF [(true,[.sl (.sl AA) T1,.sl AA A1,.sl (.sl AA) T2,.sl AA A2]),(false,[.int .i64 0])]):=by
 refine AE Tryz.func139 (by kernel_rfl) rfl fun E d=>?_
 conv=>cbv
 intro f a;cases a.trans (show _=false by decide);conv=>cbv
 exact fA ⟨⟨rfl,rfl,rfl,rfl,rfl,trivial⟩,t2,trivial⟩ rfl (by simp)
theorem Th {TT:List (List Rat)->Prop} {w:List (List Rat)} {R b c M q p k k' l l':Nat} (F:Fm TT w R b c M q p) {T1 T2 i j:List LR} {A1 A2 f g:LR} {o s r t:Re} (m:Vm TT w b k k' T1 A1 T2 A2 o s) (n:Vm TT w b l l' i f j g r t) (K:k+c+1<=M) (I:k'+c+1<=M) (L:l+c+1<=M) (J:l'+c+1<=M):∃T A h d,Vm TT w b (k+l+1) (k'+l'+1) T A h d (o+r) (s+t)/\CF 90 [.agg [.sl (.sl AA) T1,.sl AA A1,.sl (.sl AA) T2,.sl AA A2],.agg [.sl (.sl AA) i,.sl AA f,.sl (.sl AA) j,.sl AA g]] (.AF [(true,[.sl (.sl AA) T,.sl AA A,.sl (.sl AA) h,.sl AA d]),(false,[.int .i64 0])]):=by
 obtain⟨z,u,G,_,C⟩:=Hj F m.x n.x (by omega) (by omega);obtain⟨B,v,H,_,D⟩:=Hj F m.y n.y (by omega) (by omega);refine⟨z,u,B,v,⟨G,H⟩,?_⟩;refine AE Tryz.func90 (by kernel_rfl) rfl fun E a=>?_
 conv=>cbv
 refine cL a C ⟨t2,t2,trivial⟩ ?_;try conv=>cbv
 refine cL a D ⟨t2,t2,trivial⟩ ?_;try conv=>cbv
 refine cL a Td t2 ?_;try conv=>cbv
 refine cL a Tg ⟨t2,t2,rfl,trivial⟩ ?_;try conv=>cbv
 refine⟨fun _=>Et (by kernel_rfl),?_⟩;exact fA ⟨⟨rfl,rfl,rfl,rfl,rfl,trivial⟩,t2,trivial⟩ rfl (by simp)
theorem aX {TT:List (List Rat)->Prop} {w:List (List Rat)} {R b c M q p k k' j:Nat} (F:Fm TT w R b c M q p) {T1 T2 h:List LR} {A1 A2 f:LR} {o r n:Re} (m:Vm TT w b k k' T1 A1 T2 A2 o r) (i:Nm TT w b j h f n) (H:k+c+1<=M) (G:k'+c+1<=M) (I:j+c+1<=M):∃T A g d,Vm TT w b (k+j+1) (k'+j+1) T A g d (o*n) (r*n)/\CF 97 [.agg [.sl (.sl AA) T1,.sl AA A1,.sl (.sl AA) T2,.sl AA A2],.agg [.sl (.sl AA) h,.sl AA f]] (.AF [(true,[.sl (.sl AA) T,.sl AA A,.sl (.sl AA) g,.sl AA d]),(false,[.int .i64 0])]):=by
 obtain⟨u,s,C,_,z⟩:=GL F m.x i (by omega) (by omega);obtain⟨v,t,D,_,B⟩:=GL F m.y i (by omega) (by omega);refine⟨u,s,v,t,⟨C,D⟩,?_⟩;refine AE Tryz.func97 (by kernel_rfl) rfl fun E a=>?_
 conv=>cbv
 refine cL a z ⟨t2,t2,trivial⟩ ?_;try conv=>cbv
 refine cL a B ⟨t2,t2,trivial⟩ ?_;try conv=>cbv
 refine cL a Td t2 ?_;try conv=>cbv
 refine cL a Tg ⟨t2,t2,rfl,trivial⟩ ?_;try conv=>cbv
 refine⟨fun _=>Et (by kernel_rfl),?_⟩;exact fA ⟨⟨rfl,rfl,rfl,rfl,rfl,trivial⟩,t2,trivial⟩ rfl (by simp)
theorem aT {TT:List (List Rat)->Prop} {w:List (List Rat)} {R b c M q p k k':Nat} (F:Fm TT w R b c M q p) {T1 T2:List LR} {A1 A2:LR} {h i:Re} (g:Vm TT w b k k' T1 A1 T2 A2 h i) (t:k+c+1<=M) (a:k'+c+1<=M):∃A d,Vm TT w b k k' T1 A T2 d (-h) (-i)/\CF 91 [.agg [.sl (.sl AA) T1,.sl AA A1,.sl (.sl AA) T2,.sl AA A2]] (.agg [.sl (.sl AA) T1,.sl AA A,.sl (.sl AA) T2,.sl AA d]):=by
 obtain⟨j,r,_,n⟩:=Hk F g.x t;obtain⟨m,s,_,o⟩:=Hk F g.y a;refine⟨j,m,⟨r,s⟩,?_⟩;refine AE Tryz.func91 (by kernel_rfl) rfl fun E f=>?_
 conv=>cbv
 refine cL f n ⟨t2,trivial⟩ ?_;try conv=>cbv
 refine cL f o ⟨t2,trivial⟩ ?_;try conv=>cbv
 refine⟨fun _=>Et (by kernel_rfl),?_⟩;exact fA ⟨⟨rfl,rfl,rfl,rfl,rfl,trivial⟩,trivial⟩ rfl (by simp)
theorem bU {TT:List (List Rat)->Prop} {w:List (List Rat)} {R b c M q p k k' l l':Nat} (F:Fm TT w R b c M q p) {T1 T2 h i:List LR} {A1 A2 d f:LR} {m o n r:Re} (I:Vm TT w b k k' T1 A1 T2 A2 m o) (J:Vm TT w b l l' h d i f n r) (N:k+c+1<=M) (G:k'+c+1<=M) (O:l+c+1<=M) (H:l'+c+1<=M):∃T A g a,Vm TT w b (k+l+1) (k'+l'+1) T A g a (m+ -n) (o+ -r)/\CF 35 [.agg [.sl (.sl AA) T1,.sl AA A1,.sl (.sl AA) T2,.sl AA A2],.agg [.sl (.sl AA) h,.sl AA d,.sl (.sl AA) i,.sl AA f]] (.AF [(true,[.sl (.sl AA) T,.sl AA A,.sl (.sl AA) g,.sl AA a]),(false,[.int .i64 0])]):=by
 obtain⟨K,L,D,B⟩:=aT F J (by omega) (by omega);obtain⟨u,s,v,t,C,z⟩:=Th F I D (by omega) (by omega) (by omega) (by omega);refine⟨u,s,v,t,C,?_⟩;refine AE Tryz.func35 (by kernel_rfl) rfl fun E j=>?_
 conv=>cbv
 refine cL j B ⟨t4,trivial⟩ ?_;try conv=>cbv
 refine cL j z ⟨t4,t4,trivial⟩ ?_;try conv=>cbv
 refine⟨fun _=>Et (by kernel_rfl),?_⟩;exact fA ⟨⟨rfl,rfl,rfl,rfl,rfl,trivial⟩,t2,trivial⟩ rfl (by simp)
theorem bO {TT:List (List Rat)->Prop} {w:List (List Rat)} {R b c M q p k k':Nat} (F:Fm TT w R b c M q p) {T1 T2:List LR} {A1 A2:LR} {f g:Re} (d:Vm TT w b k k' T1 A1 T2 A2 f g) (n:k+c+1<=M) (a:k'+c+1<=M):∃A,Vm TT w b k' k T2 A T1 A1 (-g) f/\CF 87 [.agg [.sl (.sl AA) T1,.sl AA A1,.sl (.sl AA) T2,.sl AA A2]] (.agg [.sl (.sl AA) T2,.sl AA A,.sl (.sl AA) T1,.sl AA A1]):=by
 obtain⟨h,j,_,i⟩:=Hk F d.y a;refine⟨h,⟨j,d.x⟩,?_⟩;refine AE Tryz.func87 (by kernel_rfl) rfl fun E m=>?_
 conv=>cbv
 refine cL m i ⟨t2,trivial⟩ ?_;try conv=>cbv
 refine⟨fun _=>Et (by kernel_rfl),?_⟩;exact fA ⟨⟨rfl,rfl,rfl,rfl,rfl,trivial⟩,trivial⟩ rfl (by simp)
theorem aS {TT:List (List Rat)->Prop} {w:List (List Rat)} {R b c M q p k k' l l':Nat} (F:Fm TT w R b c M q p) {T1 T2 i j:List LR} {A1 A2 g h:LR} {o s r t:Re} (m:Vm TT w b k k' T1 A1 T2 A2 o s) (n:Vm TT w b l l' i g j h r t) (Q:k+l+c+2<=M) (I:k'+l'+c+2<=M):∃T A,Nm TT w b (k+k'+l+l'+3) T A (o*r+s*t)/\CF 92 [.agg [.sl (.sl AA) T1,.sl AA A1,.sl (.sl AA) T2,.sl AA A2],.agg [.sl (.sl AA) i,.sl AA g,.sl (.sl AA) j,.sl AA h]] (.AF [(true,[.sl (.sl AA) T,.sl AA A]),(false,[.int .i64 0])]):=by
 obtain⟨O,L,D,_,z⟩:=GL F m.x n.x (by omega) (by omega);obtain⟨P,N,G,_,B⟩:=GL F m.y n.y (by omega) (by omega);obtain⟨v,u,H,_,C⟩:=Hj F D G (by omega) (by omega);refine⟨v,u,H.mono (by omega),?_⟩;refine AE Tryz.func92 (by kernel_rfl) rfl fun E f=>?_
 conv=>cbv
 refine cL f z ⟨t2,t2,trivial⟩ ?_;try conv=>cbv
 refine cL f B ⟨t2,t2,trivial⟩ ?_;try conv=>cbv
 intro J a;cases a.trans (show _=false by decide);conv=>cbv
 intro K d;cases d.trans (show _=false by decide);conv=>cbv
 refine cL f C ⟨t2,t2,trivial⟩ ?_;try conv=>cbv
 exact fA ⟨t3,t2,trivial⟩ rfl (by simp)
theorem bT {TT:List (List Rat)->Prop} {w:List (List Rat)} {R b c M q p k k':Nat} (F:Fm TT w R b c M q p) {T1 T2:List LR} {A1 A2:LR} {a d:Re} (f:Vm TT w b k k' T1 A1 T2 A2 a d) (o:2*k+c+2<=M) (n:2*k'+c+2<=M):∃T A,Nm TT w b (2*k+2*k'+3) T A (a*a+d*d)/\CF 36 [.agg [.sl (.sl AA) T1,.sl AA A1,.sl (.sl AA) T2,.sl AA A2]] (.AF [(true,[.sl (.sl AA) T,.sl AA A]),(false,[.int .i64 0])]):=by
 obtain⟨h,g,j,i⟩:=aS F f f (by omega) (by omega);refine⟨h,g,j.mono (by omega),?_⟩;refine AE Tryz.func36 (by kernel_rfl) rfl fun E m=>?_
 conv=>cbv
 refine cL m i ⟨t4,t4,trivial⟩ ?_;try conv=>cbv
 exact fA ⟨t3,t2,trivial⟩ rfl (by simp)
theorem bP {TT:List (List Rat)->Prop} {w:List (List Rat)} {R b c M q p k k' l l':Nat} (F:Fm TT w R b c M q p) {T1 T2 m n:List LR} {A1 A2 h i:LR} {o s r t:Re} (N:Vm TT w b k k' T1 A1 T2 A2 o s) (O:Vm TT w b l l' m h n i r t) (hk:k+l+c+2<=M) (L:k'+l'+c+2<=M):∃T A j g,Vm TT w b (k+l+3) (k'+l'+3) T A j g ((o+r)*Re.ofRat (1/2)) ((s+t)*Re.ofRat (1/2))/\CF 40 [.agg [.sl (.sl AA) T1,.sl AA A1,.sl (.sl AA) T2,.sl AA A2],.agg [.sl (.sl AA) m,.sl AA h,.sl (.sl AA) n,.sl AA i]] (.AF [(true,[.sl (.sl AA) T,.sl AA A,.sl (.sl AA) j,.sl AA g]),(false,[.int .i64 0])]):=by
 obtain⟨W,Y,X,Z,hf⟩:=BD (1/2:Rat);have K:(1/2:Rat)=Rat.divInt 1 2:=by decide +kernel
 obtain⟨z,a⟩:=Bu (em [] (Re.ofRat (1/2)));have I:Nm TT w b 1 [] z (Re.ofRat (1/2)):=a ▸ Hi F (by omega) (HF (by decide +kernel) F.hb);obtain⟨U,Q,V,S,J,G⟩:=Th F N O (by omega) (by omega) (by omega) (by omega);obtain⟨B,u,C,v,H,D⟩:=aX F J I (by omega) (by omega) (by omega);refine⟨B,u,C,v,H.mono (by omega) (by omega),?_⟩;refine AE Tryz.func40 (by kernel_rfl) rfl fun E f=>?_
 conv=>cbv
 refine cL f G ⟨t4,t4,trivial⟩ ?_;try conv=>cbv
 intro P d;cases d.trans (show _=false by decide);conv=>cbv
 refine cL f (La (by decide) (by decide) (by decide) K a) t2 ?_;try conv=>cbv
 refine cL f D ⟨t4,t2,trivial⟩ ?_;try conv=>cbv
 refine⟨fun _=>Et (by kernel_rfl),?_⟩;exact fA ⟨⟨rfl,rfl,rfl,rfl,rfl,trivial⟩,t2,trivial⟩ rfl (by simp)
theorem bV {TT:List (List Rat)->Prop} {w:List (List Rat)} {R b c M q p k k':Nat} (F:Fm TT w R b c M q p) {T1 T2:List LR} {A1 A2:LR} {h i:Re} (f:Vm TT w b k k' T1 A1 T2 A2 h i) (g:k+c+1<=M) (a:k'+c+1<=M):CF 83 [.agg [.sl (.sl AA) T1,.sl AA A1,.sl (.sl AA) T2,.sl AA A2]] (.one (.bool true)):=by
 refine AE Tryz.func83 (by kernel_rfl) rfl fun E d=>?_
 conv=>cbv
 refine cL d (RP F f.x g) ⟨t2,trivial⟩ ?_;try conv=>cbv
 refine cL d (RP F f.y a) ⟨t2,trivial⟩ ?_;try conv=>cbv
 exact fA ⟨t2,trivial⟩ rfl (by simp)
end Go.Abs
