/- Part 45 of a proof. Conditions: each theorem's own. -/
import Derived.Test.YtfilemenbchajaaGreatPk43
set_option linter.all false
set_option maxHeartbeats 8000000
set_option maxRecDepth 20000
open Go.Proofs
namespace Go.Abs
open Go.RowKit
structure Vm (TT:List (List Rat)->Prop) (w:List (List Rat)) (b k k':Nat) (T1:List LR) (A1:LR) (T2:List LR) (A2:LR) (x y:Re):Prop where
 x:Nm TT w b k T1 A1 x
 y:Nm TT w b k' T2 A2 y
section
variable {TT:List (List Rat)->Prop} {w:List (List Rat)} {R b c M q p k k' l l':Nat} {T1 T2:List LR} {A1 A2:LR} {x y x' y':Re}
theorem Vm.mono (h:Vm TT w b k k' T1 A1 T2 A2 x y) (d:k<=l) (a:k'<=l'):Vm TT w b l l' T1 A1 T2 A2 x y:=⟨h.x.mono d,h.y.mono a⟩
theorem Vm.cast (h:Vm TT w b k k' T1 A1 T2 A2 x y) (e:x=x') (f:y=y'):Vm TT w b k k' T1 A1 T2 A2 x' y':=e ▸ f ▸ h
theorem KK (F:Fm TT w R b c M q p) (a:c<=M) {r:Rat} (h:Bd b [r]):Nm TT w b 1 [] (em [] (Re.ofRat r)) (Re.ofRat r):=by
 have G:=F.g a (Nat.le_refl c);exact⟨[],G.nil,rfl,rfl,Ds r [],by rw[Nat.one_mul];exact El.rat (G.AU F.top).red h⟩
theorem IZ {r:Rat} (h:Bz r) (hb:64<=b):Bd b [r]:=(LN (a:=[r]) (fun z d=>by rw[List.mem_singleton.1 d];exact h)).mono hb
end
theorem Nq {g:FuncId} {T1 T2 T3 T4 T5 T6:List LR} {A1 A2 A3 A4 A5 A6:LR} (h:CF g [.agg [.sl (.sl AA) T1,.sl AA A1],.agg [.sl (.sl AA) T3,.sl AA A3]] (.AE [(true,[.sl (.sl AA) T5,.sl AA A5]),(false,[.int .i64 0])])) (j:CF g [.agg [.sl (.sl AA) T2,.sl AA A2],.agg [.sl (.sl AA) T4,.sl AA A4]] (.AE [(true,[.sl (.sl AA) T6,.sl AA A6]),(false,[.int .i64 0])])):CF 203 [.agg [.sl (.sl AA) T1,.sl AA A1,.sl (.sl AA) T2,.sl AA A2],.agg [.sl (.sl AA) T3,.sl AA A3,.sl (.sl AA) T4,.sl AA A4],.one (.fn g)] (.AE [(true,[.sl (.sl AA) T5,.sl AA A5,.sl (.sl AA) T6,.sl AA A6]),(false,[.int .i64 0])]):=by
 refine AH Tryz.func203 (by kernel_rfl) rfl fun E f=>?_
 conv=>cbv
 refine cL f h ⟨t2,t2,trivial⟩ ?_;try conv=>cbv
 intro n a;cases a.trans (show _=false by decide);conv=>cbv
 refine cL f j ⟨t2,t2,trivial⟩ ?_;try conv=>cbv
 intro o d;cases d.trans (show _=false by decide);conv=>cbv
 exact fA ⟨⟨rfl,rfl,rfl,rfl,rfl,trivial⟩,t2,trivial⟩ rfl (by simp)
theorem WR {TT:List (List Rat)->Prop} {w:List (List Rat)} {R b c M q p k k' l l':Nat} (F:Fm TT w R b c M q p) {T1 T2 T3 T4:List LR} {A1 A2 A3 A4:LR} {x1 y1 x2 y2:Re} (f:Vm TT w b k k' T1 A1 T2 A2 x1 y1) (g:Vm TT w b l l' T3 A3 T4 A4 x2 y2) (C:k+c+1<=M) (z:k'+c+1<=M) (D:l+c+1<=M) (B:l'+c+1<=M):∃T A d a,Vm TT w b (k+l+1) (k'+l'+1) T A d a (x1+x2) (y1+y2)/\CF 125 [.agg [.sl (.sl AA) T1,.sl AA A1,.sl (.sl AA) T2,.sl AA A2],.agg [.sl (.sl AA) T3,.sl AA A3,.sl (.sl AA) T4,.sl AA A4]] (.AE [(true,[.sl (.sl AA) T,.sl AA A,.sl (.sl AA) d,.sl AA a]),(false,[.int .i64 0])]):=by
 obtain⟨T5,A5,n,h,_⟩:=GH F f.x g.x (by omega) (by omega);obtain⟨T6,A6,o,j,_⟩:=GH F f.y g.y (by omega) (by omega);refine⟨T5,A5,T6,A6,⟨n,o⟩,?_⟩;refine AH Tryz.func125 (by kernel_rfl) rfl fun E v=>?_
 conv=>cbv
 refine cL v (Nq h j) ⟨t4,t4,rfl,trivial⟩ ?_;try conv=>cbv
 exact fA ⟨⟨rfl,rfl,rfl,rfl,rfl,trivial⟩,t2,trivial⟩ rfl (by simp)
theorem JR {TT:List (List Rat)->Prop} {w:List (List Rat)} {R b c M q p k k' l l':Nat} (F:Fm TT w R b c M q p) {T1 T2 T3 T4:List LR} {A1 A2 A3 A4:LR} {x1 y1 x2 y2:Re} (f:Vm TT w b k k' T1 A1 T2 A2 x1 y1) (g:Vm TT w b l l' T3 A3 T4 A4 x2 y2) (C:k+c+1<=M) (z:k'+c+1<=M) (D:l+c+1<=M) (B:l'+c+1<=M):∃T A d a,Vm TT w b (k+l+1) (k'+l'+1) T A d a (x1-x2) (y1-y2)/\CF 120 [.agg [.sl (.sl AA) T1,.sl AA A1,.sl (.sl AA) T2,.sl AA A2],.agg [.sl (.sl AA) T3,.sl AA A3,.sl (.sl AA) T4,.sl AA A4]] (.AE [(true,[.sl (.sl AA) T,.sl AA A,.sl (.sl AA) d,.sl AA a]),(false,[.int .i64 0])]):=by
 obtain⟨T5,A5,n,h,_⟩:=KM F f.x g.x (by omega) (by omega);obtain⟨T6,A6,o,j,_⟩:=KM F f.y g.y (by omega) (by omega);refine⟨T5,A5,T6,A6,⟨n,o⟩,?_⟩;refine AH Tryz.func120 (by kernel_rfl) rfl fun E v=>?_
 conv=>cbv
 refine cL v (Nq h j) ⟨t4,t4,rfl,trivial⟩ ?_;try conv=>cbv
 exact fA ⟨⟨rfl,rfl,rfl,rfl,rfl,trivial⟩,t2,trivial⟩ rfl (by simp)
theorem gm {TT:List (List Rat)->Prop} {w:List (List Rat)} {R b c M q p k:Nat} (F:Fm TT w R b c M q p) {T1:List LR} {A1:LR} {n:Re} (g:Nm TT w b k T1 A1 n) (f:k+c+1<=M):CF 208 [.agg [.sl (.sl AA) T1,.sl AA A1]] (.agg [.sl (.sl AA) T1,.sl AA A1]):=by
 obtain⟨A4,j,h,_⟩:=Ec F g f;obtain⟨A5,o,a,_⟩:=Ec F j f;have e:A5=A1:=Nm.data o g (by grind);rw[e] at a;refine AH Tryz.func208 (by kernel_rfl) rfl fun E d=>?_
 conv=>cbv
 refine cL d h ⟨t2,trivial⟩ ?_;try conv=>cbv
 refine cL d a ⟨t2,trivial⟩ ?_;try conv=>cbv
 exact fA ⟨t3,trivial⟩ rfl (by simp)
theorem P5 {TT:List (List Rat)->Prop} {w:List (List Rat)} {R b c M q p k k':Nat} (F:Fm TT w R b c M q p) {T1 T2:List LR} {A1 A2:LR} {x1 y1:Re} (d:Vm TT w b k k' T1 A1 T2 A2 x1 y1) (j:k+c+1<=M) (a:k'+c+1<=M):∃A,Vm TT w b k' k T2 A T1 A1 (-y1) x1/\CF 127 [.agg [.sl (.sl AA) T1,.sl AA A1,.sl (.sl AA) T2,.sl AA A2]] (.agg [.sl (.sl AA) T2,.sl AA A,.sl (.sl AA) T1,.sl AA A1]):=by
 obtain⟨A5,h,g,_⟩:=Ec F d.y a;refine⟨A5,⟨h,d.x⟩,?_⟩;refine AH Tryz.func127 (by kernel_rfl) rfl fun E f=>?_
 conv=>cbv
 refine cL f g ⟨t2,trivial⟩ ?_;try conv=>cbv
 refine cL f (gm F d.x j) ⟨t2,trivial⟩ ?_;try conv=>cbv
 refine⟨fun _=>Aq (by kernel_rfl),?_⟩;exact fA ⟨⟨rfl,rfl,rfl,rfl,rfl,trivial⟩,trivial⟩ rfl (by simp)
theorem IG {TT:List (List Rat)->Prop} {w:List (List Rat)} {R b c M q p k k' l l':Nat} (F:Fm TT w R b c M q p) {T1 T2 T3 T4:List LR} {A1 A2 A3 A4:LR} {x1 y1 x2 y2:Re} (f:Vm TT w b k k' T1 A1 T2 A2 x1 y1) (g:Vm TT w b l l' T3 A3 T4 A4 x2 y2) (H:k+l+c+2<=M) (D:k'+l'+c+2<=M):∃T A,Nm TT w b (k+k'+l+l'+3) T A (x1*x2+y1*y2)/\CF 206 [.agg [.sl (.sl AA) T1,.sl AA A1,.sl (.sl AA) T2,.sl AA A2],.agg [.sl (.sl AA) T3,.sl AA A3,.sl (.sl AA) T4,.sl AA A4]] (.AE [(true,[.sl (.sl AA) T,.sl AA A]),(false,[.int .i64 0])]):=by
 obtain⟨T5,A5,z,n,_⟩:=EN F f.x g.x (by omega) (by omega);obtain⟨T6,A6,B,o,_⟩:=EN F f.y g.y (by omega) (by omega);obtain⟨j,h,C,v,_⟩:=GH F z B (by omega) (by omega);refine⟨j,h,C.mono (by omega),?_⟩;refine AH Tryz.func206 (by kernel_rfl) rfl fun E d=>?_
 conv=>cbv
 refine cL d (Nq n o) ⟨t4,t4,rfl,trivial⟩ ?_;try conv=>cbv
 intro G a;cases a.trans (show _=false by decide);conv=>cbv
 refine cL d v ⟨t2,t2,trivial⟩ ?_;try conv=>cbv
 exact fA ⟨t3,t2,trivial⟩ rfl (by simp)
theorem gd {TT:List (List Rat)->Prop} {w:List (List Rat)} {R b c M q p k k' l l':Nat} (F:Fm TT w R b c M q p) {T1 T2 T3 T4:List LR} {A1 A2 A3 A4:LR} {x1 y1 x2 y2:Re} (v:Vm TT w b k k' T1 A1 T2 A2 x1 y1) (z:Vm TT w b l l' T3 A3 T4 A4 x2 y2) (B:k'+l+c+2<=M) (o:k+l'+c+2<=M):∃T A,Nm TT w b (k+k'+l+l'+3) T A (-y1*x2+x1*y2)/\CF 216 [.agg [.sl (.sl AA) T1,.sl AA A1,.sl (.sl AA) T2,.sl AA A2],.agg [.sl (.sl AA) T3,.sl AA A3,.sl (.sl AA) T4,.sl AA A4]] (.AE [(true,[.sl (.sl AA) T,.sl AA A]),(false,[.int .i64 0])]):=by
 obtain⟨A5,j,g⟩:=P5 F v (by omega) (by omega);obtain⟨f,d,n,h⟩:=IG F j z (by omega) (by omega);refine⟨f,d,n.mono (by omega),?_⟩;refine AH Tryz.func216 (by kernel_rfl) rfl fun E a=>?_
 conv=>cbv
 refine cL a g ⟨t4,trivial⟩ ?_;try conv=>cbv
 refine cL a h ⟨t4,t4,trivial⟩ ?_;try conv=>cbv
 refine⟨fun _=>Aq (by kernel_rfl),?_⟩;exact fA ⟨t3,t2,trivial⟩ rfl (by simp)
theorem WS {TT:List (List Rat)->Prop} {w:List (List Rat)} {R b c M q p k k':Nat} (F:Fm TT w R b c M q p) {T1 T2:List LR} {A1 A2:LR} {x1 y1:Re} (a:Vm TT w b k k' T1 A1 T2 A2 x1 y1) (o:2*k+c+2<=M) (n:2*k'+c+2<=M):∃T A,Nm TT w b (2*k+2*k'+3) T A (x1*x1+y1*y1)/\CF 166 [.agg [.sl (.sl AA) T1,.sl AA A1,.sl (.sl AA) T2,.sl AA A2]] (.AE [(true,[.sl (.sl AA) T,.sl AA A]),(false,[.int .i64 0])]):=by
 obtain⟨f,d,h,g⟩:=IG F a a (by omega) (by omega);refine⟨f,d,h.mono (by omega),?_⟩;refine AH Tryz.func166 (by kernel_rfl) rfl fun E j=>?_
 conv=>cbv
 refine cL j g ⟨t4,t4,trivial⟩ ?_;try conv=>cbv
 exact fA ⟨t3,t2,trivial⟩ rfl (by simp)
theorem IH {TT:List (List Rat)->Prop} {w:List (List Rat)} {R b c M q p k k' l l':Nat} (F:Fm TT w R b c M q p) {T1 T2 T3 T4:List LR} {A1 A2 A3 A4:LR} {x1 y1 x2 y2:Re} (j:Vm TT w b k k' T1 A1 T2 A2 x1 y1) (n:Vm TT w b l l' T3 A3 T4 A4 x2 y2) (C:2*k+4*c+3<=M) (A:2*k'+4*c+3<=M) (D:2*l+4*c+3<=M) (B:2*l'+4*c+3<=M) {e:Bool} (he:e=true↔x1=x2/\y1=y2):CF 82 [.agg [.sl (.sl AA) T1,.sl AA A1,.sl (.sl AA) T2,.sl AA A2],.agg [.sl (.sl AA) T3,.sl AA A3,.sl (.sl AA) T4,.sl AA A4]] (.one (.bool e)):=by
 obtain⟨z,d,o,_⟩:=EM F j.x n.x (by omega) (by omega);obtain⟨v,a,f,_⟩:=EM F j.y n.y (by omega) (by omega);refine AH Tryz.func82 (by kernel_rfl) rfl fun E g=>?_
 conv=>cbv
 refine cL g o ⟨t2,t2,trivial⟩ ?_;try conv=>cbv
 cases z <;> conv=>cbv
 ·exact fA ⟨⟨rfl,congrArg _ (by cases e with | false=>rfl | true=>exact absurd (d.2 (he.1 rfl).1) (by simp)),trivial⟩,trivial⟩ rfl (by simp)
 refine cL g f ⟨t2,t2,trivial⟩ ?_;try conv=>cbv
 exact fA ⟨⟨rfl,congrArg _ (by rw[Bool.eq_iff_iff,a,he];exact⟨fun h=>h.2,fun h=>⟨d.1 rfl,h⟩⟩),trivial⟩,trivial⟩ rfl (by simp)
theorem EU {TT:List (List Rat)->Prop} {w:List (List Rat)} {R b c M q p k k' l l':Nat} (F:Fm TT w R b c M q p) {T1 T2 T3 T4:List LR} {A1 A2 A3 A4:LR} {x1 y1 x2 y2:Re} (j:Vm TT w b k k' T1 A1 T2 A2 x1 y1) (n:Vm TT w b l l' T3 A3 T4 A4 x2 y2) (C:2*k+4*c+3<=M) (A:2*k'+4*c+3<=M) (D:2*l+4*c+3<=M) (B:2*l'+4*c+3<=M) {e:Bool} (he:e=true↔x1=x2/\y1=y2):CF 21 [.agg [.sl (.sl AA) T1,.sl AA A1,.sl (.sl AA) T2,.sl AA A2],.agg [.sl (.sl AA) T3,.sl AA A3,.sl (.sl AA) T4,.sl AA A4]] (.one (.bool e)):=by
 obtain⟨z,d,_,o⟩:=EM F j.x n.x (by omega) (by omega);obtain⟨v,a,_,f⟩:=EM F j.y n.y (by omega) (by omega);refine AH Tryz.func21 (by kernel_rfl) rfl fun E g=>?_
 conv=>cbv
 refine cL g o ⟨t2,t2,trivial⟩ ?_;try conv=>cbv
 cases z <;> conv=>cbv
 ·exact fA ⟨⟨rfl,congrArg _ (by cases e with | false=>rfl | true=>exact absurd (d.2 (he.1 rfl).1) (by simp)),trivial⟩,trivial⟩ rfl (by simp)
 refine cL g f ⟨t2,t2,trivial⟩ ?_;try conv=>cbv
 exact fA ⟨⟨rfl,congrArg _ (by rw[Bool.eq_iff_iff,a,he];exact⟨fun h=>h.2,fun h=>⟨d.1 rfl,h⟩⟩),trivial⟩,trivial⟩ rfl (by simp)
theorem WT {TT:List (List Rat)->Prop} {w:List (List Rat)} {R b c M q p k k':Nat} (F:Fm TT w R b c M q p) {T1 T2:List LR} {A1 A2:LR} {x1 y1:Re} (v:Vm TT w b k k' T1 A1 T2 A2 x1 y1) (G:k+c+1<=M) (A:k'+c+1<=M) {e:Bool} (he:e=true↔x1=0/\y1=0):CF 140 [.agg [.sl (.sl AA) T1,.sl AA A1,.sl (.sl AA) T2,.sl AA A2]] (.one (.bool e)):=by
 obtain⟨H,d,z,_⟩:=DQ F v.x (by omega);obtain⟨D,a,f,_⟩:=DQ F v.y (by omega);refine AH Tryz.func140 (by kernel_rfl) rfl fun E o=>?_
 conv=>cbv
 refine cL o z ⟨t2,trivial⟩ ?_;try conv=>cbv
 intro C n;conv=>cbv
 cases C <;> conv=>cbv
 ·have j:=Au n;exact fA ⟨⟨rfl,congrArg _ (by cases e with | false=>rfl | true=>exact absurd (by rw[d];exact Dv.2 (he.1 rfl).1) j),trivial⟩,trivial⟩ rfl (by simp)
 have j:=Av n;refine cL o f ⟨t2,trivial⟩ ?_;try conv=>cbv
 intro B g;conv=>cbv
 exact fA ⟨⟨rfl,congrArg _ (by rw[Bool.eq_iff_iff,g,beq_iff_eq,a,Dv,he];exact⟨fun h=>h.2,fun h=>⟨Dv.1 (d.symm.trans j),h⟩⟩),trivial⟩,trivial⟩ rfl (by simp)
theorem gu {g h:Rat} {b1 c1 b2 c2:Bool} {l1 m1 l2 m2:List UInt32} (j:BM g b1 l1 c1 m1) (n:BM h b2 l2 c2 m2) {A1 A2:LR} (a:A1=em [] (Re.ofRat g)) (d:A2=em [] (Re.ofRat h)):CF 202 [.agg [.bool b1,.sl .u32 l1,.bool c1,.sl .u32 m1],.agg [.bool b2,.sl .u32 l2,.bool c2,.sl .u32 m2]] (.agg [.sl (.sl AA) (([]:List LR)),.sl AA A1,.sl (.sl AA) (([]:List LR)),.sl AA A2]):=by
 refine AH Tryz.func202 (by kernel_rfl) rfl fun E f=>?_
 conv=>cbv
 refine cL f (K8 j a) ⟨t4,trivial⟩ ?_;try conv=>cbv
 refine cL f (K8 n d) ⟨t4,trivial⟩ ?_;try conv=>cbv
 refine⟨fun _=>Aq (by kernel_rfl),?_⟩;exact fA ⟨⟨rfl,rfl,rfl,rfl,rfl,trivial⟩,trivial⟩ rfl (by simp)
theorem Eh {x y:Int} {A1 A2:LR} (j: -9223372036854775808<=x/\x<9223372036854775808) (n: -9223372036854775808<=y/\y<9223372036854775808) (a:A1=em [] (Re.ofRat x)) (d:A2=em [] (Re.ofRat y)):CF 112 [.one (.int .i64 x),.one (.int .i64 y)] (.agg [.sl (.sl AA) (([]:List LR)),.sl AA A1,.sl (.sl AA) (([]:List LR)),.sl AA A2]):=by
 refine AH Tryz.func112 (by kernel_rfl) rfl fun E f=>?_
 conv=>cbv
 obtain⟨b1,l1,c1,m1,g⟩:=Bb (x:Rat);refine cL f (D7 j rfl g) t1 ?_;try conv=>cbv
 obtain⟨b2,l2,c2,m2,h⟩:=Bb (y:Rat);refine cL f (D7 n rfl h) t1 ?_;try conv=>cbv
 refine cL f (gu g h a d) ⟨t4,t4,trivial⟩ ?_;try conv=>cbv
 exact fA ⟨⟨rfl,rfl,rfl,rfl,rfl,trivial⟩,trivial⟩ rfl (by simp)
theorem We:CF 182 [.one (.int .i64 0),.one (.int .i64 0)] (.one (.int .i64 0)):=by
 refine AH Tryz.func182 (by kernel_rfl) rfl fun E d=>?_
 conv=>cbv
 intro f a;cases a.trans (show _=false by decide);conv=>cbv
 exact fA ⟨t2,trivial⟩ rfl (by simp)
theorem Wg {T1 T2:List LR} {A1 A2:LR}:CF 218 [.agg [.sl (.sl AA) T1,.sl AA A1],.agg [.sl (.sl AA) T2,.sl AA A2],.one (.int .i64 0)] (.AE [(true,[.sl (.sl AA) T1,.sl AA A1,.sl (.sl AA) T2,.sl AA A2]),(false,[.int .i64 0])]):=by
 refine AH Tryz.func218 (by kernel_rfl) rfl fun E d=>?_
 conv=>cbv
 intro f a;cases a.trans (show _=false by decide);conv=>cbv
 exact fA ⟨⟨rfl,rfl,rfl,rfl,rfl,trivial⟩,t2,trivial⟩ rfl (by simp)
theorem M6 {TT:List (List Rat)->Prop} {w:List (List Rat)} {R b c M q p k k' l l':Nat} (F:Fm TT w R b c M q p) {T1 T2 T3 T4:List LR} {A1 A2 A3 A4:LR} {x1 y1 x2 y2:Re} (g:Vm TT w b k k' T1 A1 T2 A2 x1 y1) (h:Vm TT w b l l' T3 A3 T4 A4 x2 y2) (C:k+c+1<=M) (z:k'+c+1<=M) (D:l+c+1<=M) (B:l'+c+1<=M):∃T A f d,Vm TT w b (k+l+1) (k'+l'+1) T A f d (x1+x2) (y1+y2)/\CF 158 [.agg [.sl (.sl AA) T1,.sl AA A1,.sl (.sl AA) T2,.sl AA A2],.agg [.sl (.sl AA) T3,.sl AA A3,.sl (.sl AA) T4,.sl AA A4]] (.AE [(true,[.sl (.sl AA) T,.sl AA A,.sl (.sl AA) f,.sl AA d]),(false,[.int .i64 0])]):=by
 obtain⟨T5,A5,o,_,j⟩:=GH F g.x h.x (by omega) (by omega);obtain⟨T6,A6,v,_,n⟩:=GH F g.y h.y (by omega) (by omega);refine⟨T5,A5,T6,A6,⟨o,v⟩,?_⟩;refine AH Tryz.func158 (by kernel_rfl) rfl fun E a=>?_
 conv=>cbv
 refine cL a j ⟨t2,t2,trivial⟩ ?_;try conv=>cbv
 refine cL a n ⟨t2,t2,trivial⟩ ?_;try conv=>cbv
 refine cL a We t2 ?_;try conv=>cbv
 refine cL a Wg ⟨t2,t2,rfl,trivial⟩ ?_;try conv=>cbv
 refine⟨fun _=>Aq (by kernel_rfl),?_⟩;exact fA ⟨⟨rfl,rfl,rfl,rfl,rfl,trivial⟩,t2,trivial⟩ rfl (by simp)
theorem M7 {TT:List (List Rat)->Prop} {w:List (List Rat)} {R b c M q p k k' j:Nat} (F:Fm TT w R b c M q p) {T1 T2 T3:List LR} {A1 A2 A3:LR} {x1 y1 n:Re} (h:Vm TT w b k k' T1 A1 T2 A2 x1 y1) (g:Nm TT w b j T3 A3 n) (D:k+c+1<=M) (C:k'+c+1<=M) (G:j+c+1<=M):∃T A f d,Vm TT w b (k+j+1) (k'+j+1) T A f d (x1*n) (y1*n)/\CF 153 [.agg [.sl (.sl AA) T1,.sl AA A1,.sl (.sl AA) T2,.sl AA A2],.agg [.sl (.sl AA) T3,.sl AA A3]] (.AE [(true,[.sl (.sl AA) T,.sl AA A,.sl (.sl AA) f,.sl AA d]),(false,[.int .i64 0])]):=by
 obtain⟨T5,A5,z,_,o⟩:=EN F h.x g (by omega) (by omega);obtain⟨T6,A6,B,_,v⟩:=EN F h.y g (by omega) (by omega);refine⟨T5,A5,T6,A6,⟨z,B⟩,?_⟩;refine AH Tryz.func153 (by kernel_rfl) rfl fun E a=>?_
 conv=>cbv
 refine cL a o ⟨t2,t2,trivial⟩ ?_;try conv=>cbv
 refine cL a v ⟨t2,t2,trivial⟩ ?_;try conv=>cbv
 refine cL a We t2 ?_;try conv=>cbv
 refine cL a Wg ⟨t2,t2,rfl,trivial⟩ ?_;try conv=>cbv
 refine⟨fun _=>Aq (by kernel_rfl),?_⟩;exact fA ⟨⟨rfl,rfl,rfl,rfl,rfl,trivial⟩,t2,trivial⟩ rfl (by simp)
theorem Wh {TT:List (List Rat)->Prop} {w:List (List Rat)} {R b c M q p k k':Nat} (F:Fm TT w R b c M q p) {T1 T2:List LR} {A1 A2:LR} {x1 y1:Re} (g:Vm TT w b k k' T1 A1 T2 A2 x1 y1) (v:k+c+1<=M) (a:k'+c+1<=M):∃A d,Vm TT w b k k' T1 A T2 d (-x1) (-y1)/\CF 159 [.agg [.sl (.sl AA) T1,.sl AA A1,.sl (.sl AA) T2,.sl AA A2]] (.agg [.sl (.sl AA) T1,.sl AA A,.sl (.sl AA) T2,.sl AA d]):=by
 obtain⟨A5,n,_,h⟩:=Ec F g.x v;obtain⟨A6,o,_,j⟩:=Ec F g.y a;refine⟨A5,A6,⟨n,o⟩,?_⟩;refine AH Tryz.func159 (by kernel_rfl) rfl fun E f=>?_
 conv=>cbv
 refine cL f h ⟨t2,trivial⟩ ?_;try conv=>cbv
 refine cL f j ⟨t2,trivial⟩ ?_;try conv=>cbv
 refine⟨fun _=>Aq (by kernel_rfl),?_⟩;exact fA ⟨⟨rfl,rfl,rfl,rfl,rfl,trivial⟩,trivial⟩ rfl (by simp)
theorem Wk {TT:List (List Rat)->Prop} {w:List (List Rat)} {R b c M q p k k' l l':Nat} (F:Fm TT w R b c M q p) {T1 T2 T3 T4:List LR} {A1 A2 A3 A4:LR} {x1 y1 x2 y2:Re} (z:Vm TT w b k k' T1 A1 T2 A2 x1 y1) (B:Vm TT w b l l' T3 A3 T4 A4 x2 y2) (G:k+c+1<=M) (o:k'+c+1<=M) (H:l+c+1<=M) (v:l'+c+1<=M):∃T A d a,Vm TT w b (k+l+1) (k'+l'+1) T A d a (x1+ -x2) (y1+ -y2)/\CF 55 [.agg [.sl (.sl AA) T1,.sl AA A1,.sl (.sl AA) T2,.sl AA A2],.agg [.sl (.sl AA) T3,.sl AA A3,.sl (.sl AA) T4,.sl AA A4]] (.AE [(true,[.sl (.sl AA) T,.sl AA A,.sl (.sl AA) d,.sl AA a]),(false,[.int .i64 0])]):=by
 obtain⟨C,D,n,h⟩:=Wh F B (by omega) (by omega);obtain⟨T5,A5,T6,A6,j,g⟩:=M6 F z n (by omega) (by omega) (by omega) (by omega);refine⟨T5,A5,T6,A6,j,?_⟩;refine AH Tryz.func55 (by kernel_rfl) rfl fun E f=>?_
 conv=>cbv
 refine cL f h ⟨t4,trivial⟩ ?_;try conv=>cbv
 refine cL f g ⟨t4,t4,trivial⟩ ?_;try conv=>cbv
 refine⟨fun _=>Aq (by kernel_rfl),?_⟩;exact fA ⟨⟨rfl,rfl,rfl,rfl,rfl,trivial⟩,t2,trivial⟩ rfl (by simp)
theorem Kp {TT:List (List Rat)->Prop} {w:List (List Rat)} {R b c M q p k k':Nat} (F:Fm TT w R b c M q p) {T1 T2:List LR} {A1 A2:LR} {x1 y1:Re} (d:Vm TT w b k k' T1 A1 T2 A2 x1 y1) (j:k+c+1<=M) (a:k'+c+1<=M):∃A,Vm TT w b k' k T2 A T1 A1 (-y1) x1/\CF 111 [.agg [.sl (.sl AA) T1,.sl AA A1,.sl (.sl AA) T2,.sl AA A2]] (.agg [.sl (.sl AA) T2,.sl AA A,.sl (.sl AA) T1,.sl AA A1]):=by
 obtain⟨A5,g,_,f⟩:=Ec F d.y a;refine⟨A5,⟨g,d.x⟩,?_⟩;refine AH Tryz.func111 (by kernel_rfl) rfl fun E h=>?_
 conv=>cbv
 refine cL h f ⟨t2,trivial⟩ ?_;try conv=>cbv
 refine⟨fun _=>Aq (by kernel_rfl),?_⟩;exact fA ⟨⟨rfl,rfl,rfl,rfl,rfl,trivial⟩,trivial⟩ rfl (by simp)
theorem IM {TT:List (List Rat)->Prop} {w:List (List Rat)} {R b c M q p k k' l l':Nat} (F:Fm TT w R b c M q p) {T1 T2 T3 T4:List LR} {A1 A2 A3 A4:LR} {x1 y1 x2 y2:Re} (g:Vm TT w b k k' T1 A1 T2 A2 x1 y1) (h:Vm TT w b l l' T3 A3 T4 A4 x2 y2) (J:k+l+c+2<=M) (G:k'+l'+c+2<=M):∃T A,Nm TT w b (k+k'+l+l'+3) T A (x1*x2+y1*y2)/\CF 96 [.agg [.sl (.sl AA) T1,.sl AA A1,.sl (.sl AA) T2,.sl AA A2],.agg [.sl (.sl AA) T3,.sl AA A3,.sl (.sl AA) T4,.sl AA A4]] (.AE [(true,[.sl (.sl AA) T,.sl AA A]),(false,[.int .i64 0])]):=by
 obtain⟨T5,A5,B,_,o⟩:=EN F g.x h.x (by omega) (by omega);obtain⟨T6,A6,C,_,v⟩:=EN F g.y h.y (by omega) (by omega);obtain⟨n,j,D,_,z⟩:=GH F B C (by omega) (by omega);refine⟨n,j,D.mono (by omega),?_⟩;refine AH Tryz.func96 (by kernel_rfl) rfl fun E f=>?_
 conv=>cbv
 refine cL f o ⟨t2,t2,trivial⟩ ?_;try conv=>cbv
 refine cL f v ⟨t2,t2,trivial⟩ ?_;try conv=>cbv
 intro H a;cases a.trans (show _=false by decide);conv=>cbv
 intro I d;cases d.trans (show _=false by decide);conv=>cbv
 refine cL f z ⟨t2,t2,trivial⟩ ?_;try conv=>cbv
 exact fA ⟨t3,t2,trivial⟩ rfl (by simp)
theorem QC {TT:List (List Rat)->Prop} {w:List (List Rat)} {R b c M q p k k' l l':Nat} (F:Fm TT w R b c M q p) {T1 T2 T3 T4:List LR} {A1 A2 A3 A4:LR} {x1 y1 x2 y2:Re} (v:Vm TT w b k k' T1 A1 T2 A2 x1 y1) (z:Vm TT w b l l' T3 A3 T4 A4 x2 y2) (B:k'+l+c+2<=M) (o:k+l'+c+2<=M):∃T A,Nm TT w b (k+k'+l+l'+3) T A (-y1*x2+x1*y2)/\CF 56 [.agg [.sl (.sl AA) T1,.sl AA A1,.sl (.sl AA) T2,.sl AA A2],.agg [.sl (.sl AA) T3,.sl AA A3,.sl (.sl AA) T4,.sl AA A4]] (.AE [(true,[.sl (.sl AA) T,.sl AA A]),(false,[.int .i64 0])]):=by
 obtain⟨A5,j,g⟩:=Kp F v (by omega) (by omega);obtain⟨f,d,n,h⟩:=IM F j z (by omega) (by omega);refine⟨f,d,n.mono (by omega),?_⟩;refine AH Tryz.func56 (by kernel_rfl) rfl fun E a=>?_
 conv=>cbv
 refine cL a g ⟨t4,trivial⟩ ?_;try conv=>cbv
 refine cL a h ⟨t4,t4,trivial⟩ ?_;try conv=>cbv
 refine⟨fun _=>Aq (by kernel_rfl),?_⟩;exact fA ⟨t3,t2,trivial⟩ rfl (by simp)
theorem Wj {TT:List (List Rat)->Prop} {w:List (List Rat)} {R b c M q p k k':Nat} (F:Fm TT w R b c M q p) {T1 T2:List LR} {A1 A2:LR} {x1 y1:Re} (a:Vm TT w b k k' T1 A1 T2 A2 x1 y1) (o:2*k+c+2<=M) (n:2*k'+c+2<=M):∃T A,Nm TT w b (2*k+2*k'+3) T A (x1*x1+y1*y1)/\CF 69 [.agg [.sl (.sl AA) T1,.sl AA A1,.sl (.sl AA) T2,.sl AA A2]] (.AE [(true,[.sl (.sl AA) T,.sl AA A]),(false,[.int .i64 0])]):=by
 obtain⟨f,d,h,g⟩:=IM F a a (by omega) (by omega);refine⟨f,d,h.mono (by omega),?_⟩;refine AH Tryz.func69 (by kernel_rfl) rfl fun E j=>?_
 conv=>cbv
 refine cL j g ⟨t4,t4,trivial⟩ ?_;try conv=>cbv
 exact fA ⟨t3,t2,trivial⟩ rfl (by simp)
theorem gz {TT:List (List Rat)->Prop} {w:List (List Rat)} {R b c M q p k k' l l':Nat} (F:Fm TT w R b c M q p) {T1 T2 T3 T4:List LR} {A1 A2 A3 A4:LR} {x1 y1 x2 y2:Re} (G:Vm TT w b k k' T1 A1 T2 A2 x1 y1) (H:Vm TT w b l l' T3 A3 T4 A4 x2 y2) (W:k+l+c+2<=M) (D:k'+l'+c+2<=M):∃T A h g,Vm TT w b (k+l+3) (k'+l'+3) T A h g ((x1+x2)*Re.ofRat (1/2)) ((y1+y2)*Re.ofRat (1/2))/\CF 54 [.agg [.sl (.sl AA) T1,.sl AA A1,.sl (.sl AA) T2,.sl AA A2],.agg [.sl (.sl AA) T3,.sl AA A3,.sl (.sl AA) T4,.sl AA A4]] (.AE [(true,[.sl (.sl AA) T,.sl AA A,.sl (.sl AA) h,.sl AA g]),(false,[.int .i64 0])]):=by
 obtain⟨O,S,Q,U,V⟩:=Bb (1/2:Rat);have C:(1/2:Rat)=Rat.divInt 1 2:=by decide +kernel
 obtain⟨j,a⟩:=CY (em [] (Re.ofRat (1/2)));have z:Nm TT w b 1 [] j (Re.ofRat (1/2)):=a ▸ KK F (by omega) (IZ (by decide +kernel) F.hb);obtain⟨L,J,N,K,B,o⟩:=M6 F G H (by omega) (by omega) (by omega) (by omega);obtain⟨T5,A5,T6,A6,v,n⟩:=M7 F B z (by omega) (by omega) (by omega);refine⟨T5,A5,T6,A6,v.mono (by omega) (by omega),?_⟩;refine AH Tryz.func54 (by kernel_rfl) rfl fun E f=>?_
 conv=>cbv
 refine cL f o ⟨t4,t4,trivial⟩ ?_;try conv=>cbv
 intro I d;cases d.trans (show _=false by decide);conv=>cbv
 refine cL f (K7 (by decide) (by decide) (by decide) C a) t2 ?_;try conv=>cbv
 refine cL f n ⟨t4,t2,trivial⟩ ?_;try conv=>cbv
 refine⟨fun _=>Aq (by kernel_rfl),?_⟩;exact fA ⟨⟨rfl,rfl,rfl,rfl,rfl,trivial⟩,t2,trivial⟩ rfl (by simp)
theorem Wl {TT:List (List Rat)->Prop} {w:List (List Rat)} {R b c M q p k k':Nat} (F:Fm TT w R b c M q p) {T1 T2:List LR} {A1 A2:LR} {x1 y1:Re} (f:Vm TT w b k k' T1 A1 T2 A2 x1 y1) (g:k+c+1<=M) (a:k'+c+1<=M):CF 160 [.agg [.sl (.sl AA) T1,.sl AA A1,.sl (.sl AA) T2,.sl AA A2]] (.one (.bool true)):=by
 refine AH Tryz.func160 (by kernel_rfl) rfl fun E d=>?_
 conv=>cbv
 refine cL d (UJ F f.x g) ⟨t2,trivial⟩ ?_;try conv=>cbv
 refine cL d (UJ F f.y a) ⟨t2,trivial⟩ ?_;try conv=>cbv
 exact fA ⟨t2,trivial⟩ rfl (by simp)
end Go.Abs
namespace Go.Abs
section
variable {α:Type} [Lean.Grind.CommRing α]
def DB:Nat->(Nat->α)->α
 | 0,_=>0
 | n+1,f=>DB n f+f n
theorem Mr {f g:Nat->α}:∀{n:Nat},(∀i,i<n->f i=g i)->DB n f=DB n g
 | 0,_=>rfl
 | n+1,h=>by rw[DB,DB,Mr (n:=n) (fun i a=>h i (by omega)),h n (by omega)]
theorem Vp (f:Nat->α) (m:Nat):∀n,DB (m+n) f=DB m f+DB n (fun i=>f (m+i))
 | 0=>by rw[DB,Nat.add_zero];grind
 | n+1=>by rw[<-Nat.add_assoc,DB,DB,Vp f m n];grind
theorem Vq (c:α) (f:Nat->α):∀n,c*DB n f=DB n (fun i=>c*f i)
 | 0=>by rw[DB,DB];grind
 | n+1=>by rw[DB,DB,<-Vq c f n];grind
theorem Vr:∀n,DB n (fun _=>(0:α))=0
 | 0=>rfl
 | n+1=>by rw[DB,Vr n];grind
end
noncomputable def cf (u:List (List Rat)) (x:Re) (i:Nat):Rat:=(co u x).getD i 0
section
variable {u w:List (List Rat)} {x y:Re}
theorem ZN (h:Ab u) (a:In u x) (d:In u y) (i:Nat):cf u (x+y) i=cf u x i+cf u y i:=by
 unfold cf;rw[Jt h a d];have l1:=CQ a;have l2:=CQ d;simp only[List.getD_eq_getElem?_getD,List.getElem?_zipWith]
 by_cases f:i<2^u.length
 ·rw[List.getElem?_eq_getElem (by omega:i<(co u x).length),List.getElem?_eq_getElem (by omega:i<(co u y).length)];rfl
 rw[List.getElem?_eq_none (by omega:(co u x).length<=i),List.getElem?_eq_none (by omega:(co u y).length<=i)]
 show (0:Rat)=0+0
 grind
theorem ZO (h:Ab u) (a:In u x) (c:Rat) (i:Nat):cf u (Re.ofRat c*x) i=c*cf u x i:=by
 unfold cf;rw[N2 h a];simp only[List.getD_eq_getElem?_getD,List.getElem?_map];cases (co u x)[i]? with
 | none=>show (0:Rat)=c*0;grind
 | some q=>rfl
theorem ZP (h:Ab u) (i:Nat):cf u 0 i=0:=by
 have:=ZO h (Bp u) 0 i;rw[show Re.ofRat 0*0=(0:Re) by grind] at this;rw[this];grind
theorem Hu {r:List Rat} {p q:Re} (h:Ab (r::u)) (a:In u p) (f:In u q) (e:x=p+q*rt u r) {i:Nat} (d:i<2^u.length):cf (r::u) x i=cf u p i:=by
 unfold cf;rw[Cr h a f e,List.getD_eq_getElem?_getD,List.getD_eq_getElem?_getD,List.getElem?_append_left (by rw[CQ a];exact d)]
theorem Ht {r:List Rat} {p q:Re} (h:Ab (r::u)) (a:In u p) (d:In u q) (e:x=p+q*rt u r) (i:Nat):cf (r::u) x (2^u.length+i)=cf u q i:=by
 unfold cf;rw[Cr h a d e,List.getD_eq_getElem?_getD,List.getD_eq_getElem?_getD,List.getElem?_append_right (by rw[CQ a];omega),CQ a,Nat.add_sub_cancel_left]
noncomputable def bb:List (List Rat)->Nat->Re
 | [],_=>1
 | r::u,i=>if i<2^u.length then bb u i else bb u (i-2^u.length)*rt u r
theorem Yy {r:List Rat} {i:Nat} (a:i<2^u.length):bb (r::u) i=bb u i:=if_pos a
theorem Yx {r:List Rat} (i:Nat):bb (r::u) (2^u.length+i)=bb u i*rt u r:=by
 rw[bb,if_neg (by omega),Nat.add_sub_cancel_left]
theorem expand:∀{u:List (List Rat)} {x:Re},Ab u->In u x->x=DB (2^u.length) (fun i=>Re.ofRat (cf u x i)*bb u i)
 | [],x,h,n=>by
  obtain⟨q,rfl⟩:=CI.1 n
  show _=DB 1 _
  rw[DB,DB]
  show _=0+Re.ofRat (cf [] (Re.ofRat q) 0)*1
  rw[cf,Co]
  show _=0+Re.ofRat q*1
  grind
 | r::u,x,h,n=>by
  obtain⟨p,q,d,j,e⟩:=CM.1 n
  rw[Bc,Vp,Mr (g:=fun i=>Re.ofRat (cf u p i)*bb u i) (fun i a=>by rw[Hu h d j e a,Yy a]),
   Mr (f:=fun i=>Re.ofRat (cf (r::u) x (2^u.length+i))*bb (r::u) (2^u.length+i)) (g:=fun i=>rt u r*(Re.ofRat (cf u q i)*bb u i)) (fun i a=>by rw[Ht h d j e,Yx];grind),<-Vq,<-expand h.1 d,<-expand h.1 j,e]
  grind
noncomputable def tr (u:List (List Rat)) (x:Re):Rat:=DB (2^u.length) (fun i=>cf u (x*bb u i) i)
end
end Go.Abs
namespace Go.Abs
structure Ml (w:List (List Rat)) (E:Nat):Prop where
 dn:∃K:Nat,0<K/\K<=2^E/\∀{x y:Re} {D D':Nat},In w x->In w y->DN D (co w x)->DN D' (co w y)->DN (D*D'*K) (co w (x*y))
 mx:∀{x y:Re} {B C:Nat},In w x->In w y->MX B (co w x)->MX C (co w y)->MX (B*C*2^E) (co w (x*y))
section
variable {u:List (List Rat)} {r:List Rat} {E R s t:Nat} {x y:Re}
end
end Go.Abs
namespace Go.Abs
def Rb (w:List (List Rat)):List (List Rat)->Nat->Prop
 | [],k=>k=0
 | r::u,k=>∃k1 k2,k=k1+k2/\Rb w u k1/\∃y,y*rt u r=1/\Bd k2 (co w y)
end Go.Abs
namespace Go.Abs
structure Wv (w:List (List Rat)) (σ κ ν:Nat) (v:Re):Prop where
 root:In w (Re.sqrt v)
 rb:Bd σ (co w (Re.sqrt v))
 inv:∃y,y*Re.sqrt v=1/\Bd κ (co w y)
 vb:Bd ν (co w v)
section
variable {w u:List (List Rat)} {E σ κ ν m:Nat}
end
end Go.Abs
namespace Go.Abs
def Dr:List (List Rat)->Nat->Re->Prop
 | [],_,_=>False
 | r::t,i,v=>(i<2^t.length/\Dr t i v)\/(2^t.length<=i/\(v=AN t r\/Dr t (i-2^t.length) v))
variable {i:Nat} {r:List Rat} {t u:List (List Rat)} {v x:Re}
theorem OL:∀{t:List (List Rat)} {i:Nat} {v:Re},Dr t i v->v∈BE t
 | r::t,i,v,h=>by
  rw[BE];rcases h with⟨_,h⟩ |⟨_,h | h⟩
  ·exact List.mem_cons_of_mem _ (OL h)
  ·exact h ▸ List.mem_cons_self
  exact List.mem_cons_of_mem _ (OL h)
theorem GC (a:i<2^t.length):Dr (r::t) i v↔Dr t i v:=
 ⟨fun h=>h.elim (·.2) fun h=>absurd h.1 (by omega),fun h=> .inl ⟨a,h⟩⟩
theorem GB:Dr (r::t) (2^t.length+i) v↔v=AN t r\/Dr t i v:=
 ⟨fun h=>h.elim (fun h=>absurd h.1 (by omega)) fun h=>by have:=h.2;rwa [Nat.add_sub_cancel_left] at this,fun h=> .inr ⟨by omega,by rwa [Nat.add_sub_cancel_left]⟩⟩
theorem iA (h:Ab u) (f:In u x) (a:∀i,i<2^u.length->cf u x i=0):x=0:=by
 rw[expand h f,Mr (g:=fun _=>(0:Re)) (fun i d=>by rw[a i d,show Re.ofRat 0=(0:Re) from rfl];grind)];exact Vr _
theorem Og:∀{t:List (List Rat)} {v y:Re},Ab t->v∈BE t->In t y->(∀i,i<2^t.length->Dr t i v->cf t y i=0)->
  ∀i,i<2^t.length->(Dr t i v->∃j,j<2^t.length/\¬Dr t j v/\cf t (y*Re.sqrt v) i=cf t y j/\∀D,D≠v->Dr t i D->Dr t j D)/\(¬Dr t i v->cf t (y*Re.sqrt v) i=0)
 | r::t,v,y,h,T,U,L,i,S=>by
  obtain⟨p,q,o,B,e⟩:=CM.1 U;have K:=Hc h;rw[BE,List.nodup_cons] at K;rw[Bc] at L S
  by_cases f:v=AN t r
  ·have O:∀{j},¬Dr t j v:=fun {j} g=>K.1 (f ▸ OL g)
   have N:q=0:=iA h.1 B fun j g=>by
    rw[<-Ht h o B e j];exact L _ (by omega) (GB.2 (.inl f))
   have F:y*Re.sqrt v=0+p*rt t r:=by
    show _=0+p*Re.sqrt (AN t r)
    rw[e,N,f];grind
   by_cases z:i<2^t.length
   ·exact⟨fun d=>absurd ((GC z).1 d) O,fun _=>by rw[Hu h (Bp t) o F z,ZP h.1]⟩
   obtain⟨j,rfl⟩:∃j,i=2^t.length+j:=⟨i-2^t.length,by omega⟩
   have g:j<2^t.length:=by omega
   refine⟨fun _=>⟨j,by rw[Bc];omega,fun d=>O ((GC g).1 d),?_,fun D n d=>?_⟩,fun d=>absurd (GB.2 (.inl f)) d⟩
   ·rw[Ht h (Bp t) o F,Hu h o B e g]
   rcases GB.1 d with G | G
   ·exact absurd (G.trans f.symm) n
   exact (GC g).2 G
  have J:v∈BE t:=(List.mem_cons.1 (by rwa [BE] at T)).resolve_left f;have Q:In t (Re.sqrt v):=JU J;have F:y*Re.sqrt v=p*Re.sqrt v+q*Re.sqrt v*rt t r:=by rw[e];grind
  have A:=Ar h.1 o Q;have C:=Ar h.1 B Q
  by_cases z:i<2^t.length
  ·obtain⟨k1,k2⟩:=Og h.1 J o (fun j g d=>by rw[<-Hu h o B e g];exact L j (by omega) ((GC g).2 d)) i z;refine⟨fun d=>?_,fun d=>?_⟩
   ·obtain⟨j,g,a,b,c⟩:=k1 ((GC z).1 d);exact⟨j,by rw[Bc];omega,fun d=>a ((GC g).1 d),by rw[Hu h A C F z,b,Hu h o B e g],fun D n I=>(GC g).2 (c D n ((GC z).1 I))⟩
   rw[Hu h A C F z];exact k2 fun H=>d ((GC z).2 H)
  obtain⟨i,rfl⟩:∃j,i=2^t.length+j:=⟨i-2^t.length,by omega⟩
  obtain⟨k1,k2⟩:=Og h.1 J B (fun j g d=>by rw[<-Ht h o B e j];exact L _ (by omega) (GB.2 (.inr d))) i (by omega);refine⟨fun d=>?_,fun d=>?_⟩
  ·obtain⟨j,g,a,b,c⟩:=k1 ((GB.1 d).resolve_left f);refine⟨2^t.length+j,by rw[Bc];omega,fun d=>(GB.1 d).elim f a,by rw[Ht h A C F,b,Ht h o B e],fun D n I=>?_⟩;rcases GB.1 I with G | G
   ·exact GB.2 (.inl G)
   exact GB.2 (.inr (c D n G))
  rw[Ht h A C F];exact k2 fun H=>d (GB.2 (.inr H))
theorem OA (ht:Ab t):∀{u:List (List Rat)},(∀v∈BE u,v∈BE t)->BK u t
 | [],_=>Ip t
 | r::u,h=>Io ht (OA ht fun v a=>h v (by rw[BE];exact List.mem_cons_of_mem _ a)) (JU (h _ (by rw[BE];exact List.mem_cons_self)))
theorem N0 (ht:Ab t):∀{u:List (List Rat)} {x:Re},Ab u->(∀v∈BE u,v∈BE t)->In u x->∀i,i<2^t.length->(cf t x i=0\/cf t x i∈co u x)/\(cf t x i≠0->∀v,Dr t i v->v∈BE u)
 | [],x,_,_,I,i,g=>by
  obtain⟨q,rfl⟩:=CI.1 I
  have e:cf t (Re.ofRat q) i=if i=0 then q else 0:=by
   rw[cf,Ih q ht,List.getD_eq_getElem?_getD];cases i with
   | zero=>rfl
   | succ i=>
    rw[if_neg (by omega),List.getElem?_cons_succ,List.getElem?_replicate]
    split <;> rfl
  have N:∀{t:List (List Rat)} {v:Re},¬Dr t 0 v:=fun {t v}=>by
   induction t with
   | nil=>exact id
   | cons r t S=>exact fun h=>S ((GC (DG _)).1 h)
  rw[e]
  split
  ·rename_i h;subst h
   exact⟨.inr (by rw[Co];exact List.mem_cons_self),fun _ v n=>absurd n N⟩
  exact⟨.inl rfl,fun h=>absurd rfl h⟩
 | r::u,x,hu,hV,I,i,g=>by
  obtain⟨p,q,H,C,e⟩:=CM.1 I;have z:=Hc hu;rw[BE,List.nodup_cons] at z;rw[BE] at hV ⊢;have f:∀v∈BE u,v∈BE t:=fun v n=>hV v (List.mem_cons_of_mem _ n)
  have D:=OA ht f;have B:=hV _ List.mem_cons_self;have F:=N0 ht hu.1 f H;have G:=N0 ht hu.1 f C
  have L:∀{y:Re},(∀i,i<2^t.length->(cf t y i=0\/cf t y i∈co u y)/\(cf t y i≠0->∀v,Dr t i v->v∈BE u))->∀i,i<2^t.length->Dr t i (AN u r)->cf t y i=0:=fun Q i g o=>
   Classical.byContradiction fun d=>z.1 ((Q i g).2 d _ o)
  obtain⟨k1,k2⟩:=Og ht B (D _ C) (L G) i g;have O:In t (rt u r):=JU B
  have J:cf t x i=cf t p i+cf t (q*Re.sqrt (AN u r)) i:=by
   rw[show x=p+q*Re.sqrt (AN u r) from e];exact ZN ht (D _ H) (Ar ht (D _ C) O) i
  rw[Cr hu H C e]
  by_cases o:Dr t i (AN u r)
  ·obtain⟨j,K,a,b,c⟩:=k1 o;rw[J,L F i g o,b,show (0:Rat)+cf t q j=cf t q j by grind];refine⟨(G j K).1.imp id fun h=>List.mem_append_right _ h,fun d v n=>?_⟩
   by_cases A:v=AN u r
   ·exact A ▸ List.mem_cons_self
   exact List.mem_cons_of_mem _ ((G j K).2 d v (c v A n))
  rw[J,k2 o,show cf t p i+(0:Rat)=cf t p i by grind];exact⟨(F i g).1.imp id fun h=>List.mem_append_left _ h,fun d v n=>List.mem_cons_of_mem _ ((F i g).2 d v n)⟩
theorem Rh {k:Nat} (ht:Ab t) (hu:Ab u) (hV:∀v∈BE u,v∈BE t) (g:In u x) (h:Bd k (co u x)):Bd k (co t x):=by
 obtain⟨D,d1,d2,d3,d4⟩:=h;have d:=OA ht hV _ g
 have key:∀q∈co t x,q=0\/q∈co u x:=fun q a=>by
  obtain⟨i,f,rfl⟩:=List.mem_iff_getElem.1 a;have j:cf t x i=(co t x)[i]:=by rw[cf,List.getD_eq_getElem?_getD,List.getElem?_eq_getElem f];rfl
  rw[<-j];exact (N0 ht hu hV g i (by rw[<-CQ d];exact f)).1
 refine⟨D,d1,d2,fun q a=>?_,fun q a=>?_⟩
 ·rcases key q a with rfl | h
  ·exact⟨0,by grind⟩
  exact d3 q h
 rcases key q a with rfl | h
 ·have:(0:Rat)<=((2^k:Nat):Rat):=Rat.natCast_nonneg
  constructor <;> grind
 exact d4 q h
end Go.Abs
namespace Go.Abs
section
variable {P:List (List Rat)->Prop} {R0:Nat}
theorem Tf.jw (I:Db P R0) {V:List Re} (hV:∀{u},P u->∀v∈Go.Abs.BE u,v∈V) (h3:V.length<=3) {u:List (List Rat)} (h:Tf P u):(u.length<=1->TB R0 u)/\TB (R0+CC 1 R0 1 R0) u:=by
 induction h with
 | nil=>exact⟨fun _ r d=>absurd d (by simp),fun r d=>absurd d (by simp)⟩
 | @Ax u G f ht B g F=>
  by_cases J:Sq u (AN f G)
  ·rw[EW J];exact F
  have a:=I.red B;have hu:=ht.red I;have j:=CG a;have hb:Bd R0 (co f (AN f G)):=by rw[Ez a];exact (I.tb B).head
  rw[D9 J]
  by_cases S:∀v∈Go.Abs.BE f,v∈Go.Abs.BE u
  ·have H:=Rh hu a.1 S j hb;refine⟨fun L r d=>?_,fun r d=>?_⟩
   ·rw[List.length_cons] at L;rcases List.mem_cons.1 d with rfl | d
    ·exact H
    exact F.1 (by omega) r d
   rcases List.mem_cons.1 d with rfl | d
   ·exact H.mono (by omega)
   exact F.2 r d
  obtain⟨v,W⟩:=Classical.not_forall.1 S;obtain⟨A,Q⟩:=Classical.not_imp.1 W;have z:In u (Re.sqrt v):=g _ (JU A);have N:AN f G≠v:=fun e=>J ((Ki (by have:=a.2.2.1;grind)).2 (e ▸ z))
  have o:=Hc (PL hu (g _ j) a.2.2.1 J);rw[Go.Abs.BE,Df (g _ j),List.nodup_cons] at o
  have hle:=I8 (l:=AN f G::v::Go.Abs.BE u) (m:=V) (by
   rw[List.nodup_cons,List.nodup_cons];refine⟨fun hm=>?_,Q,o.2⟩;rcases List.mem_cons.1 hm with e | hm
   ·exact N e
   ·exact o.1 hm) (fun x D=>by
   rcases List.mem_cons.1 D with rfl | D
   ·exact hV B _ (by rw[Go.Abs.BE];exact List.mem_cons_self)
   rcases List.mem_cons.1 D with rfl | D
   ·exact hV (I.sub B) _ A
   exact ht.BE I hV x D)
  rw[List.length_cons,List.length_cons,JT] at hle;have n:=I8 (Hc a) (hV B);rw[JT,List.length_cons] at n
  have C:u≠[]:=fun e=>by
   subst e;have:=PK a.1 g;subst this;simp[Go.Abs.BE] at A
  have O:u.length=1:=by
   have:0<u.length:=List.length_pos_iff.2 C;omega
  have U:f.length<=1:=by
   match u,O,hu,g with
   | [s],_,hu,g=>
    match f,a.1,g,n with
    | [],_,_,_=>exact Nat.zero_le _
    | [q],_,_,_=>exact Nat.le_refl 1
    | [q,r],T,g,_=>exact (Ux T hu g).elim
    | _::_::_::_,_,_,n=>simp only[List.length_cons] at n;omega
  have K:El f R0 (AN f G):=⟨j,hb⟩;have H:=(K.Be hu (F.1 (by omega)) a.1 (I.tb B).tail g).bd;have X:=JV (k:=f.length) (k':=1) (R0:=R0) (Hj:=R0) (h:=u.length) (h':=1) (R:=R0) (R':=R0) U (Nat.le_refl _) (by omega) (Nat.le_refl _);refine⟨fun L=>absurd L (by rw[List.length_cons];omega),fun r d=>?_⟩;rcases List.mem_cons.1 d with rfl | d
  ·exact H.mono (by omega)
  exact F.2 r d
end
end Go.Abs
namespace Go.Abs
abbrev Rn:Nat:=1540
abbrev Cn:Nat:=874000
end Go.Abs
namespace Go.Abs
section
variable {P:List (List Rat)->Prop} {V:List Re}
theorem Tf.Kj (I:Db P 256) (hV:∀{u},P u->∀v∈Go.Abs.BE u,v∈V) (h3:V.length<=3) {u:List (List Rat)} (h:Tf P u):TB Rn u:=(h.jw I hV h3).2.mono (by decide +kernel)
abbrev Ce:Nat:=226506
theorem Tf.Sk (I:Db P 256) (hV:∀{u},P u->∀v∈Go.Abs.BE u,v∈V) (h3:V.length<=3) {u w:List (List Rat)} {s:Nat} {x:Re} (hu:Tf P u) (hw:Tf P w) (d:BK u w) (a:El u s x):El w (s+Ce) x:=by
 by_cases f:w.length<=2
 ·refine (a.Be (hw.red I) (hw.Kj I hV h3) (hu.red I) (hu.Kj I hV h3) d).mono ?_;have:=JV (k:=u.length) (k':=3) (R0:=Rn) (Hj:=Rn) (h:=w.length) (h':=2) (R:=Rn) (R':=Rn) (Nat.le_trans (hu.len I hV) h3) (Nat.le_refl _) f (Nat.le_refl _);have n:CC 3 Rn 2 Rn=Ce:=by decide +kernel
  omega
 refine⟨d _ a.mem,(Rh (hw.red I) (hu.red I) (fun v j=>Classical.byContradiction fun g=>?_) a.mem a.bd).mono (Nat.le_add_right _ _)⟩
 have:=I8 (l:=v::Go.Abs.BE w) (m:=V) (List.nodup_cons.2 ⟨g,Hc (hw.red I)⟩) (fun x a=>by
  rcases List.mem_cons.1 a with rfl | a
  ·exact hu.BE I hV _ j
  exact hw.BE I hV x a)
 rw[List.length_cons,JT] at this;omega
end
end Go.Abs
namespace Go.Abs
def P4 (P:List (List Rat)->Prop) (n:Re) (u:List (List Rat)):Prop:=P u\/∃u0,Tf P u0/\In u0 n/\u<:+Ax u0 n
abbrev R4:Nat:=1920500
abbrev E4:Nat:=1942090
abbrev Rf:Nat:=150420000
section
variable {P:List (List Rat)->Prop} {V:List Re} {w:List (List Rat)} {n:Re}
end
end Go.Abs
