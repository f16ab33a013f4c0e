/- Part 58 of a proof. Conditions: each theorem's own. -/
import Derived.Test.YtfilemenbchajaaGreatPk53
import Derived.Test.YtfilemenbchajaaGreatPk56
set_option linter.all false
set_option maxHeartbeats 8000000
set_option maxRecDepth 20000
open Go.Proofs
namespace Go.Abs
open Go.RowKit
variable {A1 A2 A3 A4 A5 A6:LR} {M R b c d j k k' l l' p q:Nat} {T1 T2 T3 T4 T5 T6:List LR} {TT:List (List Rat)->Prop} {e:Bool} {w:List (List Rat)} {x x' x1 x2 y y' y1 y2 z z':Re}
theorem iZ:BW Tryz.prog 119 [.one (.AD 0 0 0),.agg [.sl (.sl AA) T1,.sl AA A1,.sl (.sl AA) T2,.sl AA A2],.one (.int .i64 0)] (.var 0 [.int .i64 0]) (.agg [.sl (.sl AA) T1,.sl AA A1,.sl (.sl AA) T2,.sl AA A2]):=by
 refine Bn Tryz.func119 (by kernel_rfl) rfl fun E i=>?_
 conv=>cbv
 intro g a;cases a.trans (show _=true by decide);conv=>cbv
 refine .inr ?_;intro h f;cases f.trans (show _=false by decide);conv=>cbv
 refine fun _=>⟨⟨⟨⟨rfl,rfl,rfl,rfl,rfl,trivial⟩,trivial⟩,rfl,by simp⟩,rfl⟩
theorem je:BW Tryz.prog 220 [.one (.AD 0 0 0),.agg [.sl (.sl AA) T1,.sl AA A1,.sl (.sl AA) T2,.sl AA A2]] (.var 0 [.int .i64 0]) (.AE [(true,[.sl (.sl AA) T1,.sl AA A1,.sl (.sl AA) T2,.sl AA A2]),(false,[.int .i64 0])]):=by
 refine Bn Tryz.func220 (by kernel_rfl) rfl fun E g=>?_
 conv=>cbv
 intro f a;cases a.trans (show _=false by decide);conv=>cbv
 refine fun _=>⟨⟨⟨⟨rfl,rfl,rfl,rfl,rfl,trivial⟩,t2,trivial⟩,rfl,by simp⟩,rfl⟩
theorem jC:BW Tryz.prog 209 [.one (.AD 0 0 0),.agg [.sl (.sl AA) T1,.sl AA A1],.one (.int .i64 0)] (.var 0 [.int .i64 0]) (.agg [.sl (.sl AA) T1,.sl AA A1]):=by
 refine Bn Tryz.func209 (by kernel_rfl) rfl fun E i=>?_
 conv=>cbv
 intro g a;cases a.trans (show _=true by decide);conv=>cbv
 refine .inr ?_;intro h f;cases f.trans (show _=false by decide);conv=>cbv
 refine fun _=>⟨⟨⟨t3,trivial⟩,rfl,by simp⟩,rfl⟩
theorem jB (F:Fm TT w R b c M q p) (ha:Nm TT w b k T1 A1 x) (hb:Nm TT w b l T2 A2 y) (h:k+c+1<=M) (i:l+c+1<=M):∃T A,Nm TT w b (k+l+1) T A (x+y)/\BW Tryz.prog 132 [.one (.AD 0 0 0),.agg [.sl (.sl AA) T1,.sl AA A1],.agg [.sl (.sl AA) T2,.sl AA A2]] (.var 0 [.int .i64 0]) (.agg [.sl (.sl AA) T,.sl AA A]):=by
 obtain⟨T5,A5,g,_,f⟩:=GH F ha hb (by omega) (by omega);refine⟨T5,A5,g,?_⟩;refine Bn Tryz.func132 (by kernel_rfl) rfl fun E a=>?_
 conv=>cbv
 refine cL a f ⟨t2,t2,trivial⟩ ?_;try conv=>cbv
 refine dL 0 (.var 0 [.int .i64 0]) a jC ⟨rfl,⟨⟨⟨rfl,rfl⟩,rfl⟩,t2,rfl,trivial⟩⟩ ?_;try conv=>cbv
 refine fun _=>⟨⟨⟨t3,trivial⟩,rfl,by simp⟩,rfl⟩
theorem iz (F:Fm TT w R b c M q p) (ha:Nm TT w b k T1 A1 x) (hb:Nm TT w b l T2 A2 y) (h:k+c+1<=M) (i:l+c+1<=M):∃T A,Nm TT w b (k+l+1) T A (x-y)/\BW Tryz.prog 129 [.one (.AD 0 0 0),.agg [.sl (.sl AA) T1,.sl AA A1],.agg [.sl (.sl AA) T2,.sl AA A2]] (.var 0 [.int .i64 0]) (.agg [.sl (.sl AA) T,.sl AA A]):=by
 obtain⟨T5,A5,g,_,f⟩:=KM F ha hb (by omega) (by omega);refine⟨T5,A5,g,?_⟩;refine Bn Tryz.func129 (by kernel_rfl) rfl fun E a=>?_
 conv=>cbv
 refine cL a f ⟨t2,t2,trivial⟩ ?_;try conv=>cbv
 refine dL 0 (.var 0 [.int .i64 0]) a jC ⟨rfl,⟨⟨⟨rfl,rfl⟩,rfl⟩,t2,rfl,trivial⟩⟩ ?_;try conv=>cbv
 refine fun _=>⟨⟨⟨t3,trivial⟩,rfl,by simp⟩,rfl⟩
theorem ie (F:Fm TT w R b c M q p) (ha:Nm TT w b k T1 A1 x) (hb:Nm TT w b l T2 A2 y) (h:k+c+1<=M) (i:l+c+1<=M):∃T A,Nm TT w b (k+l+1) T A (x*y)/\BW Tryz.prog 133 [.one (.AD 0 0 0),.agg [.sl (.sl AA) T1,.sl AA A1],.agg [.sl (.sl AA) T2,.sl AA A2]] (.var 0 [.int .i64 0]) (.agg [.sl (.sl AA) T,.sl AA A]):=by
 obtain⟨T5,A5,g,_,f⟩:=EN F ha hb (by omega) (by omega);refine⟨T5,A5,g,?_⟩;refine Bn Tryz.func133 (by kernel_rfl) rfl fun E a=>?_
 conv=>cbv
 refine cL a f ⟨t2,t2,trivial⟩ ?_;try conv=>cbv
 refine dL 0 (.var 0 [.int .i64 0]) a jC ⟨rfl,⟨⟨⟨rfl,rfl⟩,rfl⟩,t2,rfl,trivial⟩⟩ ?_;try conv=>cbv
 refine fun _=>⟨⟨⟨t3,trivial⟩,rfl,by simp⟩,rfl⟩
theorem ik (F:Fm TT w R b c M q p) (ha:Nm TT w b k T1 A1 x) (hb:Nm TT w b l T2 A2 y) (i:q*l+p<=d) (g:y≠0) (n:k+c+1<=M) (o:l+c+1<=M) (m:d+c+1<=M):∃T A,Nm TT w b (k+d+1) T A (x*As y)/\BW Tryz.prog 130 [.one (.AD 0 0 0),.agg [.sl (.sl AA) T1,.sl AA A1],.agg [.sl (.sl AA) T2,.sl AA A2]] (.var 0 [.int .i64 0]) (.agg [.sl (.sl AA) T,.sl AA A]):=by
 obtain⟨T5,A5,h,_,f⟩:=D1 F ha hb i g (by omega) (by omega) (by omega);refine⟨T5,A5,h,?_⟩;refine Bn Tryz.func130 (by kernel_rfl) rfl fun E a=>?_
 conv=>cbv
 refine cL a f ⟨t2,t2,trivial⟩ ?_;try conv=>cbv
 refine dL 0 (.var 0 [.int .i64 0]) a jC ⟨rfl,⟨⟨⟨rfl,rfl⟩,rfl⟩,t2,rfl,trivial⟩⟩ ?_;try conv=>cbv
 refine fun _=>⟨⟨⟨t3,trivial⟩,rfl,by simp⟩,rfl⟩
theorem ja:BW Tryz.prog 134 [.one (.AD 0 0 0),.agg [.sl (.sl AA) T1,.sl AA A1],.agg [.sl (.sl AA) T2,.sl AA A2]] (.var 0 [.int .i64 0]) (.AE [(true,[.sl (.sl AA) T1,.sl AA A1,.sl (.sl AA) T2,.sl AA A2]),(false,[.int .i64 0])]):=by
 refine Bn Tryz.func134 (by kernel_rfl) rfl fun E g=>?_
 conv=>cbv
 intro f a;cases a.trans (show _=false by decide);conv=>cbv
 refine fun _=>⟨⟨⟨⟨rfl,rfl,rfl,rfl,rfl,trivial⟩,t2,trivial⟩,rfl,by simp⟩,rfl⟩
theorem j9 (F:Fm TT w R b c M q p) (a:Nm TT w b l T1 A1 x2) (v:Nm TT w b l' T2 A2 y2) (S:Nm TT w b j T3 A3 z) (u:q*l+p<=d) (Q:q*l'+p<=d) (Y:d+c+1<=M) (W:l+c+1<=M) (X:l'+c+1<=M) (h3:j+c+1<=M) (f:x2≠0):∃T A C B h g,Kt TT w b (l'+d+1) (j+d+1) T A C B h g (un x2) (y2*As (fs x2 y2)) (z*As (fs x2 y2))/\BW Tryz.prog 210 [.one (.AD 0 0 0),.agg [.sl (.sl AA) T1,.sl AA A1],.agg [.sl (.sl AA) T2,.sl AA A2],.agg [.sl (.sl AA) T3,.sl AA A3]] (.var 0 [.int .i64 0]) (.AE [(true,[.sl (.sl AA) T,.sl AA A,.sl (.sl AA) C,.sl AA B,.sl (.sl AA) h,.sl AA g]),(false,[.int .i64 0])]):=by
 obtain⟨V,m,_,s⟩:=DQ F a (by omega);obtain⟨T6,A6,N,J⟩:=ik F a a u f (by omega) (by omega) (by omega);obtain⟨H,D,O,K⟩:=ik F v a u f (by omega) (by omega) (by omega);obtain⟨I,G,P,L⟩:=ik F S a u f (by omega) (by omega) (by omega);rw[Hx f,Ko f];refine⟨T6,A6,H,D,I,G,⟨(C6 F (by omega) (r:=1) (by decide +kernel) N (Cy f)),O.mono (by omega),P.mono (by omega)⟩,?_⟩;refine Bn Tryz.func210 (by kernel_rfl) rfl fun E o=>?_
 conv=>cbv
 refine cL o s ⟨t2,trivial⟩ ?_;try conv=>cbv
 intro x i;conv=>cbv
 refine .inr ?_;cases x <;> conv=>cbv
 ·have n:=Au i;refine dL 0 (.var 0 [.int .i64 0]) o J ⟨rfl,⟨⟨⟨rfl,rfl⟩,rfl⟩,t2,t2,trivial⟩⟩ ?_;try conv=>cbv
  refine dL 0 (.var 0 [.int .i64 0]) o K ⟨rfl,⟨⟨⟨rfl,rfl⟩,rfl⟩,t2,t2,trivial⟩⟩ ?_;try conv=>cbv
  refine dL 0 (.var 0 [.int .i64 0]) o L ⟨rfl,⟨⟨⟨rfl,rfl⟩,rfl⟩,t2,t2,trivial⟩⟩ ?_;try conv=>cbv
  refine⟨fun _=>Aq (by kernel_rfl),?_⟩;intro U t;cases t.trans (show _=false by decide);conv=>cbv
  refine fun _=>⟨⟨⟨⟨rfl,rfl,rfl,rfl,rfl,rfl,rfl,trivial⟩,t2,trivial⟩,rfl,by simp⟩,rfl⟩
 have n:=Av i;exact absurd (Dv.1 (m.symm.trans n)) f
theorem j8 (F:Fm TT w R b c M q p) (n:Nm TT w b l T1 A1 x2) (a:Nm TT w b l' T2 A2 y2) (S:Nm TT w b j T3 A3 z) (Y:q*l+p<=d) (f:q*l'+p<=d) (Z:d+c+1<=M) (W:l+c+1<=M) (X:l'+c+1<=M) (h3:j+c+1<=M) (t:x2=0) (x:y2≠0):∃T A D C h g,Kt TT w b (l'+d+1) (j+d+1) T A D C h g (un x2) (y2*As (fs x2 y2)) (z*As (fs x2 y2))/\BW Tryz.prog 210 [.one (.AD 0 0 0),.agg [.sl (.sl AA) T1,.sl AA A1],.agg [.sl (.sl AA) T2,.sl AA A2],.agg [.sl (.sl AA) T3,.sl AA A3]] (.var 0 [.int .i64 0]) (.AE [(true,[.sl (.sl AA) T,.sl AA A,.sl (.sl AA) D,.sl AA C,.sl (.sl AA) h,.sl AA g]),(false,[.int .i64 0])]):=by
 obtain⟨V,m,_,u⟩:=DQ F n (by omega);obtain⟨T6,A6,O,K⟩:=ik F n a f x (by omega) (by omega) (by omega);obtain⟨I,G,P,L⟩:=ik F a a f x (by omega) (by omega) (by omega);obtain⟨J,H,Q,N⟩:=ik F S a f x (by omega) (by omega) (by omega);rw[It t,Kn t];refine⟨T6,A6,I,G,J,H,⟨(C6 F (by omega) (r:=0) (by decide +kernel) O (show _=(0:Re) by rw[t];grind)),P.mono (by omega),Q.mono (by omega)⟩,?_⟩;refine Bn Tryz.func210 (by kernel_rfl) rfl fun E s=>?_
 conv=>cbv
 refine cL s u ⟨t2,trivial⟩ ?_;try conv=>cbv
 intro B i;conv=>cbv
 refine .inr ?_;cases B <;> conv=>cbv
 ·have o:=Au i;exact absurd (m.trans (by rw[t];exact Dw)) o
 have o:=Av i;refine dL 0 (.var 0 [.int .i64 0]) s K ⟨rfl,⟨⟨⟨rfl,rfl⟩,rfl⟩,t2,t2,trivial⟩⟩ ?_;try conv=>cbv
 refine dL 0 (.var 0 [.int .i64 0]) s L ⟨rfl,⟨⟨⟨rfl,rfl⟩,rfl⟩,t2,t2,trivial⟩⟩ ?_;try conv=>cbv
 refine dL 0 (.var 0 [.int .i64 0]) s N ⟨rfl,⟨⟨⟨rfl,rfl⟩,rfl⟩,t2,t2,trivial⟩⟩ ?_;try conv=>cbv
 refine⟨fun _=>Aq (by kernel_rfl),?_⟩;intro U v;cases v.trans (show _=false by decide);conv=>cbv
 refine fun _=>⟨⟨⟨⟨rfl,rfl,rfl,rfl,rfl,rfl,rfl,trivial⟩,t2,trivial⟩,rfl,by simp⟩,rfl⟩
theorem j7 (F:Fm TT w R b c M q p) (h:Nm TT w b l T1 A1 x2) (i:Nm TT w b l' T2 A2 y2) (v:Nm TT w b j T3 A3 z) (t:q*l+p<=d) (g:q*l'+p<=d) (u:d+c+1<=M) (r:l+c+1<=M) (s:l'+c+1<=M) (h3:j+c+1<=M) (x:¬(x2=0/\y2=0)):∃T A o n f a,Kt TT w b (l'+d+1) (j+d+1) T A o n f a (un x2) (y2*As (fs x2 y2)) (z*As (fs x2 y2))/\BW Tryz.prog 210 [.one (.AD 0 0 0),.agg [.sl (.sl AA) T1,.sl AA A1],.agg [.sl (.sl AA) T2,.sl AA A2],.agg [.sl (.sl AA) T3,.sl AA A3]] (.var 0 [.int .i64 0]) (.AE [(true,[.sl (.sl AA) T,.sl AA A,.sl (.sl AA) o,.sl AA n,.sl (.sl AA) f,.sl AA a]),(false,[.int .i64 0])]):=by
 by_cases m:x2=0
 ·exact j8 F h i v t g u r s h3 m fun e=>x ⟨m,e⟩
 exact j9 F h i v t g u r s h3 m
theorem jI:CF 221 [.agg [.sl (.sl AA) T1,.sl AA A1,.sl (.sl AA) T2,.sl AA A2,.sl (.sl AA) T3,.sl AA A3]] (.agg [.sl (.sl AA) T1,.sl AA A1,.sl (.sl AA) T2,.sl AA A2]):=by
 refine BP Tryz.func221 (by kernel_rfl) rfl fun E a=>?_
 conv=>cbv
 exact fA ⟨⟨rfl,rfl,rfl,rfl,rfl,trivial⟩,trivial⟩ rfl (by simp)
theorem kU (F:Fm TT w R b c M q p) (u:Vm TT w b k k' T1 A1 T2 A2 x1 y1) (D:Vm TT w b l l' T3 A3 T4 A4 x2 y2) (U:2*k+4*c+3<=M) (s:2*k'+4*c+3<=M) (V:2*l+4*c+3<=M) (t:2*l'+4*c+3<=M) (C:¬(x1=x2/\y1=y2)) (Q:q*(l+k+1)+p<=d) (o:q*(l'+k'+1)+p<=d) (S:d+c+1<=M) (X:2*k+2*k'+l+l'+c+6<=M):∃T A B v f a,Kt TT w b (l+k+d+2) (2*k+2*k'+l+l'+d+6) T A B v f a (un (y2-y1)) (-(x2-x1)*As (fs (y2-y1) (-(x2-x1)))) ((x1*(y2-y1)+y1* -(x2-x1))*As (fs (y2-y1) (-(x2-x1))))/\CF 113 [.agg [.sl (.sl AA) T1,.sl AA A1,.sl (.sl AA) T2,.sl AA A2],.agg [.sl (.sl AA) T3,.sl AA A3,.sl (.sl AA) T4,.sl AA A4]] (.AE [(true,[.sl (.sl AA) T,.sl AA A,.sl (.sl AA) B,.sl AA v,.sl (.sl AA) f,.sl AA a]),(false,[.int .i64 0])]):=by
 obtain⟨T5,A5,T6,A6,O,K⟩:=JR F D u (by omega) (by omega) (by omega) (by omega);obtain⟨W,P,L⟩:=az F O (by omega) (by omega);obtain⟨I,G,J,H,m,i,n,N⟩:=Zg F u P o Q S (by omega) (fun h=>C ⟨by grind,by grind⟩);refine⟨I,G,J,H,m,i,⟨n.x,n.y.mono (by omega),n.z.mono (by omega)⟩,?_⟩;refine BP Tryz.func113 (by kernel_rfl) rfl fun E g=>?_
 conv=>cbv
 refine cL (r:= .one (.bool false)) g (IH F u D U s V t (e:=false) ⟨fun h=>(by cases h),fun h=>absurd h C⟩) ⟨t4,t4,trivial⟩ ?_;try conv=>cbv
 refine cL g K ⟨t4,t4,trivial⟩ ?_;try conv=>cbv
 refine dL 12 (.var 1 [.int .i64 0]) g iZ ⟨rfl,⟨⟨⟨rfl,rfl⟩,rfl⟩,t4,rfl,trivial⟩⟩ ?_;try conv=>cbv
 refine cL g L ⟨t4,trivial⟩ ?_;try conv=>cbv
 refine dL 12 (.var 1 [.int .i64 0]) g N ⟨rfl,⟨⟨⟨rfl,rfl⟩,rfl⟩,t4,t4,trivial⟩⟩ ?_;try conv=>cbv
 refine⟨fun _=>Aq (by kernel_rfl),?_⟩;exact fA ⟨⟨rfl,rfl,rfl,rfl,rfl,rfl,rfl,trivial⟩,t2,trivial⟩ rfl (by simp)
theorem js (F:Fm TT w R b c M q p) (G:Vm TT w b k k' T1 A1 T2 A2 x1 y1) (H:Vm TT w b l l' T3 A3 T4 A4 x2 y2) (X:l+c+1<=M) (v:l'+c+1<=M) (D:¬(x2=0/\y2=0)) (V:q*l+p<=d) (u:q*l'+p<=d) (W:d+c+1<=M) (h1:k+k'+l+l'+c+4<=M):∃T A C B g f,Kt TT w b (l+d+1) (k+k'+l+l'+d+4) T A C B g f (un (-y2)) (x2*As (fs (-y2) x2)) ((-y2*x1+x2*y1)*As (fs (-y2) x2))/\CF 135 [.agg [.sl (.sl AA) T1,.sl AA A1,.sl (.sl AA) T2,.sl AA A2],.agg [.sl (.sl AA) T3,.sl AA A3,.sl (.sl AA) T4,.sl AA A4]] (.AE [(true,[.sl (.sl AA) T,.sl AA A,.sl (.sl AA) C,.sl AA B,.sl (.sl AA) g,.sl AA f]),(false,[.int .i64 0])]):=by
 obtain⟨A5,i,K⟩:=Kp F H (by omega) (by omega);obtain⟨T6,A6,Q,L⟩:=ie F i.x G.x (by omega) (by omega);obtain⟨T7,Y,S,N⟩:=ie F i.y G.y (by omega) (by omega);obtain⟨T8,Z,U,O⟩:=jB F Q S (by omega) (by omega);obtain⟨J,I,o,m,s,n,t,P⟩:=j7 F i.x i.y U u V W (by omega) (by omega) (by omega) (fun h=>D ⟨by grind,by grind⟩);refine⟨J,I,o,m,s,n,⟨t.x,t.y.mono (by omega),t.z.mono (by omega)⟩,?_⟩;refine BP Tryz.func135 (by kernel_rfl) rfl fun E a=>?_
 conv=>cbv
 refine cL (r:= .one (.bool false)) a (jW F H X v (e:=false) ⟨fun h=>(by cases h),fun h=>absurd h D⟩) ⟨t4,trivial⟩ ?_;try conv=>cbv
 refine cL a K ⟨t4,trivial⟩ ?_;try conv=>cbv
 refine dL 12 (.var 1 [.int .i64 0]) a L ⟨rfl,⟨⟨⟨rfl,rfl⟩,rfl⟩,t2,t2,trivial⟩⟩ ?_;try conv=>cbv
 refine dL 12 (.var 1 [.int .i64 0]) a N ⟨rfl,⟨⟨⟨rfl,rfl⟩,rfl⟩,t2,t2,trivial⟩⟩ ?_;try conv=>cbv
 refine dL 12 (.var 1 [.int .i64 0]) a O ⟨rfl,⟨⟨⟨rfl,rfl⟩,rfl⟩,t2,t2,trivial⟩⟩ ?_;try conv=>cbv
 refine dL 12 (.var 1 [.int .i64 0]) a P ⟨rfl,⟨⟨⟨rfl,rfl⟩,rfl⟩,t2,t2,t2,trivial⟩⟩ ?_;try conv=>cbv
 refine⟨fun _=>Aq (by kernel_rfl),?_⟩;exact fA ⟨⟨rfl,rfl,rfl,rfl,rfl,rfl,rfl,trivial⟩,t2,trivial⟩ rfl (by simp)
theorem lD (F:Fm TT w R b c M q p) (m:Kt TT w b k k' T1 A1 T2 A2 T3 A3 x y z) (hm:Kt TT w b l l' T4 A4 T5 A5 T6 A6 x' y' z') (t:2*k+4*c+3<=M) (s:2*l+4*c+3<=M) (h3:4*c+5<=M) (he:e=true↔x=x'/\y=y'):CF 212 [.agg [.sl (.sl AA) T1,.sl AA A1,.sl (.sl AA) T2,.sl AA A2,.sl (.sl AA) T3,.sl AA A3],.agg [.sl (.sl AA) T4,.sl AA A4,.sl (.sl AA) T5,.sl AA A5,.sl (.sl AA) T6,.sl AA A6]] (.one (.bool e)):=by
 obtain⟨r,f,_,n⟩:=EM F m.x hm.x (by omega) (by omega);obtain⟨o,a,_,g⟩:=EM F m.y hm.y (by omega) (by omega);refine BP Tryz.func212 (by kernel_rfl) rfl fun E i=>?_
 conv=>cbv
 refine cL i n ⟨t2,t2,trivial⟩ ?_;try conv=>cbv
 cases r <;> conv=>cbv
 ·exact fA ⟨⟨rfl,congrArg _ (by cases e with | false=>rfl | true=>exact absurd (f.2 (he.1 rfl).1) (by simp)),trivial⟩,trivial⟩ rfl (by simp)
 refine cL i g ⟨t2,t2,trivial⟩ ?_;try conv=>cbv
 exact fA ⟨⟨rfl,congrArg _ (by rw[Bool.eq_iff_iff,a,he];exact⟨fun h=>h.2,fun h=>⟨f.1 rfl,h⟩⟩),trivial⟩,trivial⟩ rfl (by simp)
theorem rEq (F:Fm TT w R b c M q p) (n:Kt TT w b k k' T1 A1 T2 A2 T3 A3 x y z) (hm:Kt TT w b l l' T4 A4 T5 A5 T6 A6 x' y' z') (s:2*k+4*c+3<=M) (i:2*l+4*c+3<=M) (t:2*k'+4*c+3<=M) (u:2*l'+4*c+3<=M) (h3:4*c+5<=M) (he:e=true↔(x=x'/\y=y')/\z=z'):CF 137 [.agg [.sl (.sl AA) T1,.sl AA A1,.sl (.sl AA) T2,.sl AA A2,.sl (.sl AA) T3,.sl AA A3],.agg [.sl (.sl AA) T4,.sl AA A4,.sl (.sl AA) T5,.sl AA A5,.sl (.sl AA) T6,.sl AA A6]] (.one (.bool e)):=by
 obtain⟨r,a⟩:=CV (x=x'/\y=y');obtain⟨o,f,_,g⟩:=EM F n.z hm.z (by omega) (by omega);refine BP Tryz.func137 (by kernel_rfl) rfl fun E m=>?_
 conv=>cbv
 refine cL m (lD F n hm s i h3 a) ⟨⟨rfl,rfl,rfl,rfl,rfl,rfl,trivial⟩,⟨rfl,rfl,rfl,rfl,rfl,rfl,trivial⟩,trivial⟩ ?_;try conv=>cbv
 cases r <;> conv=>cbv
 ·exact fA ⟨⟨rfl,congrArg _ (by cases e with | false=>rfl | true=>exact absurd (a.2 (he.1 rfl).1) (by simp)),trivial⟩,trivial⟩ rfl (by simp)
 refine cL m g ⟨t2,t2,trivial⟩ ?_;try conv=>cbv
 exact fA ⟨⟨rfl,congrArg _ (by rw[Bool.eq_iff_iff,f,he];exact⟨fun h=>h.2,fun h=>⟨a.1 rfl,h⟩⟩),trivial⟩,trivial⟩ rfl (by simp)
theorem lH (F:Fm TT w R b c M q p) (m:Kt TT w b k k' T1 A1 T2 A2 T3 A3 x y z) (L:2*k+4*c+3<=M) (B:k'+c+1<=M) (h3:4*c+5<=M) (D:x=1):CF 136 [.agg [.sl (.sl AA) T1,.sl AA A1,.sl (.sl AA) T2,.sl AA A2,.sl (.sl AA) T3,.sl AA A3]] (.one (.bool true)):=by
 obtain⟨K,n,_,s⟩:=DQ F m.x (by omega);obtain⟨r,a⟩:=CY (em [] (Re.ofRat ((1:Int):Rat)));have A:Nm TT w b 1 [] r (Re.ofRat ((1:Int):Rat)):=a ▸ KK F (by omega) (IZ (by decide +kernel) F.hb);obtain⟨G,i,_,t⟩:=EM F m.x A (by omega) (by omega);refine BP Tryz.func136 (by kernel_rfl) rfl fun E f=>?_
 conv=>cbv
 refine cL f (UJ F m.x (by omega)) ⟨t2,trivial⟩ ?_;try conv=>cbv
 intro N H;cases H.trans (rfl:_=false);conv=>cbv
 refine cL f (UJ F m.y (by omega)) ⟨t2,trivial⟩ ?_;try conv=>cbv
 intro I u;cases u.trans (rfl:_=false);conv=>cbv
 refine cL f (UJ F m.z B) ⟨t2,trivial⟩ ?_;try conv=>cbv
 intro J v;cases v.trans (rfl:_=false);conv=>cbv
 refine cL f s ⟨t2,trivial⟩ ?_;try conv=>cbv
 intro C g;conv=>cbv
 refine .inr ?_;cases C <;> conv=>cbv
 ·have o:=Au g;refine cL f (D6 (by decide) a) t1 ?_;try conv=>cbv
  refine cL f t ⟨t2,t2,trivial⟩ ?_;try conv=>cbv
  refine⟨fun _=>Aq (by kernel_rfl),?_⟩;exact fA ⟨⟨rfl,congrArg _ ((i.2 D).symm),trivial⟩,trivial⟩ rfl (by simp)
 have o:=Av g;exact absurd (n.symm.trans o) (by rw[D];exact fun h=>Uv (Dv.1 h))
theorem lG (F:Fm TT w R b c M q p) (i:Kt TT w b k k' T1 A1 T2 A2 T3 A3 x y z) (L:2*k+4*c+3<=M) (A:k'+c+1<=M) (h3:4*c+5<=M) (G:x=0) (H:y=1):CF 136 [.agg [.sl (.sl AA) T1,.sl AA A1,.sl (.sl AA) T2,.sl AA A2,.sl (.sl AA) T3,.sl AA A3]] (.one (.bool true)):=by
 obtain⟨K,m,_,r⟩:=DQ F i.x (by omega);obtain⟨o,a⟩:=CY (em [] (Re.ofRat ((1:Int):Rat)));have v:Nm TT w b 1 [] o (Re.ofRat ((1:Int):Rat)):=a ▸ KK F (by omega) (IZ (by decide +kernel) F.hb);obtain⟨C,h,_,s⟩:=EM F i.y v (by omega) (by omega);refine BP Tryz.func136 (by kernel_rfl) rfl fun E f=>?_
 conv=>cbv
 refine cL f (UJ F i.x (by omega)) ⟨t2,trivial⟩ ?_;try conv=>cbv
 intro N D;cases D.trans (rfl:_=false);conv=>cbv
 refine cL f (UJ F i.y (by omega)) ⟨t2,trivial⟩ ?_;try conv=>cbv
 intro I t;cases t.trans (rfl:_=false);conv=>cbv
 refine cL f (UJ F i.z A) ⟨t2,trivial⟩ ?_;try conv=>cbv
 intro J u;cases u.trans (rfl:_=false);conv=>cbv
 refine cL f r ⟨t2,trivial⟩ ?_;try conv=>cbv
 intro B g;conv=>cbv
 refine .inr ?_;cases B <;> conv=>cbv
 ·have n:=Au g;exact absurd (m.trans (by rw[G];exact Dw)) n
 have n:=Av g;refine cL f (D6 (by decide) a) t1 ?_;try conv=>cbv
 refine cL f s ⟨t2,t2,trivial⟩ ?_;try conv=>cbv
 refine⟨fun _=>Aq (by kernel_rfl),?_⟩;exact fA ⟨⟨rfl,congrArg _ ((h.2 H).symm),trivial⟩,trivial⟩ rfl (by simp)
theorem lF (F:Fm TT w R b c M q p) (g:Kt TT w b k k' T1 A1 T2 A2 T3 A3 x y z) (f:2*k+4*c+3<=M) (a:k'+c+1<=M) (h3:4*c+5<=M) (h:x=1\/x=0/\y=1):CF 136 [.agg [.sl (.sl AA) T1,.sl AA A1,.sl (.sl AA) T2,.sl AA A2,.sl (.sl AA) T3,.sl AA A3]] (.one (.bool true)):=by
 rcases h with h |⟨h,h'⟩
 ·exact lH F g f a h3 h
 exact lG F g f a h3 h h'
end Go.Abs
