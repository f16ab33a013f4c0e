/- Part 54 of a proof. Conditions: each theorem's own. -/
import Derived.Test.YtfilemenbchajaaGreatPk45
import Derived.Test.YtfilemenbchajaaGreatPk46
set_option linter.all false
set_option maxHeartbeats 8000000
set_option maxRecDepth 20000
open Go.Proofs
namespace Go.Abs
open Go.RowKit
variable {A1 A2 A3 A4:LR} {M R b c d k k' l l' p q:Nat} {T1 T2 T3 T4:List LR} {TT:List (List Rat)->Prop} {w:List (List Rat)} {x1 x2 y1 y2:Re}
theorem HA:BW Tryz.prog 121 [.one (.AD 0 0 0),.agg [.sl (.sl AA) T1,.sl AA A1],.one (.int .i64 0)] (.var 0 [.int .i64 0]) (.agg [.sl (.sl AA) T1,.sl AA A1]):=by
 refine Bn Tryz.func121 (by kernel_rfl) rfl fun E i=>?_
 conv=>cbv
 intro g a;cases a.trans (show _=true by decide);conv=>cbv
 refine .inr ?_;intro h f;cases f.trans (show _=false by decide);conv=>cbv
 refine fun _=>⟨⟨⟨t3,trivial⟩,rfl,by simp⟩,rfl⟩
theorem Zi (F:Fm TT w R b c M q p) (S:Vm TT w b k k' T1 A1 T2 A2 x1 y1) (f:Vm TT w b l l' T3 A3 T4 A4 x2 y2) (B:q*l+p<=d) (Q:q*l'+p<=d) (W:d+c+1<=M) (V:k+k'+l+l'+c+4<=M) (g:x2≠0):∃T A G D i h,Kt TT w b (l'+d+1) (k+k'+l+l'+d+4) T A G D i h (un x2) (y2*As (fs x2 y2)) ((x1*x2+y1*y2)*As (fs x2 y2))/\BW Tryz.prog 124 [.one (.AD 0 0 0),.agg [.sl (.sl AA) T1,.sl AA A1,.sl (.sl AA) T2,.sl AA A2],.agg [.sl (.sl AA) T3,.sl AA A3,.sl (.sl AA) T4,.sl AA A4]] (.var 0 [.int .i64 0]) (.AE [(true,[.sl (.sl AA) T,.sl AA A,.sl (.sl AA) G,.sl AA D,.sl (.sl AA) i,.sl AA h]),(false,[.int .i64 0])]):=by
 obtain⟨T5,A5,L,H⟩:=IG F S f (by omega) (by omega);obtain⟨U,m,v,_⟩:=DQ F f.x (by omega);obtain⟨T6,A6,N,I,_⟩:=D1 F f.x f.x B g (by omega) (by omega) (by omega);obtain⟨t,o,O,J,_⟩:=D1 F f.y f.x B g (by omega) (by omega) (by omega);obtain⟨u,s,P,K,_⟩:=D1 F L f.x B g (by omega) (by omega) (by omega);rw[Hx g,Ko g];refine⟨T6,A6,t,o,u,s,⟨(C6 F (by omega) (r:=1) (by decide +kernel) N (Cy g)),O.mono (by omega),P.mono (by omega)⟩,?_⟩;refine Bn Tryz.func124 (by kernel_rfl) rfl fun E a=>?_
 conv=>cbv
 refine cL a H ⟨t4,t4,trivial⟩ ?_;try conv=>cbv
 refine .inr (.inr (.inr (.inl ⟨0,.var 0 [.int .i64 0],[.one (.AD 0 0 0),.agg [.sl (.sl AA) T5,.sl AA A5],.one (.int .i64 0)],.agg [.sl (.sl AA) T5,.sl AA A5],fun _=>⟨rfl,⟨⟨⟨rfl,rfl⟩,rfl⟩,t2,rfl,trivial⟩⟩,fun _=>AP a (HA),?_⟩)));try conv=>cbv
 refine cL a v ⟨t2,trivial⟩ ?_;try conv=>cbv
 intro C j;conv=>cbv
 refine .inr ?_;cases C <;> conv=>cbv
 ·have n:=Au j;refine cL a I ⟨t2,t2,trivial⟩ ?_;try conv=>cbv
  refine .inr (.inr (.inr (.inl ⟨0,.var 0 [.int .i64 0],[.one (.AD 0 0 0),.agg [.sl (.sl AA) T6,.sl AA A6],.one (.int .i64 0)],.agg [.sl (.sl AA) T6,.sl AA A6],fun _=>⟨rfl,⟨⟨⟨rfl,rfl⟩,rfl⟩,t2,rfl,trivial⟩⟩,fun _=>AP a (HA),?_⟩)));try conv=>cbv
  refine cL a J ⟨t2,t2,trivial⟩ ?_;try conv=>cbv
  refine .inr (.inr (.inr (.inl ⟨0,.var 0 [.int .i64 0],[.one (.AD 0 0 0),.agg [.sl (.sl AA) t,.sl AA o],.one (.int .i64 0)],.agg [.sl (.sl AA) t,.sl AA o],fun _=>⟨rfl,⟨⟨⟨rfl,rfl⟩,rfl⟩,t2,rfl,trivial⟩⟩,fun _=>AP a (HA),?_⟩)));try conv=>cbv
  refine cL a K ⟨t2,t2,trivial⟩ ?_;try conv=>cbv
  refine .inr (.inr (.inr (.inl ⟨0,.var 0 [.int .i64 0],[.one (.AD 0 0 0),.agg [.sl (.sl AA) u,.sl AA s],.one (.int .i64 0)],.agg [.sl (.sl AA) u,.sl AA s],fun _=>⟨rfl,⟨⟨⟨rfl,rfl⟩,rfl⟩,t2,rfl,trivial⟩⟩,fun _=>AP a (HA),?_⟩)));try conv=>cbv
  refine⟨fun _=>Aq (by kernel_rfl),?_⟩;intro Cg z;cases z.trans (show _=false by decide);conv=>cbv
  refine fun _=>⟨⟨⟨⟨rfl,rfl,rfl,rfl,rfl,rfl,rfl,trivial⟩,t2,trivial⟩,rfl,by simp⟩,rfl⟩
 have n:=Av j;exact absurd (Dv.1 (m.symm.trans n)) g
theorem Zh (F:Fm TT w R b c M q p) (S:Vm TT w b k k' T1 A1 T2 A2 x1 y1) (g:Vm TT w b l l' T3 A3 T4 A4 x2 y2) (W:q*l+p<=d) (f:q*l'+p<=d) (X:d+c+1<=M) (V:k+k'+l+l'+c+4<=M) (o:x2=0) (C:y2≠0):∃T A H G i h,Kt TT w b (l'+d+1) (k+k'+l+l'+d+4) T A H G i h (un x2) (y2*As (fs x2 y2)) ((x1*x2+y1*y2)*As (fs x2 y2))/\BW Tryz.prog 124 [.one (.AD 0 0 0),.agg [.sl (.sl AA) T1,.sl AA A1,.sl (.sl AA) T2,.sl AA A2],.agg [.sl (.sl AA) T3,.sl AA A3,.sl (.sl AA) T4,.sl AA A4]] (.var 0 [.int .i64 0]) (.AE [(true,[.sl (.sl AA) T,.sl AA A,.sl (.sl AA) H,.sl AA G,.sl (.sl AA) i,.sl AA h]),(false,[.int .i64 0])]):=by
 obtain⟨T5,A5,N,I⟩:=IG F S g (by omega) (by omega);obtain⟨U,m,z,_⟩:=DQ F g.x (by omega);obtain⟨T6,A6,O,J,_⟩:=D1 F g.x g.y f C (by omega) (by omega) (by omega);obtain⟨u,s,P,K,_⟩:=D1 F g.y g.y f C (by omega) (by omega) (by omega);obtain⟨v,t,Q,L,_⟩:=D1 F N g.y f C (by omega) (by omega) (by omega);rw[It o,Kn o];refine⟨T6,A6,u,s,v,t,⟨(C6 F (by omega) (r:=0) (by decide +kernel) O (show _=(0:Re) by rw[o];grind)),P.mono (by omega),Q.mono (by omega)⟩,?_⟩;refine Bn Tryz.func124 (by kernel_rfl) rfl fun E a=>?_
 conv=>cbv
 refine cL a I ⟨t4,t4,trivial⟩ ?_;try conv=>cbv
 refine .inr (.inr (.inr (.inl ⟨0,.var 0 [.int .i64 0],[.one (.AD 0 0 0),.agg [.sl (.sl AA) T5,.sl AA A5],.one (.int .i64 0)],.agg [.sl (.sl AA) T5,.sl AA A5],fun _=>⟨rfl,⟨⟨⟨rfl,rfl⟩,rfl⟩,t2,rfl,trivial⟩⟩,fun _=>AP a (HA),?_⟩)));try conv=>cbv
 refine cL a z ⟨t2,trivial⟩ ?_;try conv=>cbv
 intro D j;conv=>cbv
 refine .inr ?_;cases D <;> conv=>cbv
 ·have n:=Au j;exact absurd (m.trans (by rw[o];exact Dw)) n
 have n:=Av j;refine cL a J ⟨t2,t2,trivial⟩ ?_;try conv=>cbv
 refine .inr (.inr (.inr (.inl ⟨0,.var 0 [.int .i64 0],[.one (.AD 0 0 0),.agg [.sl (.sl AA) T6,.sl AA A6],.one (.int .i64 0)],.agg [.sl (.sl AA) T6,.sl AA A6],fun _=>⟨rfl,⟨⟨⟨rfl,rfl⟩,rfl⟩,t2,rfl,trivial⟩⟩,fun _=>AP a (HA),?_⟩)));try conv=>cbv
 refine cL a K ⟨t2,t2,trivial⟩ ?_;try conv=>cbv
 refine .inr (.inr (.inr (.inl ⟨0,.var 0 [.int .i64 0],[.one (.AD 0 0 0),.agg [.sl (.sl AA) u,.sl AA s],.one (.int .i64 0)],.agg [.sl (.sl AA) u,.sl AA s],fun _=>⟨rfl,⟨⟨⟨rfl,rfl⟩,rfl⟩,t2,rfl,trivial⟩⟩,fun _=>AP a (HA),?_⟩)));try conv=>cbv
 refine cL a L ⟨t2,t2,trivial⟩ ?_;try conv=>cbv
 refine .inr (.inr (.inr (.inl ⟨0,.var 0 [.int .i64 0],[.one (.AD 0 0 0),.agg [.sl (.sl AA) v,.sl AA t],.one (.int .i64 0)],.agg [.sl (.sl AA) v,.sl AA t],fun _=>⟨rfl,⟨⟨⟨rfl,rfl⟩,rfl⟩,t2,rfl,trivial⟩⟩,fun _=>AP a (HA),?_⟩)));try conv=>cbv
 refine⟨fun _=>Aq (by kernel_rfl),?_⟩;intro Cg B;cases B.trans (show _=false by decide);conv=>cbv
 refine fun _=>⟨⟨⟨⟨rfl,rfl,rfl,rfl,rfl,rfl,rfl,trivial⟩,t2,trivial⟩,rfl,by simp⟩,rfl⟩
theorem Zg (F:Fm TT w R b c M q p) (s:Vm TT w b k k' T1 A1 T2 A2 x1 y1) (r:Vm TT w b l l' T3 A3 T4 A4 x2 y2) (n:q*l+p<=d) (g:q*l'+p<=d) (o:d+c+1<=M) (m:k+k'+l+l'+c+4<=M) (t:¬(x2=0/\y2=0)):∃T A j i f a,Kt TT w b (l'+d+1) (k+k'+l+l'+d+4) T A j i f a (un x2) (y2*As (fs x2 y2)) ((x1*x2+y1*y2)*As (fs x2 y2))/\BW Tryz.prog 124 [.one (.AD 0 0 0),.agg [.sl (.sl AA) T1,.sl AA A1,.sl (.sl AA) T2,.sl AA A2],.agg [.sl (.sl AA) T3,.sl AA A3,.sl (.sl AA) T4,.sl AA A4]] (.var 0 [.int .i64 0]) (.AE [(true,[.sl (.sl AA) T,.sl AA A,.sl (.sl AA) j,.sl AA i,.sl (.sl AA) f,.sl AA a]),(false,[.int .i64 0])]):=by
 by_cases h:x2=0
 ·exact Zh F s r n g o m h fun e=>t ⟨h,e⟩
 exact Zi F s r n g o m h
theorem az (F:Fm TT w R b c M q p) (a:Vm TT w b k k' T1 A1 T2 A2 x1 y1) (i:k+c+1<=M) (j:k'+c+1<=M):∃A,Vm TT w b k' k T2 A2 T1 A y1 (-x1)/\CF 128 [.agg [.sl (.sl AA) T1,.sl AA A1,.sl (.sl AA) T2,.sl AA A2]] (.agg [.sl (.sl AA) T2,.sl AA A2,.sl (.sl AA) T1,.sl AA A]):=by
 obtain⟨A5,g,f,_⟩:=Ec F a.x i;refine⟨A5,⟨a.y,g⟩,?_⟩;refine BP Tryz.func128 (by kernel_rfl) rfl fun E h=>?_
 conv=>cbv
 refine cL h f ⟨t2,trivial⟩ ?_;try conv=>cbv
 refine⟨fun _=>Aq (by kernel_rfl),?_⟩;exact fA ⟨⟨rfl,rfl,rfl,rfl,rfl,trivial⟩,trivial⟩ rfl (by simp)
theorem ay (F:Fm TT w R b c M q p) (P:Vm TT w b k k' T1 A1 T2 A2 x1 y1) (G:Vm TT w b l l' T3 A3 T4 A4 x2 y2) (O:l+c+1<=M) (o:l'+c+1<=M) (D:¬(x2=0/\y2=0)) (L:q*l+p<=d) (n:q*l'+p<=d) (N:d+c+1<=M) (Q:k+k'+l+l'+c+4<=M):∃T A v s g a,Kt TT w b (l+d+1) (k+k'+l+l'+d+4) T A v s g a (un y2) (-x2*As (fs y2 (-x2))) ((x1*y2+y1* -x2)*As (fs y2 (-x2)))/\CF 114 [.agg [.sl (.sl AA) T1,.sl AA A1,.sl (.sl AA) T2,.sl AA A2],.agg [.sl (.sl AA) T3,.sl AA A3,.sl (.sl AA) T4,.sl AA A4]] (.AE [(true,[.sl (.sl AA) T,.sl AA A,.sl (.sl AA) v,.sl AA s,.sl (.sl AA) g,.sl AA a]),(false,[.int .i64 0])]):=by
 obtain⟨H,K,I⟩:=az F G (by omega) (by omega);obtain⟨B,t,C,u,i,f,j,J⟩:=Zg F P K n L N (by omega) (fun h=>D ⟨by grind,by grind⟩);refine⟨B,t,C,u,i,f,⟨j.x,j.y.mono (by omega),j.z.mono (by omega)⟩,?_⟩;refine BP Tryz.func114 (by kernel_rfl) rfl fun E m=>?_
 conv=>cbv
 refine cL (r:= .one (.bool false)) m (WT F G O o (e:=false) ⟨fun h=>(by cases h),fun h=>absurd h D⟩) ⟨t4,trivial⟩ ?_;try conv=>cbv
 refine cL m I ⟨t4,trivial⟩ ?_;try conv=>cbv
 refine .inr (.inr (.inr (.inl ⟨10,.var 1 [.int .i64 0],[.one (.AD 0 0 0),.agg [.sl (.sl AA) T1,.sl AA A1,.sl (.sl AA) T2,.sl AA A2],.agg [.sl (.sl AA) T4,.sl AA A4,.sl (.sl AA) T3,.sl AA H]],.AE [(true,[.sl (.sl AA) B,.sl AA t,.sl (.sl AA) C,.sl AA u,.sl (.sl AA) i,.sl AA f]),(false,[.int .i64 0])],fun _=>⟨rfl,⟨⟨⟨rfl,rfl⟩,rfl⟩,t4,t4,trivial⟩⟩,fun _=>AP m (J),?_⟩)));try conv=>cbv
 refine⟨fun _=>Aq (by kernel_rfl),?_⟩;exact fA ⟨⟨rfl,rfl,rfl,rfl,rfl,rfl,rfl,trivial⟩,t2,trivial⟩ rfl (by simp)
end Go.Abs
