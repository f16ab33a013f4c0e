/- Part 63 of a proof. Conditions: each theorem's own. -/
import Derived.Test.YtfilemenbchajaaGreatPk60
import Derived.Test.YtfilemenbchajaaGreatPk61
set_option linter.all false
set_option maxHeartbeats 8000000
set_option maxRecDepth 20000
open Go.Proofs
namespace Go.Abs
open Go.RowKit
variable {V:List Re}
theorem kg {P:List (List Rat)->Prop} {w0:List (List Rat)} (L:Pl P V w0) {T1 T2 T3 T4 T5:List LR} {A1 A2 A3 A4 A5:LR} {xp yp xq yq t:Re} (hp:∀{b k:Nat},227018<=k*b->Vm (Tf P) w0 b k k T1 A1 T2 A2 xp yp) (hq:∀{b k:Nat},227018<=k*b->Vm (Tf P) w0 b k k T3 A3 T4 A4 xq yq) (ht:∀{b k:Nat},227018<=k*b->Nm (Tf P) w0 b k T5 A5 t) (sd:Int):∃D u G x H y I A J B K C e,CF 42 [.agg [.sl (.sl AA) T1,.sl AA A1,.sl (.sl AA) T2,.sl AA A2],.agg [.sl (.sl AA) T3,.sl AA A3,.sl (.sl AA) T4,.sl AA A4],.agg [.sl (.sl AA) T5,.sl AA A5],.one (.int .i64 sd)] (.AE [(true,[.sl (.sl AA) D,.sl AA u,.sl (.sl AA) G,.sl AA x,.sl (.sl AA) H,.sl AA y]),(false,[.int .i64 e])])/\CF 43 [.agg [.sl (.sl AA) T1,.sl AA A1,.sl (.sl AA) T2,.sl AA A2],.agg [.sl (.sl AA) T3,.sl AA A3,.sl (.sl AA) T4,.sl AA A4],.agg [.sl (.sl AA) T5,.sl AA A5],.one (.int .i64 sd)] (.AE [(true,[.sl (.sl AA) I,.sl AA A,.sl (.sl AA) J,.sl AA B,.sl (.sl AA) K,.sl AA C]),(false,[.int .i64 e])])/\CF 44 [.agg [.sl (.sl AA) D,.sl AA u,.sl (.sl AA) G,.sl AA x,.sl (.sl AA) H,.sl AA y],.one (.int .i64 e),.agg [.sl (.sl AA) I,.sl AA A,.sl (.sl AA) J,.sl AA B,.sl (.sl AA) K,.sl AA C],.one (.int .i64 e)] (.one (.bool true)):=by
 have c:=hp (b:=1950000) (k:=1) (by decide);have d:=hq (b:=1950000) (k:=1) (by decide);have f:=ht (b:=1950000) (k:=1) (by decide)
 by_cases q:sd=1\/sd= -1
 ·by_cases a:t<0
  ·rcases q with rfl | rfl
   ·exact⟨[],[],[],[],[],[],[],[],[],[],[],[],7,kT L.fd c d f a (by decide),lC L.fd c d f a (by decide),jE (by decide)⟩
   exact⟨[],[],[],[],[],[],[],[],[],[],[],[],7,kS L.fd c d f a (by decide),lB L.fd c d f a (by decide),jE (by decide)⟩
  have a:0<=t:=by grind
  by_cases i:xp=xq/\yp=yq
  ·rcases q with rfl | rfl
   ·exact⟨[],[],[],[],[],[],[],[],[],[],[],[],11,kQ L.fd c d f a i (by decide),km L.fd c d f a i (by decide),jE (by decide)⟩
   exact⟨[],[],[],[],[],[],[],[],[],[],[],[],11,kP L.fd c d f a i (by decide),kl L.fd c d f a i (by decide),jE (by decide)⟩
  have g:=hp (b:=11500) (k:=20) (by decide);have h:=hq (b:=11500) (k:=20) (by decide);have Q:=ht (b:=11500) (k:=20) (by decide);obtain⟨_,_,_,_,hw,_⟩:=JR L.fe h g (by decide) (by decide) (by decide) (by decide);obtain⟨_,_,O,_⟩:=WS L.fe hw (by decide) (by decide);obtain⟨n,r⟩:∃z,z=(xq-xp)*(xq-xp)+(yq-yp)*(yq-yp):=⟨_,rfl⟩
  rw[<-r] at O;have M:0<=n:=by rw[r];exact jS _ _
  have N:n≠0:=by rw[r];exact Kh (fun z=>i ⟨by grind,by grind⟩)
  obtain⟨m,o,a1⟩:=jT M N;obtain⟨TT,w,F,U,R,s⟩:=jM L O (by decide) M;obtain⟨Ti,Ai,s⟩:=s N;have j:=U.v (by decide) (by decide) g;have l:=U.v (by decide) (by decide) h;have p:=U.up (by decide) Q;rcases q with rfl | rfl
  ·obtain⟨W,S,X,T,U3,B3,Z,a2,a3,c1⟩:=jO F j l p s L.fe g h U R r.symm i a m o (by decide);obtain⟨Y,C1,V2,C2,V3,C3,b1,b2,b3,c2⟩:=kj F j l p s L.fe g h U R r.symm i a m o (by decide);exact⟨W,S,X,T,U3,B3,Y,C1,V2,C2,V3,C3,0,c1,c2,jj F Z a2 a3 b1 b2 b3 (jn (fun z=>i ⟨by grind,by grind⟩)) rfl rfl rfl (by decide)⟩
  obtain⟨W,S,X,T,U3,B3,Z,a2,a3,c1⟩:=jN F j l p s L.fe g h U R r.symm i a m o (by decide);obtain⟨Y,C1,V2,C2,V3,C3,b1,b2,b3,c2⟩:=kh F j l p s L.fe g h U R r.symm i a m o (by decide);exact⟨W,S,X,T,U3,B3,Y,C1,V2,C2,V3,C3,0,c1,c2,jj F Z a2 a3 b1 b2 b3 (jn (fun z=>i ⟨by grind,by grind⟩)) rfl rfl rfl (by decide)⟩
 exact⟨[],[],[],[],[],[],[],[],[],[],[],[],1,kR L.fd c d f (fun z=>q (.inl z)) (fun z=>q (.inr z)),lA L.fd c d f (fun z=>q (.inl z)) (fun z=>q (.inr z)),jE (by decide)⟩
theorem lR {X:List (el Bf)} {W:List UInt8} {ns:List Nu} (m:ns=(runN (X.take 24)).1) (f:V.length<=3) (a:∀n∈ns,BY V n) {sd:Int}:CF 8 [.agg [.sl (.pr .u8 (.pr .u8 (.pr .u8 (.pr .i8 .u8)))) X,.sl .u8 W],.one (.int .i64 sd)] (.one (.bool true)):=by
 obtain⟨w,L⟩:=GL f a;have F:=L.fd;obtain⟨Q,s⟩:∃z,z=FL ns W:=⟨_,rfl⟩
 obtain⟨c,x⟩:=xB (decide (2<=Q.length));obtain⟨Tt,Z,t,u,S⟩:=j5 (W:=W) m f a L;refine BP Tryz.func8 (by kernel_rfl) rfl fun E d=>?_
 conv=>cbv
 refine cL d (Hd m f a s (i':=2) ⟨rfl⟩ (by decide) x) ⟨t2,rfl,trivial⟩ ?_;try conv=>cbv
 refine cL d jF trivial ?_;try conv=>cbv
 intro Y r;cases r.trans (rfl:_=false);conv=>cbv
 intro v j;conv=>cbv
 cases v <;> conv=>cbv
 ·have q:=CJ j;have hl:2<=Q.length:=of_decide_eq_true (x.symm.trans q);obtain⟨y,g⟩:=AG (l:=Q) (i:=0) (by omega);obtain⟨X0,Y0,o⟩:=C9 L a s g;have T:=o (b:=1950000) (k:=1) (by decide);obtain⟨x1,h⟩:=AG (l:=Q) (i:=1) (by omega);obtain⟨X1,Y1,p⟩:=C9 L a s h;have U:=p (b:=1950000) (k:=1) (by decide);obtain⟨I,A,J,B,K,C,M,D,N,G,O,H,e,P,R,cs⟩:=kg L o p u sd;refine cL d S ⟨t2,trivial⟩ ?_;try conv=>cbv
  refine⟨y,fun _=>⟨by omega,g⟩,?_⟩;try conv=>cbv
  refine⟨x1,fun _=>⟨by omega,h⟩,?_⟩;try conv=>cbv
  refine cL d P ⟨t4,t4,t2,rfl,trivial⟩ ?_;try conv=>cbv
  refine⟨fun _=>Aq (by kernel_rfl),?_⟩;refine⟨y,fun _=>⟨by omega,g⟩,?_⟩;try conv=>cbv
  refine⟨x1,fun _=>⟨by omega,h⟩,?_⟩;try conv=>cbv
  refine cL d R ⟨t4,t4,t2,rfl,trivial⟩ ?_;try conv=>cbv
  refine⟨fun _=>Aq (by kernel_rfl),?_⟩;refine cL d cs ⟨⟨rfl,rfl,rfl,rfl,rfl,rfl,trivial⟩,rfl,⟨rfl,rfl,rfl,rfl,rfl,rfl,trivial⟩,rfl,trivial⟩ ?_;try conv=>cbv
  exact fA ⟨t2,trivial⟩ rfl (by simp)
 have q:=CK j;refine cL d jF trivial ?_;try conv=>cbv
 exact fA ⟨t2,trivial⟩ rfl (by simp)
end Go.Abs
