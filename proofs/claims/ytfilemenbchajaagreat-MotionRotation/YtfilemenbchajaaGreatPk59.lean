/- Part 60 of a proof. Conditions: each theorem's own. -/
import Derived.Test.YtfilemenbchajaaGreatPk52
import Derived.Test.YtfilemenbchajaaGreatPk58
set_option linter.all false
set_option maxHeartbeats 8000000
set_option maxRecDepth 20000
open Go.Proofs
namespace Go.Abs
open Go.RowKit
variable {AK AJ AO AZ:LR} {K0 M0 R0 b0 c0 k0 ka ko kr p0 q0:Nat} {AL AI AQ Aa:List LR} {TT Gy:List (List Rat)->Prop} {v xa xo ya yo:Re} {w w0:List (List Rat)}
theorem kX (F:Fd TT w) (d:Vm TT w 1950000 ko ko AL AK AI AJ xo yo) (ha:Vm TT w 1950000 ka ka AQ AO Aa AZ xa ya) (a:xa=0/\ya=0) (c:ka+111<=80000):CF 46 [.agg [.sl (.sl AA) AL,.sl AA AK,.sl (.sl AA) AI,.sl AA AJ],.agg [.sl (.sl AA) AQ,.sl AA AO,.sl (.sl AA) Aa,.sl AA AZ]] (.AE [(true,[.nil,.nil,.nil,.nil,.nil,.nil,.nil,.nil,.bool false]),(false,[.int .i64 6])]):=by
 refine BP Tryz.func46 (by kernel_rfl) rfl fun E b=>?_
 conv=>cbv
 refine cL b (WT F ha (by omega) (by omega) (e:=true) ⟨fun _=>a,fun _=>rfl⟩) ⟨t4,trivial⟩ ?_;try conv=>cbv
 exact fA ⟨⟨rfl,.inl rfl,.inl rfl,.inl rfl,.inl rfl,.inl rfl,.inl rfl,.inl rfl,.inl rfl,rfl,trivial⟩,t2,trivial⟩ rfl (by simp)
theorem lP {T1 T2:List LR} {A1 A2:LR} (g:Fm Gy w0 R0 b0 c0 M0 q0 p0) (b:Vm Gy w0 b0 k0 k0 T1 A1 T2 A2 xa ya) (n:xa*xa+ya*ya=v) (m:Rt Gy w0 b0 K0 TT w 1950000 kr v) (l:2*k0+c0+2<=M0) (p:4*k0+3<=K0):∃d c,Nm TT w 1950000 (kr) d c (Re.sqrt v)/\CF 144 [.agg [.sl (.sl AA) T1,.sl AA A1,.sl (.sl AA) T2,.sl AA A2]] (.AE [(true,[.sl (.sl AA) d,.sl AA c]),(false,[.int .i64 0])]):=by
 obtain⟨T5,A5,j,h⟩:=Wj g b (by omega) (by omega);obtain⟨T6,A6,k,_,i⟩:=m.get (show _<=K0 by omega) (j.cast n);refine⟨T6,A6,k.mono (by omega),?_⟩;refine BP Tryz.func144 (by kernel_rfl) rfl fun E f=>?_
 conv=>cbv
 refine cL f h ⟨t4,trivial⟩ ?_;try conv=>cbv
 intro o a;cases a.trans (show _=false by decide);conv=>cbv
 refine cL f i ⟨t2,trivial⟩ ?_;try conv=>cbv
 exact fA ⟨t3,t2,trivial⟩ rfl (by simp)
theorem lE (F:Fd TT w) {Ai:List LR} {Ah:LR} {vi:Re} {ki:Nat} (G:Vm TT w 1950000 ko ko AL AK AI AJ xo yo) (ha:Vm TT w 1950000 ka ka AQ AO Aa AZ xa ya) (K:Nm TT w 1950000 ki Ai Ah vi) (H:Fm Gy w0 R0 b0 c0 M0 q0 p0) (q:Vm Gy w0 b0 k0 k0 AQ AO Aa AZ xa ya) (N:xa*xa+ya*ya=v) (M:Rt Gy w0 b0 K0 TT w 1950000 kr v) (r:2*k0+c0+2<=M0) (J:4*k0+3<=K0) (L:Re.sqrt v≠0) (t:Re.sqrt v*vi=1) (Q:2*ka+2*ki+3*ko+47*kr+134<=80000):∃C y i d D z j f,Vm TT w 1950000 (ka+ki+1) (ka+ki+1) C y i d (xa*vi) (ya*vi)/\Vm TT w 1950000 (2*ka+2*ki+3*ko+6) (2*ka+2*ki+3*ko+6) D z j f (xo-((xa*vi)*xo-(ya*vi)*yo)) (yo-((xa*vi)*yo+(ya*vi)*xo))/\CF 49 [.agg [.sl (.sl AA) AL,.sl AA AK,.sl (.sl AA) AI,.sl AA AJ],.agg [.sl (.sl AA) AQ,.sl AA AO,.sl (.sl AA) Aa,.sl AA AZ]] (.agg [.sl (.sl AA) C,.sl AA y,.sl (.sl AA) i,.sl AA d,.sl (.sl AA) D,.sl AA z,.sl (.sl AA) j,.sl AA f,.bool false]):=by
 obtain⟨P,O,s,I⟩:=lP H q N M r J;obtain⟨CD,Bq,BA,Ay,a,k⟩:=MY F ha s K L t (by omega);obtain⟨A,u,B,x,n,l⟩:=PB F a G (by omega);obtain⟨g,b,h,c,o,m⟩:=PD F G n (by omega);refine⟨CD,Bq,BA,Ay,g,b,h,c,a.mono (by omega) (by omega),o.mono (by omega) (by omega),?_⟩;refine BP Tryz.func49 (by kernel_rfl) rfl fun E p=>?_
 conv=>cbv
 refine cL p I ⟨t4,trivial⟩ ?_;try conv=>cbv
 refine cL p k ⟨t4,t2,trivial⟩ ?_;try conv=>cbv
 refine cL p l ⟨t4,t4,trivial⟩ ?_;try conv=>cbv
 refine cL p m ⟨t4,t4,trivial⟩ ?_;try conv=>cbv
 refine cL p Uq ⟨t4,t4,rfl,trivial⟩ ?_;try conv=>cbv
 refine⟨fun _=>Aq (by kernel_rfl),?_⟩;exact fA ⟨⟨rfl,rfl,rfl,rfl,rfl,rfl,rfl,rfl,rfl,rfl,trivial⟩,trivial⟩ rfl (by simp)
theorem lI {x y i:Re} (h:(x*x+y*y)*(i*i)=1):x*i*(x*i)+y*i*(y*i)=1:=by rw[<-h];grind
theorem lS {X:List (el Bf)} {W:List UInt8} {ns:List Nu} (a1:ns=(runN (X.take 24)).1) {V:List Re} (C:V.length<=3) (j:∀n∈ns,BY V n):CF 9 [.agg [.sl (.pr .u8 (.pr .u8 (.pr .u8 (.pr .i8 .u8)))) X,.sl .u8 W]] (.one (.bool true)):=by
 obtain⟨w,L⟩:=GL C j;have F:=L.fd;obtain⟨Q,hQ⟩:∃z,z=FL ns W:=⟨_,rfl⟩
 obtain⟨c,hc⟩:=xB (decide (2<=Q.length));refine BP Tryz.func9 (by kernel_rfl) rfl fun E g=>?_
 conv=>cbv
 refine cL g (Hd a1 C j hQ (i':=2) ⟨rfl⟩ (by decide) hc) ⟨t2,rfl,trivial⟩ ?_;try conv=>cbv
 refine cL g KD trivial ?_;try conv=>cbv
 intro aa T;cases T.trans (rfl:_=false);conv=>cbv
 intro a2 u;conv=>cbv
 cases a2 <;> conv=>cbv
 ·have N:=CJ u;have hl:2<=Q.length:=of_decide_eq_true (hc.symm.trans N);obtain⟨x0,o⟩:=AG (l:=Q) (i:=0) (by omega);obtain⟨X0,Y0,G⟩:=C9 L j hQ o;have m:=G (b:=1950000) (k:=1) (by decide);obtain⟨x1,d⟩:=AG (l:=Q) (i:=1) (by omega);obtain⟨O,P,H⟩:=C9 L j hQ d;have a:=H (b:=1950000) (k:=1) (by decide)
  by_cases f:O=0/\P=0
  ·have cr:=kX F m a f (by omega);refine⟨x0,fun _=>⟨by omega,o⟩,?_⟩;try conv=>cbv
   refine⟨x1,fun _=>⟨by omega,d⟩,?_⟩;try conv=>cbv
   refine cL g cr ⟨t4,t4,trivial⟩ ?_;try conv=>cbv
   refine⟨fun _=>Aq (by kernel_rfl),?_⟩;refine⟨x1,fun _=>⟨by omega,d⟩,?_⟩;try conv=>cbv
   refine cL g (jW F a (by omega) (by omega) (e:=true) ⟨fun _=>f,fun _=>rfl⟩) ⟨t4,trivial⟩ ?_;try conv=>cbv
   intro ab Y;cases Y.trans (show _=true by decide);conv=>cbv
   intro ad Z;cases Z.trans (show _=true by decide);conv=>cbv
   exact fA ⟨t2,trivial⟩ rfl (by simp)
  have h:=H (b:=11500) (k:=20) (by decide);have S:=L.fe;obtain⟨_,_,M,_⟩:=WS S h (by decide) (by decide);obtain⟨n,p⟩:∃z,z=O*O+P*P:=⟨_,rfl⟩
  rw[<-p] at M;have t:0<=n:=by rw[p];exact jS O P
  have D:n≠0:=by rw[p];exact Kh f
  obtain⟨I,J,K⟩:=jT t D;obtain⟨TT,w4,F4,U,hr,R⟩:=jM L M (by decide) t;obtain⟨Ti,Ai,R⟩:=R D;have F:=F4;have m:=U.v (by decide) (by decide) (G (b:=11500) (k:=20) (by decide));have a:=U.v (by decide) (by decide) h;obtain⟨AI,AJ,AQ,AO,Aa,AZ,Ai,Ah,x,y,q⟩:=bO F m a R S h f p.symm hr (by decide) (by decide) I J (by omega);obtain⟨CD,Bq,BA,Ay,a7,a5,a8,a6,A,B,s⟩:=lE F m a R S h p.symm hr (by decide) (by decide) I J (by omega);refine⟨x0,fun _=>⟨by omega,o⟩,?_⟩;try conv=>cbv
  refine⟨x1,fun _=>⟨by omega,d⟩,?_⟩;try conv=>cbv
  refine cL g q ⟨t4,t4,trivial⟩ ?_;try conv=>cbv
  refine⟨fun _=>Aq (by kernel_rfl),?_⟩;refine⟨x1,fun _=>⟨by omega,d⟩,?_⟩;try conv=>cbv
  refine cL (r:= .one (.bool false)) g (jW F a (by omega) (by omega) (e:=false) ⟨fun z=>(by cases z),fun z=>absurd z f⟩) ⟨t4,trivial⟩ ?_;try conv=>cbv
  refine⟨x0,fun _=>⟨by omega,o⟩,?_⟩;try conv=>cbv
  refine⟨x1,fun _=>⟨by omega,d⟩,?_⟩;try conv=>cbv
  refine cL g s ⟨t4,t4,trivial⟩ ?_;try conv=>cbv
  refine cL (r:= .one (.bool true)) g (Oc F x y A B (mr:=false) (by rw[p] at K ⊢;exact (lI K).trans rfl) rfl rfl rfl (by grind) (by omega)) ⟨⟨rfl,rfl,rfl,rfl,rfl,rfl,rfl,rfl,rfl,trivial⟩,rfl,⟨rfl,rfl,rfl,rfl,rfl,rfl,rfl,rfl,rfl,trivial⟩,trivial⟩ ?_;try conv=>cbv
  refine⟨fun _=>Aq (by kernel_rfl),?_⟩;exact fA ⟨t2,trivial⟩ rfl (by simp)
 have N:=CK u;refine cL g KD trivial ?_;try conv=>cbv
 exact fA ⟨t2,trivial⟩ rfl (by simp)
end Go.Abs
