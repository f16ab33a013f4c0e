/- Part 32 of a proof. Conditions: each theorem's own. -/
import Derived.Test.YtmaoeopjnhfplaaGreatPk29
set_option linter.all false
set_option maxHeartbeats 8000000
set_option maxRecDepth 20000
open Go.Proofs
namespace Go.Abs
open Go.RowKit
variable {K0 M0 R0 b0 c0 k0 kr p0 q0:Nat} {TT CU:List (List Rat)->Prop} {v xa ya:Re} {w w0:List (List Rat)}
theorem s6 {T1 T2:List LR} {A1 A2:LR} (f:Fm CU w0 R0 b0 c0 M0 q0 p0) (a:Vm CU w0 b0 k0 k0 T1 A1 T2 A2 xa ya) (m:xa*xa+ya*ya=v) (l:Rt CU w0 b0 K0 TT w 1950000 kr v) (k:2*k0+c0+2<=M0) (n:4*k0+3<=K0):∃c b,Nm TT w 1950000 (kr) c b (Re.sqrt v)/\CF 157 [.agg (AD T1 A1 T2 A2)] (.AI [(true,(As c b)),(false,[.int .i64 0])]):=by
 obtain⟨T5,A5,i,g⟩:=H9 f a;obtain⟨T6,A6,j,_,h⟩:=l.get (show _<=K0 by omega) (i.cast m);refine⟨T6,A6,j.mono (by omega),?_⟩;refine AZ Tryz.func157 fun E d=>?_
 conv=>cbv
 refine AB d g ?_;conv=>cbv
 refine AR ?_;conv=>cbv
 refine AB d h ?_;conv=>cbv
 exact AF ⟨t3,t2,trivial⟩
theorem qW (F:Fd TT w) {AL AM AP AU Aw:List LR} {AK AN AO AT At:LR} {xo yo vi:Re} {ko ka ki:Nat} (A:Vm TT w 1950000 ko ko AL AK AM AN xo yo) (ha:Vm TT w 1950000 ka ka AP AO AU AT xa ya) (G:Nm TT w 1950000 ki Aw At vi) (B:Fm CU w0 R0 b0 c0 M0 q0 p0) (q:Vm CU w0 b0 k0 k0 AP AO AU AT xa ya) (J:xa*xa+ya*ya=v) (I:Rt CU w0 b0 K0 TT w 1950000 kr v) (r:2*k0+c0+2<=M0) (D:4*k0+3<=K0) (H:Re.sqrt v≠0) (t:Re.sqrt v*vi=1) (M:2*ka+2*ki+3*ko+47*kr+134<=80000:=by omega):∃y u i d z x j f,Vm TT w 1950000 (ka+ki+1) (ka+ki+1) y u i d (xa*vi) (ya*vi)/\Vm TT w 1950000 (2*ka+2*ki+3*ko+6) (2*ka+2*ki+3*ko+6) z x j f (xo-((xa*vi)*xo-(ya*vi)*yo)) (yo-((xa*vi)*yo+(ya*vi)*xo))/\CF 73 [.agg (AD AL AK AM AN),.agg (AD AP AO AU AT)] (.agg (BQ y u i d z x j f false)):=by
 obtain⟨L,K,s,C⟩:=s6 B q J I r D;obtain⟨Ba,BT,BW,BV,a,k⟩:=L2 F ha s G H t;obtain⟨Bw,Bq,Bu,Bp,n,l⟩:=HV F a A;obtain⟨g,b,h,c,o,m⟩:=G9 F A n;refine⟨Ba,BT,BW,BV,g,b,h,c,a.mono (by omega) (by omega),o.mono (by omega) (by omega),?_⟩;refine AZ Tryz.func73 fun E p=>?_
 conv=>cbv
 refine AB p C ?_;conv=>cbv
 refine AB p k ?_;conv=>cbv
 refine AB p l ?_;conv=>cbv
 refine AB p m ?_;conv=>cbv
 refine AB p H3 ?_;conv=>cbv
 refine BB ?_;exact AF ⟨⟨rfl,rfl,rfl,rfl,rfl,rfl,rfl,rfl,rfl,rfl,trivial⟩,trivial⟩
theorem qs {x y i:Re} (h:(x*x+y*y)*(i*i)=1):x*i*(x*i)+y*i*(y*i)=1:=by rw[<-h];grind
end Go.Abs
