/- Part 30 of a proof. Conditions: each theorem's own. -/
import Derived.Test.YtmhbikooakmagaaGreatPk26
set_option linter.all false
set_option maxHeartbeats 8000000
set_option maxRecDepth 20000
open Go.Proofs
namespace Go.Abs
open Go.RowKit
noncomputable def iX (xp yp xq yq t:Re):Re:=xp+(xq-xp)*Re.ofRat (1/2)+ -((yq-yp)*Re.ofRat (1/2))*(Re.ofRat ((1:Int):Rat)*AT t)
noncomputable def iY (xp yp xq yq t:Re):Re:=yp+(yq-yp)*Re.ofRat (1/2)+(xq-xp)*Re.ofRat (1/2)*(Re.ofRat ((1:Int):Rat)*AT t)
noncomputable def wX (xp yp xq yq xr yr:Re):Re:=((yr-yp)*((xq-xp)*(xq-xp)+(yq-yp)*(yq-yp))-(yq-yp)*((xr-xp)*(xr-xp)+(yr-yp)*(yr-yp)))*AT ((xq-xp)*(yr-yp)-(yq-yp)*(xr-xp)+((xq-xp)*(yr-yp)-(yq-yp)*(xr-xp)))
noncomputable def wY (xp yp xq yq xr yr:Re):Re:=((xq-xp)*((xr-xp)*(xr-xp)+(yr-yp)*(yr-yp))-(xr-xp)*((xq-xp)*(xq-xp)+(yq-yp)*(yq-yp)))*AT ((xq-xp)*(yr-yp)-(yq-yp)*(xr-xp)+((xq-xp)*(yr-yp)-(yq-yp)*(xr-xp)))
theorem Sa {x:Re} (h:x≠0):x+x≠0:=fun e=>h (by
 have a:(x+x)*Re.ofRat (1/2)=x*(Re.ofRat (1/2)*(1+1)):=by grind
 rw[iD,e] at a
 grind)
end Go.Abs
namespace Go.Abs
open Go.RowKit
variable {A1 A2:LR} {T1 T2:List LR}
theorem ZN:BU Tryz.prog 276 [.one (.Ag 0 0 0),.one (.int .i64 0)] (.var 0 [.int .i64 0]) (.AF []):=by
 refine CX Tryz.func276 fun E a=>?_
 conv=>cbv
 refine BG ?_;conv=>cbv
 refine .inr ?_;refine fun _=>⟨⟨trivial,rfl,by simp⟩,rfl⟩
theorem IQ:BU Tryz.prog 187 [.one (.Ag 0 0 0),.agg (AK T1 A1),.one (.int .i64 0)] (.var 0 [.int .i64 0]) (.agg (AK T1 A1)):=by
 refine CX Tryz.func187 fun E a=>?_
 conv=>cbv
 refine Ah 0 0 a ZN ?_;try conv=>cbv
 refine AO ?_;conv=>cbv
 refine fun _=>⟨⟨⟨t3,trivial⟩,rfl,by simp⟩,rfl⟩
theorem LW:BU Tryz.prog 188 [.one (.Ag 0 0 0),.agg (AG T1 A1 T2 A2),.one (.int .i64 0)] (.var 0 [.int .i64 0]) (.agg (AG T1 A1 T2 A2)):=by
 refine CX Tryz.func188 fun E a=>?_
 conv=>cbv
 refine Ah 0 0 a ZN ?_;try conv=>cbv
 refine AO ?_;conv=>cbv
 refine fun _=>⟨⟨⟨⟨rfl,rfl,rfl,rfl,rfl,trivial⟩,trivial⟩,rfl,by simp⟩,rfl⟩
theorem mX {T3:List LR} {A3:LR}:BU Tryz.prog 179 [.one (.Ag 0 0 0),.agg (AG T1 A1 T2 A2),.agg (AK T3 A3)] (.var 0 [.int .i64 0]) (.AF [(true,(AY T1 A1 T2 A2 T3 A3)),(false,[.int .i64 0])]):=by
 refine CX Tryz.func179 fun E a=>?_
 conv=>cbv
 refine AO ?_;conv=>cbv
 refine fun _=>⟨⟨⟨⟨rfl,rfl,rfl,rfl,rfl,rfl,rfl,trivial⟩,t2,trivial⟩,rfl,by simp⟩,rfl⟩
theorem PL:BU Tryz.prog 68 [.one (.Ag 0 0 0),.agg (AG T1 A1 T2 A2)] (.var 0 [.int .i64 0]) (.AF [(true,(AG T1 A1 T2 A2)),(false,[.int .i64 0])]):=by
 refine CX Tryz.func68 fun E a=>?_
 conv=>cbv
 refine AO ?_;conv=>cbv
 refine fun _=>⟨⟨⟨⟨rfl,rfl,rfl,rfl,rfl,trivial⟩,t2,trivial⟩,rfl,by simp⟩,rfl⟩
end Go.Abs
