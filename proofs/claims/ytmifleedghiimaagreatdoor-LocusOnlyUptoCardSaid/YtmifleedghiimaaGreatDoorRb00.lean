/- Part 1 of a proof. Conditions: each theorem's own. -/
import Derived.Test.YtmifleedghiimaaGreatDoorRbM
import Derived.Test.YtmifleedghiimaaGreatDoorProg
import Derived.Lib.Strings
import Derived.Lib.Slices
import Derived.Lib.Small
import Derived.Lib.Walk
import Derived.Lib.BitFns
set_option linter.all false
set_option maxHeartbeats 80000000
set_option maxRecDepth 20000
open Go.Proofs
namespace Go.Abs
open Go.Proofs
def sS (x:Int) (w:World) (h0:0<=x:=by omega) (h1:x<=4294967295:=by omega):
  Calls Tryz.prog 347 #[.int .u32 x] w fun e w'=>e= .returned (.int .i64 (Lib.bitLen x.toNat))/\w'=w:=by
 go_enter Tryz.func347,Tryz.ntmps347
 go_wp2
 all_goals (go_ret;refine⟨congrArg Ending.returned (congrArg (Value.int IntKind.i64) ?_),rfl⟩)
 all_goals first
  | (rw[Lib.len8_of (x/65536/256%256) AA AA]
     have e:(x/65536/256%256).toNat=x.toNat/16777216:=AA
     have l:=Lib.bitLen_le8' (x/65536/256%256) AA AA;have s:=Lib.bitLen_shift24 x.toNat AA AA;rw[e] at l ⊢;omega)
  | (rw[Lib.len8_of (x/65536%256) AA AA]
     have e:(x/65536%256).toNat=x.toNat/65536:=AA
     have l:=Lib.bitLen_le8' (x/65536%256) AA AA;have s:=Lib.bitLen_shift16 x.toNat AA AA;rw[e] at l ⊢;omega)
  | (rw[Lib.len8_of (x/256%256) AA AA]
     have e:(x/256%256).toNat=x.toNat/256:=AA
     have l:=Lib.bitLen_le8' (x/256%256) AA AA;have s:=Lib.bitLen_shift8 x.toNat AA AA;rw[e] at l ⊢;omega)
  | (rw[Lib.len8_of (x%256) AA AA]
     have e:(x%256).toNat=x.toNat:=AA
     have l:=Lib.bitLen_le8' (x%256) AA AA;rw[e] at l ⊢;omega)
end Go.Abs
