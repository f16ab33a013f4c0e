/-
  No cell of these rows narrows 'for every input' (looked for: loops, veiled, ifaces, maps, wideKeys, modest, calm, conditions, laid).
  DERIVED. THE GIVEN ROWS OF THIS SEAT. 10 by the template 'for every input the law returns true; each argument reads behind the call as it read before'; 0 by the template 'total and deterministic' (their statements: YtmhbikooakmagaaGreatTotals.lean).
  GIVEN WITH THE SEED: the statements are not yours to turn. If you find one false, say at which input.
  Laid BY PROGRAM, IN A SANDBOX (cutbox-rows.mjs): the forced cells as the released guide's own fill.sh prints them over the translation f253e8868cd12a7b… (all of the seat's roots in one cut). By AI agents, Wed Nov 11 2026. No macro, syntax, notation, axiom, sorry.
-/
import Derived.Test.YtmhbikooakmagaaGreatChecked
import GoSem.Claim
import GoSem.ClaimJoined
import GoSem.ClaimMapViews
import Derived.JoinedTies
import Derived.KernelRfl
namespace Go.Proofs.YtmhbikooakmagaaGreat
/- THE CELL 'sum', in the pinned program and in every row, IS THE sha256 OF THE DUMP (.gsa) THAT YtmhbikooakmagaaGreatProg.lean LOADS. Nothing in Lean hashes anything: it is a label: what it is worth is what the hold of that sum in a sandbox is worth. -/
noncomputable def Tryz.pinned : Pinned := { name := "ytmhbikooakmagaagreat", sum := "f253e8868cd12a7bddf1104e494fdf503c5c0bd21d005f07aac1664443ca3b4f", checked := Tryz.checked }
namespace Rows
def none {H : Type} : Left H := { results := [], args := [] }

/-- 'setsquarelaw16.MeetBranch': WHATEVER THE INPUT: true; the input reads as it did. -/
def meetBranchSpec : ChangeSpec := { name := "meetBranch", fn := fun _ => fun
  | [d1, d2, d3] => { results := [.lit (.bool true)], args := [d1, d2, d3] }
  | _ => none }
def meetBranchRow : OpenClaim := { program := "ytmhbikooakmagaagreat", sum := "f253e8868cd12a7bddf1104e494fdf503c5c0bd21d005f07aac1664443ca3b4f", func := "setsquare/setsquarelaw16.MeetBranch", spec := "meetBranch", unfollowed := true, recurses := true, apart := false }
def MeetBranchSaid : Prop := meetBranchRow.holds Tryz.pinned (OpenSpec.ofChange meetBranchSpec)

/-- ITS FALSE NEIGHBOUR: 'it returns false'. Refute it at one input. -/
def meetBranchWrong : ChangeSpec := { name := "meetBranch", fn := fun _ => fun
  | [d1, d2, d3] => { results := [.lit (.bool false)], args := [d1, d2, d3] }
  | _ => none }
def MeetBranchWrongFalsely : Prop := meetBranchRow.holds Tryz.pinned (OpenSpec.ofChange meetBranchWrong)

/-- 'setsquarelaw09.NumberTrim': WHATEVER THE INPUT: true; the input reads as it did. -/
def numberTrimSpec : ChangeSpec := { name := "numberTrim", fn := fun _ => fun
  | [d] => { results := [.lit (.bool true)], args := [d] }
  | _ => none }
def numberTrimRow : OpenClaim := { program := "ytmhbikooakmagaagreat", sum := "f253e8868cd12a7bddf1104e494fdf503c5c0bd21d005f07aac1664443ca3b4f", func := "setsquare/setsquarelaw09.NumberTrim", spec := "numberTrim", unfollowed := true, recurses := true, apart := false }
def NumberTrimSaid : Prop := numberTrimRow.holds Tryz.pinned (OpenSpec.ofChange numberTrimSpec)

/-- ITS FALSE NEIGHBOUR: 'it returns false'. Refute it at one input. -/
def numberTrimWrong : ChangeSpec := { name := "numberTrim", fn := fun _ => fun
  | [d] => { results := [.lit (.bool false)], args := [d] }
  | _ => none }
def NumberTrimWrongFalsely : Prop := numberTrimRow.holds Tryz.pinned (OpenSpec.ofChange numberTrimWrong)

/-- 'setsquarelaw09.NumberValid': WHATEVER THE INPUT: true; the input reads as it did. -/
def numberValidSpec : ChangeSpec := { name := "numberValid", fn := fun _ => fun
  | [d] => { results := [.lit (.bool true)], args := [d] }
  | _ => none }
def numberValidRow : OpenClaim := { program := "ytmhbikooakmagaagreat", sum := "f253e8868cd12a7bddf1104e494fdf503c5c0bd21d005f07aac1664443ca3b4f", func := "setsquare/setsquarelaw09.NumberValid", spec := "numberValid", unfollowed := true, recurses := true, apart := false }
def NumberValidSaid : Prop := numberValidRow.holds Tryz.pinned (OpenSpec.ofChange numberValidSpec)

/-- ITS FALSE NEIGHBOUR: 'it returns false'. Refute it at one input. -/
def numberValidWrong : ChangeSpec := { name := "numberValid", fn := fun _ => fun
  | [d] => { results := [.lit (.bool false)], args := [d] }
  | _ => none }
def NumberValidWrongFalsely : Prop := numberValidRow.holds Tryz.pinned (OpenSpec.ofChange numberValidWrong)

/-- 'setsquarelaw18.OrderSymmetric': WHATEVER THE INPUT: true; the input reads as it did. -/
def orderSymmetricSpec : ChangeSpec := { name := "orderSymmetric", fn := fun _ => fun
  | [d] => { results := [.lit (.bool true)], args := [d] }
  | _ => none }
def orderSymmetricRow : OpenClaim := { program := "ytmhbikooakmagaagreat", sum := "f253e8868cd12a7bddf1104e494fdf503c5c0bd21d005f07aac1664443ca3b4f", func := "setsquare/setsquarelaw18.OrderSymmetric", spec := "orderSymmetric", inPlace := ["slices.overlaps[int]"], unfollowed := true, recurses := true, apart := false }
def OrderSymmetricSaid : Prop := orderSymmetricRow.holds Tryz.pinned (OpenSpec.ofChange orderSymmetricSpec)

/-- ITS FALSE NEIGHBOUR: 'it returns false'. Refute it at one input. -/
def orderSymmetricWrong : ChangeSpec := { name := "orderSymmetric", fn := fun _ => fun
  | [d] => { results := [.lit (.bool false)], args := [d] }
  | _ => none }
def OrderSymmetricWrongFalsely : Prop := orderSymmetricRow.holds Tryz.pinned (OpenSpec.ofChange orderSymmetricWrong)

/-- 'setsquarelaw18.OrderLinear': WHATEVER THE INPUT: true; the input reads as it did. -/
def orderLinearSpec : ChangeSpec := { name := "orderLinear", fn := fun _ => fun
  | [d] => { results := [.lit (.bool true)], args := [d] }
  | _ => none }
def orderLinearRow : OpenClaim := { program := "ytmhbikooakmagaagreat", sum := "f253e8868cd12a7bddf1104e494fdf503c5c0bd21d005f07aac1664443ca3b4f", func := "setsquare/setsquarelaw18.OrderLinear", spec := "orderLinear", inPlace := ["slices.overlaps[int]"], unfollowed := true, recurses := true, apart := false }
def OrderLinearSaid : Prop := orderLinearRow.holds Tryz.pinned (OpenSpec.ofChange orderLinearSpec)

/-- ITS FALSE NEIGHBOUR: 'it returns false'. Refute it at one input. -/
def orderLinearWrong : ChangeSpec := { name := "orderLinear", fn := fun _ => fun
  | [d] => { results := [.lit (.bool false)], args := [d] }
  | _ => none }
def OrderLinearWrongFalsely : Prop := orderLinearRow.holds Tryz.pinned (OpenSpec.ofChange orderLinearWrong)

/-- 'setsquarelaw18.OrderBetween': WHATEVER THE INPUT: true; the input reads as it did. -/
def orderBetweenSpec : ChangeSpec := { name := "orderBetween", fn := fun _ => fun
  | [d] => { results := [.lit (.bool true)], args := [d] }
  | _ => none }
def orderBetweenRow : OpenClaim := { program := "ytmhbikooakmagaagreat", sum := "f253e8868cd12a7bddf1104e494fdf503c5c0bd21d005f07aac1664443ca3b4f", func := "setsquare/setsquarelaw18.OrderBetween", spec := "orderBetween", inPlace := ["slices.overlaps[int]"], unfollowed := true, recurses := true, apart := false }
def OrderBetweenSaid : Prop := orderBetweenRow.holds Tryz.pinned (OpenSpec.ofChange orderBetweenSpec)

/-- ITS FALSE NEIGHBOUR: 'it returns false'. Refute it at one input. -/
def orderBetweenWrong : ChangeSpec := { name := "orderBetween", fn := fun _ => fun
  | [d] => { results := [.lit (.bool false)], args := [d] }
  | _ => none }
def OrderBetweenWrongFalsely : Prop := orderBetweenRow.holds Tryz.pinned (OpenSpec.ofChange orderBetweenWrong)

/-- 'setsquarelaw18.OrderType': WHATEVER THE INPUT: true; the input reads as it did. -/
def orderTypeSpec : ChangeSpec := { name := "orderType", fn := fun _ => fun
  | [d] => { results := [.lit (.bool true)], args := [d] }
  | _ => none }
def orderTypeRow : OpenClaim := { program := "ytmhbikooakmagaagreat", sum := "f253e8868cd12a7bddf1104e494fdf503c5c0bd21d005f07aac1664443ca3b4f", func := "setsquare/setsquarelaw18.OrderType", spec := "orderType", inPlace := ["slices.overlaps[int]"], unfollowed := true, recurses := true, apart := false }
def OrderTypeSaid : Prop := orderTypeRow.holds Tryz.pinned (OpenSpec.ofChange orderTypeSpec)

/-- ITS FALSE NEIGHBOUR: 'it returns false'. Refute it at one input. -/
def orderTypeWrong : ChangeSpec := { name := "orderType", fn := fun _ => fun
  | [d] => { results := [.lit (.bool false)], args := [d] }
  | _ => none }
def OrderTypeWrongFalsely : Prop := orderTypeRow.holds Tryz.pinned (OpenSpec.ofChange orderTypeWrong)

/-- 'setsquarelaw18.OrderNearest': WHATEVER THE INPUT: true; the input reads as it did. -/
def orderNearestSpec : ChangeSpec := { name := "orderNearest", fn := fun _ => fun
  | [d] => { results := [.lit (.bool true)], args := [d] }
  | _ => none }
def orderNearestRow : OpenClaim := { program := "ytmhbikooakmagaagreat", sum := "f253e8868cd12a7bddf1104e494fdf503c5c0bd21d005f07aac1664443ca3b4f", func := "setsquare/setsquarelaw18.OrderNearest", spec := "orderNearest", inPlace := ["slices.overlaps[int]"], unfollowed := true, recurses := true, apart := false }
def OrderNearestSaid : Prop := orderNearestRow.holds Tryz.pinned (OpenSpec.ofChange orderNearestSpec)

/-- ITS FALSE NEIGHBOUR: 'it returns false'. Refute it at one input. -/
def orderNearestWrong : ChangeSpec := { name := "orderNearest", fn := fun _ => fun
  | [d] => { results := [.lit (.bool false)], args := [d] }
  | _ => none }
def OrderNearestWrongFalsely : Prop := orderNearestRow.holds Tryz.pinned (OpenSpec.ofChange orderNearestWrong)

/-- 'setsquarelaw18.OrderHull': WHATEVER THE INPUT: true; the input reads as it did. -/
def orderHullSpec : ChangeSpec := { name := "orderHull", fn := fun _ => fun
  | [d] => { results := [.lit (.bool true)], args := [d] }
  | _ => none }
def orderHullRow : OpenClaim := { program := "ytmhbikooakmagaagreat", sum := "f253e8868cd12a7bddf1104e494fdf503c5c0bd21d005f07aac1664443ca3b4f", func := "setsquare/setsquarelaw18.OrderHull", spec := "orderHull", inPlace := ["slices.overlaps[int]"], unfollowed := true, recurses := true, apart := false }
def OrderHullSaid : Prop := orderHullRow.holds Tryz.pinned (OpenSpec.ofChange orderHullSpec)

/-- ITS FALSE NEIGHBOUR: 'it returns false'. Refute it at one input. -/
def orderHullWrong : ChangeSpec := { name := "orderHull", fn := fun _ => fun
  | [d] => { results := [.lit (.bool false)], args := [d] }
  | _ => none }
def OrderHullWrongFalsely : Prop := orderHullRow.holds Tryz.pinned (OpenSpec.ofChange orderHullWrong)

/-- 'setsquarelaw15.CircleThrough': WHATEVER THE INPUT: true; the input reads as it did. -/
def circleThroughSpec : ChangeSpec := { name := "circleThrough", fn := fun _ => fun
  | [d] => { results := [.lit (.bool true)], args := [d] }
  | _ => none }
def circleThroughRow : OpenClaim := { program := "ytmhbikooakmagaagreat", sum := "f253e8868cd12a7bddf1104e494fdf503c5c0bd21d005f07aac1664443ca3b4f", func := "setsquare/setsquarelaw15.CircleThrough", spec := "circleThrough", unfollowed := true, recurses := true, apart := false }
def CircleThroughSaid : Prop := circleThroughRow.holds Tryz.pinned (OpenSpec.ofChange circleThroughSpec)

/-- ITS FALSE NEIGHBOUR: 'it returns false'. Refute it at one input. -/
def circleThroughWrong : ChangeSpec := { name := "circleThrough", fn := fun _ => fun
  | [d] => { results := [.lit (.bool false)], args := [d] }
  | _ => none }
def CircleThroughWrongFalsely : Prop := circleThroughRow.holds Tryz.pinned (OpenSpec.ofChange circleThroughWrong)

/- THE SECOND FORM. 'bulk': how many values and letters a reading holds, each counted each time it is reached (what is shared counts as often as it is met; a slice's spare places count too). A statement '..UptoSaid' is the law's where the arguments, and the package variables that the reading takes, are together of bulk at most 1048576: NARROWER than '..Said'. Prove '..Said' where nothing that the law and all that it calls make is longer than what came in: it says more and counts as full. Else prove '..UptoSaid'. A law counts once. -/
mutual
def uptoBulk {H : Type} : DataW H → Nat
  | .lit (.string bytes) => bytes.length + 1
  | .lit _ => 1
  | .nil => 1
  | .ptr d => uptoBulk d + 1
  | .slice elems spare => uptoBulkAll elems + uptoBulkAll spare + 1
  | .agg parts => uptoBulkAll parts + 1
  | .iface _ d => uptoBulk d + 1
  | .map entries => uptoBulkEntries entries + 1
  | .held _ => 1
def uptoBulkAll {H : Type} : List (DataW H) → Nat
  | [] => 0
  | d :: r => uptoBulk d + uptoBulkAll r
def uptoBulkEntries {H : Type} : List (Lit × DataW H) → Nat
  | [] => 0
  | x :: r => uptoBulkEntry x + uptoBulkEntries r
def uptoBulkEntry {H : Type} : Lit × DataW H → Nat
  | (.string bytes, d) => bytes.length + uptoBulk d + 1
  | (_, d) => uptoBulk d + 1
 end
def uptoSmall : (H : Type) → List (DataW H) → Bool := fun _ ds => decide (uptoBulkAll ds ≤ 1048576)
def OpenSpec.upto (s : _root_.Go.ChangeSpec) : _root_.Go.OpenSpec := { _root_.Go.OpenSpec.ofChange s with cond := some uptoSmall }

/-- 'setsquarelaw16.MeetBranch', WHERE WHAT IT READS IS OF BULK AT MOST 1048576: true; the input reads as it did. -/
def meetBranchUptoRow : OpenClaim := { program := "ytmhbikooakmagaagreat", sum := "f253e8868cd12a7bddf1104e494fdf503c5c0bd21d005f07aac1664443ca3b4f", func := "setsquare/setsquarelaw16.MeetBranch", spec := "meetBranch", unfollowed := true, recurses := true, apart := false, narrowed := true }
def MeetBranchUptoSaid : Prop := meetBranchUptoRow.holds Tryz.pinned (OpenSpec.upto meetBranchSpec)

/-- 'setsquarelaw09.NumberTrim', WHERE WHAT IT READS IS OF BULK AT MOST 1048576: true; the input reads as it did. -/
def numberTrimUptoRow : OpenClaim := { program := "ytmhbikooakmagaagreat", sum := "f253e8868cd12a7bddf1104e494fdf503c5c0bd21d005f07aac1664443ca3b4f", func := "setsquare/setsquarelaw09.NumberTrim", spec := "numberTrim", unfollowed := true, recurses := true, apart := false, narrowed := true }
def NumberTrimUptoSaid : Prop := numberTrimUptoRow.holds Tryz.pinned (OpenSpec.upto numberTrimSpec)

/-- 'setsquarelaw09.NumberValid', WHERE WHAT IT READS IS OF BULK AT MOST 1048576: true; the input reads as it did. -/
def numberValidUptoRow : OpenClaim := { program := "ytmhbikooakmagaagreat", sum := "f253e8868cd12a7bddf1104e494fdf503c5c0bd21d005f07aac1664443ca3b4f", func := "setsquare/setsquarelaw09.NumberValid", spec := "numberValid", unfollowed := true, recurses := true, apart := false, narrowed := true }
def NumberValidUptoSaid : Prop := numberValidUptoRow.holds Tryz.pinned (OpenSpec.upto numberValidSpec)

/-- 'setsquarelaw18.OrderSymmetric', WHERE WHAT IT READS IS OF BULK AT MOST 1048576: true; the input reads as it did. -/
def orderSymmetricUptoRow : OpenClaim := { program := "ytmhbikooakmagaagreat", sum := "f253e8868cd12a7bddf1104e494fdf503c5c0bd21d005f07aac1664443ca3b4f", func := "setsquare/setsquarelaw18.OrderSymmetric", spec := "orderSymmetric", inPlace := ["slices.overlaps[int]"], unfollowed := true, recurses := true, apart := false, narrowed := true }
def OrderSymmetricUptoSaid : Prop := orderSymmetricUptoRow.holds Tryz.pinned (OpenSpec.upto orderSymmetricSpec)

/-- 'setsquarelaw18.OrderLinear', WHERE WHAT IT READS IS OF BULK AT MOST 1048576: true; the input reads as it did. -/
def orderLinearUptoRow : OpenClaim := { program := "ytmhbikooakmagaagreat", sum := "f253e8868cd12a7bddf1104e494fdf503c5c0bd21d005f07aac1664443ca3b4f", func := "setsquare/setsquarelaw18.OrderLinear", spec := "orderLinear", inPlace := ["slices.overlaps[int]"], unfollowed := true, recurses := true, apart := false, narrowed := true }
def OrderLinearUptoSaid : Prop := orderLinearUptoRow.holds Tryz.pinned (OpenSpec.upto orderLinearSpec)

/-- 'setsquarelaw18.OrderBetween', WHERE WHAT IT READS IS OF BULK AT MOST 1048576: true; the input reads as it did. -/
def orderBetweenUptoRow : OpenClaim := { program := "ytmhbikooakmagaagreat", sum := "f253e8868cd12a7bddf1104e494fdf503c5c0bd21d005f07aac1664443ca3b4f", func := "setsquare/setsquarelaw18.OrderBetween", spec := "orderBetween", inPlace := ["slices.overlaps[int]"], unfollowed := true, recurses := true, apart := false, narrowed := true }
def OrderBetweenUptoSaid : Prop := orderBetweenUptoRow.holds Tryz.pinned (OpenSpec.upto orderBetweenSpec)

/-- 'setsquarelaw18.OrderType', WHERE WHAT IT READS IS OF BULK AT MOST 1048576: true; the input reads as it did. -/
def orderTypeUptoRow : OpenClaim := { program := "ytmhbikooakmagaagreat", sum := "f253e8868cd12a7bddf1104e494fdf503c5c0bd21d005f07aac1664443ca3b4f", func := "setsquare/setsquarelaw18.OrderType", spec := "orderType", inPlace := ["slices.overlaps[int]"], unfollowed := true, recurses := true, apart := false, narrowed := true }
def OrderTypeUptoSaid : Prop := orderTypeUptoRow.holds Tryz.pinned (OpenSpec.upto orderTypeSpec)

/-- 'setsquarelaw18.OrderNearest', WHERE WHAT IT READS IS OF BULK AT MOST 1048576: true; the input reads as it did. -/
def orderNearestUptoRow : OpenClaim := { program := "ytmhbikooakmagaagreat", sum := "f253e8868cd12a7bddf1104e494fdf503c5c0bd21d005f07aac1664443ca3b4f", func := "setsquare/setsquarelaw18.OrderNearest", spec := "orderNearest", inPlace := ["slices.overlaps[int]"], unfollowed := true, recurses := true, apart := false, narrowed := true }
def OrderNearestUptoSaid : Prop := orderNearestUptoRow.holds Tryz.pinned (OpenSpec.upto orderNearestSpec)

/-- 'setsquarelaw18.OrderHull', WHERE WHAT IT READS IS OF BULK AT MOST 1048576: true; the input reads as it did. -/
def orderHullUptoRow : OpenClaim := { program := "ytmhbikooakmagaagreat", sum := "f253e8868cd12a7bddf1104e494fdf503c5c0bd21d005f07aac1664443ca3b4f", func := "setsquare/setsquarelaw18.OrderHull", spec := "orderHull", inPlace := ["slices.overlaps[int]"], unfollowed := true, recurses := true, apart := false, narrowed := true }
def OrderHullUptoSaid : Prop := orderHullUptoRow.holds Tryz.pinned (OpenSpec.upto orderHullSpec)

/-- 'setsquarelaw15.CircleThrough', WHERE WHAT IT READS IS OF BULK AT MOST 1048576: true; the input reads as it did. -/
def circleThroughUptoRow : OpenClaim := { program := "ytmhbikooakmagaagreat", sum := "f253e8868cd12a7bddf1104e494fdf503c5c0bd21d005f07aac1664443ca3b4f", func := "setsquare/setsquarelaw15.CircleThrough", spec := "circleThrough", unfollowed := true, recurses := true, apart := false, narrowed := true }
def CircleThroughUptoSaid : Prop := circleThroughUptoRow.holds Tryz.pinned (OpenSpec.upto circleThroughSpec)

end Rows
end Go.Proofs.YtmhbikooakmagaaGreat
