/-
  No cell of these rows narrows 'for every input' (looked for: loops, veiled, ifaces, maps, wideKeys, modest, calm, conditions, laid).
  DERIVED. THE GIVEN ROWS OF THIS SEAT. 12 by the template 'for every input the law returns true; each argument reads behind the call as it read before'; 0 by the template 'total and deterministic' (their statements: YtmaoeopjnhfplaaGreatTotals.lean).
  GIVEN WITH THE SEED: the statements are not yours to turn. If you find one false, say at which input.
  Laid BY PROGRAM, IN A SANDBOX (cutbox-rows.mjs): the forced cells as the released guide's own fill.sh prints them over the translation 9bef15cd60e99131… (all of the seat's roots in one cut). By AI agents, Wed Nov 11 2026. No macro, syntax, notation, axiom, sorry.
-/
import Derived.Test.YtmaoeopjnhfplaaGreatChecked
import GoSem.Claim
import GoSem.ClaimJoined
import GoSem.ClaimMapViews
import Derived.JoinedTies
import Derived.KernelRfl
namespace Go.Proofs.YtmaoeopjnhfplaaGreat
/- THE CELL 'sum', in the pinned program and in every row, IS THE sha256 OF THE DUMP (.gsa) THAT YtmaoeopjnhfplaaGreatProg.lean LOADS. Nothing in Lean hashes anything: it is a label: what it is worth is what the hold of that sum in a sandbox is worth. -/
noncomputable def Tryz.pinned : Pinned := { name := "ytmaoeopjnhfplaagreat", sum := "9bef15cd60e991315bc3ded3e847f4a9ed3e620e4b384744dc6be79d65f208fe", checked := Tryz.checked }
namespace Rows
def none {H : Type} : Left H := { results := [], args := [] }

/-- 'setsquarelaw17.MotionApply': WHATEVER THE INPUT: true; the input reads as it did. -/
def motionApplySpec : ChangeSpec := { name := "motionApply", fn := fun _ => fun
  | [d1, d2] => { results := [.lit (.bool true)], args := [d1, d2] }
  | _ => none }
def motionApplyRow : OpenClaim := { program := "ytmaoeopjnhfplaagreat", sum := "9bef15cd60e991315bc3ded3e847f4a9ed3e620e4b384744dc6be79d65f208fe", func := "setsquare/setsquarelaw17.MotionApply", spec := "motionApply", unfollowed := true, recurses := true, apart := false }
def MotionApplySaid : Prop := motionApplyRow.holds Tryz.pinned (OpenSpec.ofChange motionApplySpec)

/-- ITS FALSE NEIGHBOUR: 'it returns false'. Refute it at one input. -/
def motionApplyWrong : ChangeSpec := { name := "motionApply", fn := fun _ => fun
  | [d1, d2] => { results := [.lit (.bool false)], args := [d1, d2] }
  | _ => none }
def MotionApplyWrongFalsely : Prop := motionApplyRow.holds Tryz.pinned (OpenSpec.ofChange motionApplyWrong)

/-- 'setsquarelaw17.MotionMatch': WHATEVER THE INPUT: true; the input reads as it did. -/
def motionMatchSpec : ChangeSpec := { name := "motionMatch", fn := fun _ => fun
  | [d1, d2, d3] => { results := [.lit (.bool true)], args := [d1, d2, d3] }
  | _ => none }
def motionMatchRow : OpenClaim := { program := "ytmaoeopjnhfplaagreat", sum := "9bef15cd60e991315bc3ded3e847f4a9ed3e620e4b384744dc6be79d65f208fe", func := "setsquare/setsquarelaw17.MotionMatch", spec := "motionMatch", unfollowed := true, recurses := true, apart := false }
def MotionMatchSaid : Prop := motionMatchRow.holds Tryz.pinned (OpenSpec.ofChange motionMatchSpec)

/-- ITS FALSE NEIGHBOUR: 'it returns false'. Refute it at one input. -/
def motionMatchWrong : ChangeSpec := { name := "motionMatch", fn := fun _ => fun
  | [d1, d2, d3] => { results := [.lit (.bool false)], args := [d1, d2, d3] }
  | _ => none }
def MotionMatchWrongFalsely : Prop := motionMatchRow.holds Tryz.pinned (OpenSpec.ofChange motionMatchWrong)

/-- 'setsquarelaw17.MotionPreserves': WHATEVER THE INPUT: true; the input reads as it did. -/
def motionPreservesSpec : ChangeSpec := { name := "motionPreserves", fn := fun _ => fun
  | [d1, d2] => { results := [.lit (.bool true)], args := [d1, d2] }
  | _ => none }
def motionPreservesRow : OpenClaim := { program := "ytmaoeopjnhfplaagreat", sum := "9bef15cd60e991315bc3ded3e847f4a9ed3e620e4b384744dc6be79d65f208fe", func := "setsquare/setsquarelaw17.MotionPreserves", spec := "motionPreserves", unfollowed := true, recurses := true, apart := false }
def MotionPreservesSaid : Prop := motionPreservesRow.holds Tryz.pinned (OpenSpec.ofChange motionPreservesSpec)

/-- ITS FALSE NEIGHBOUR: 'it returns false'. Refute it at one input. -/
def motionPreservesWrong : ChangeSpec := { name := "motionPreserves", fn := fun _ => fun
  | [d1, d2] => { results := [.lit (.bool false)], args := [d1, d2] }
  | _ => none }
def MotionPreservesWrongFalsely : Prop := motionPreservesRow.holds Tryz.pinned (OpenSpec.ofChange motionPreservesWrong)

/-- 'setsquarelaw17.MotionThen': WHATEVER THE INPUT: true; the input reads as it did. -/
def motionThenSpec : ChangeSpec := { name := "motionThen", fn := fun _ => fun
  | [d1, d2] => { results := [.lit (.bool true)], args := [d1, d2] }
  | _ => none }
def motionThenRow : OpenClaim := { program := "ytmaoeopjnhfplaagreat", sum := "9bef15cd60e991315bc3ded3e847f4a9ed3e620e4b384744dc6be79d65f208fe", func := "setsquare/setsquarelaw17.MotionThen", spec := "motionThen", unfollowed := true, recurses := true, apart := false }
def MotionThenSaid : Prop := motionThenRow.holds Tryz.pinned (OpenSpec.ofChange motionThenSpec)

/-- ITS FALSE NEIGHBOUR: 'it returns false'. Refute it at one input. -/
def motionThenWrong : ChangeSpec := { name := "motionThen", fn := fun _ => fun
  | [d1, d2] => { results := [.lit (.bool false)], args := [d1, d2] }
  | _ => none }
def MotionThenWrongFalsely : Prop := motionThenRow.holds Tryz.pinned (OpenSpec.ofChange motionThenWrong)

/-- 'setsquarelaw17.MotionInverse': WHATEVER THE INPUT: true; the input reads as it did. -/
def motionInverseSpec : ChangeSpec := { name := "motionInverse", fn := fun _ => fun
  | [d1, d2] => { results := [.lit (.bool true)], args := [d1, d2] }
  | _ => none }
def motionInverseRow : OpenClaim := { program := "ytmaoeopjnhfplaagreat", sum := "9bef15cd60e991315bc3ded3e847f4a9ed3e620e4b384744dc6be79d65f208fe", func := "setsquare/setsquarelaw17.MotionInverse", spec := "motionInverse", unfollowed := true, recurses := true, apart := false }
def MotionInverseSaid : Prop := motionInverseRow.holds Tryz.pinned (OpenSpec.ofChange motionInverseSpec)

/-- ITS FALSE NEIGHBOUR: 'it returns false'. Refute it at one input. -/
def motionInverseWrong : ChangeSpec := { name := "motionInverse", fn := fun _ => fun
  | [d1, d2] => { results := [.lit (.bool false)], args := [d1, d2] }
  | _ => none }
def MotionInverseWrongFalsely : Prop := motionInverseRow.holds Tryz.pinned (OpenSpec.ofChange motionInverseWrong)

/-- 'setsquarelaw16.MeetLines': WHATEVER THE INPUT: true; the input reads as it did. -/
def meetLinesSpec : ChangeSpec := { name := "meetLines", fn := fun _ => fun
  | [d1, d2] => { results := [.lit (.bool true)], args := [d1, d2] }
  | _ => none }
def meetLinesRow : OpenClaim := { program := "ytmaoeopjnhfplaagreat", sum := "9bef15cd60e991315bc3ded3e847f4a9ed3e620e4b384744dc6be79d65f208fe", func := "setsquare/setsquarelaw16.MeetLines", spec := "meetLines", unfollowed := true, recurses := true, apart := false }
def MeetLinesSaid : Prop := meetLinesRow.holds Tryz.pinned (OpenSpec.ofChange meetLinesSpec)

/-- ITS FALSE NEIGHBOUR: 'it returns false'. Refute it at one input. -/
def meetLinesWrong : ChangeSpec := { name := "meetLines", fn := fun _ => fun
  | [d1, d2] => { results := [.lit (.bool false)], args := [d1, d2] }
  | _ => none }
def MeetLinesWrongFalsely : Prop := meetLinesRow.holds Tryz.pinned (OpenSpec.ofChange meetLinesWrong)

/-- 'setsquarelaw16.MeetOn': WHATEVER THE INPUT: true; the input reads as it did. -/
def meetOnSpec : ChangeSpec := { name := "meetOn", fn := fun _ => fun
  | [d1, d2, d3] => { results := [.lit (.bool true)], args := [d1, d2, d3] }
  | _ => none }
def meetOnRow : OpenClaim := { program := "ytmaoeopjnhfplaagreat", sum := "9bef15cd60e991315bc3ded3e847f4a9ed3e620e4b384744dc6be79d65f208fe", func := "setsquare/setsquarelaw16.MeetOn", spec := "meetOn", unfollowed := true, recurses := true, apart := false }
def MeetOnSaid : Prop := meetOnRow.holds Tryz.pinned (OpenSpec.ofChange meetOnSpec)

/-- ITS FALSE NEIGHBOUR: 'it returns false'. Refute it at one input. -/
def meetOnWrong : ChangeSpec := { name := "meetOn", fn := fun _ => fun
  | [d1, d2, d3] => { results := [.lit (.bool false)], args := [d1, d2, d3] }
  | _ => none }
def MeetOnWrongFalsely : Prop := meetOnRow.holds Tryz.pinned (OpenSpec.ofChange meetOnWrong)

/-- 'setsquarelaw16.MeetLineCircle': WHATEVER THE INPUT: true; the input reads as it did. -/
def meetLineCircleSpec : ChangeSpec := { name := "meetLineCircle", fn := fun _ => fun
  | [d1, d2, d3] => { results := [.lit (.bool true)], args := [d1, d2, d3] }
  | _ => none }
def meetLineCircleRow : OpenClaim := { program := "ytmaoeopjnhfplaagreat", sum := "9bef15cd60e991315bc3ded3e847f4a9ed3e620e4b384744dc6be79d65f208fe", func := "setsquare/setsquarelaw16.MeetLineCircle", spec := "meetLineCircle", unfollowed := true, recurses := true, apart := false }
def MeetLineCircleSaid : Prop := meetLineCircleRow.holds Tryz.pinned (OpenSpec.ofChange meetLineCircleSpec)

/-- ITS FALSE NEIGHBOUR: 'it returns false'. Refute it at one input. -/
def meetLineCircleWrong : ChangeSpec := { name := "meetLineCircle", fn := fun _ => fun
  | [d1, d2, d3] => { results := [.lit (.bool false)], args := [d1, d2, d3] }
  | _ => none }
def MeetLineCircleWrongFalsely : Prop := meetLineCircleRow.holds Tryz.pinned (OpenSpec.ofChange meetLineCircleWrong)

/-- 'setsquarelaw16.MeetCircles': WHATEVER THE INPUT: true; the input reads as it did. -/
def meetCirclesSpec : ChangeSpec := { name := "meetCircles", fn := fun _ => fun
  | [d1, d2] => { results := [.lit (.bool true)], args := [d1, d2] }
  | _ => none }
def meetCirclesRow : OpenClaim := { program := "ytmaoeopjnhfplaagreat", sum := "9bef15cd60e991315bc3ded3e847f4a9ed3e620e4b384744dc6be79d65f208fe", func := "setsquare/setsquarelaw16.MeetCircles", spec := "meetCircles", unfollowed := true, recurses := true, apart := false }
def MeetCirclesSaid : Prop := meetCirclesRow.holds Tryz.pinned (OpenSpec.ofChange meetCirclesSpec)

/-- ITS FALSE NEIGHBOUR: 'it returns false'. Refute it at one input. -/
def meetCirclesWrong : ChangeSpec := { name := "meetCircles", fn := fun _ => fun
  | [d1, d2] => { results := [.lit (.bool false)], args := [d1, d2] }
  | _ => none }
def MeetCirclesWrongFalsely : Prop := meetCirclesRow.holds Tryz.pinned (OpenSpec.ofChange meetCirclesWrong)

/-- 'setsquarelaw16.MeetLoci': WHATEVER THE INPUT: true; the input reads as it did. -/
def meetLociSpec : ChangeSpec := { name := "meetLoci", fn := fun _ => fun
  | [d1, d2] => { results := [.lit (.bool true)], args := [d1, d2] }
  | _ => none }
def meetLociRow : OpenClaim := { program := "ytmaoeopjnhfplaagreat", sum := "9bef15cd60e991315bc3ded3e847f4a9ed3e620e4b384744dc6be79d65f208fe", func := "setsquare/setsquarelaw16.MeetLoci", spec := "meetLoci", unfollowed := true, recurses := true, apart := false }
def MeetLociSaid : Prop := meetLociRow.holds Tryz.pinned (OpenSpec.ofChange meetLociSpec)

/-- ITS FALSE NEIGHBOUR: 'it returns false'. Refute it at one input. -/
def meetLociWrong : ChangeSpec := { name := "meetLoci", fn := fun _ => fun
  | [d1, d2] => { results := [.lit (.bool false)], args := [d1, d2] }
  | _ => none }
def MeetLociWrongFalsely : Prop := meetLociRow.holds Tryz.pinned (OpenSpec.ofChange meetLociWrong)

/-- 'setsquarelaw16.MeetOpposite': WHATEVER THE INPUT: true; the input reads as it did. -/
def meetOppositeSpec : ChangeSpec := { name := "meetOpposite", fn := fun _ => fun
  | [d1, d2] => { results := [.lit (.bool true)], args := [d1, d2] }
  | _ => none }
def meetOppositeRow : OpenClaim := { program := "ytmaoeopjnhfplaagreat", sum := "9bef15cd60e991315bc3ded3e847f4a9ed3e620e4b384744dc6be79d65f208fe", func := "setsquare/setsquarelaw16.MeetOpposite", spec := "meetOpposite", unfollowed := true, recurses := true, apart := false }
def MeetOppositeSaid : Prop := meetOppositeRow.holds Tryz.pinned (OpenSpec.ofChange meetOppositeSpec)

/-- ITS FALSE NEIGHBOUR: 'it returns false'. Refute it at one input. -/
def meetOppositeWrong : ChangeSpec := { name := "meetOpposite", fn := fun _ => fun
  | [d1, d2] => { results := [.lit (.bool false)], args := [d1, d2] }
  | _ => none }
def MeetOppositeWrongFalsely : Prop := meetOppositeRow.holds Tryz.pinned (OpenSpec.ofChange meetOppositeWrong)

/-- 'setsquarelaw16.MeetBranch': WHATEVER THE INPUT: true; the input reads as it did. -/
def meetBranchSpec : ChangeSpec := { name := "meetBranch", fn := fun _ => fun
  | [d1, d2, d3] => { results := [.lit (.bool true)], args := [d1, d2, d3] }
  | _ => none }
def meetBranchRow : OpenClaim := { program := "ytmaoeopjnhfplaagreat", sum := "9bef15cd60e991315bc3ded3e847f4a9ed3e620e4b384744dc6be79d65f208fe", func := "setsquare/setsquarelaw16.MeetBranch", spec := "meetBranch", unfollowed := true, recurses := true, apart := false }
def MeetBranchSaid : Prop := meetBranchRow.holds Tryz.pinned (OpenSpec.ofChange meetBranchSpec)

/-- ITS FALSE NEIGHBOUR: 'it returns false'. Refute it at one input. -/
def meetBranchWrong : ChangeSpec := { name := "meetBranch", fn := fun _ => fun
  | [d1, d2, d3] => { results := [.lit (.bool false)], args := [d1, d2, d3] }
  | _ => none }
def MeetBranchWrongFalsely : Prop := meetBranchRow.holds Tryz.pinned (OpenSpec.ofChange meetBranchWrong)

/- THE SECOND FORM. 'bulk': how many values and letters a reading holds, each counted each time it is reached (what is shared counts as often as it is met; a slice's spare places count too). A statement '..UptoSaid' is the law's where the arguments, and the package variables that the reading takes, are together of bulk at most 1048576: NARROWER than '..Said'. Prove '..Said' where nothing that the law and all that it calls make is longer than what came in: it says more and counts as full. Else prove '..UptoSaid'. A law counts once. -/
mutual
def uptoBulk {H : Type} : DataW H → Nat
  | .lit (.string bytes) => bytes.length + 1
  | .lit _ => 1
  | .nil => 1
  | .ptr d => uptoBulk d + 1
  | .slice elems spare => uptoBulkAll elems + uptoBulkAll spare + 1
  | .agg parts => uptoBulkAll parts + 1
  | .iface _ d => uptoBulk d + 1
  | .map entries => uptoBulkEntries entries + 1
  | .held _ => 1
def uptoBulkAll {H : Type} : List (DataW H) → Nat
  | [] => 0
  | d :: r => uptoBulk d + uptoBulkAll r
def uptoBulkEntries {H : Type} : List (Lit × DataW H) → Nat
  | [] => 0
  | x :: r => uptoBulkEntry x + uptoBulkEntries r
def uptoBulkEntry {H : Type} : Lit × DataW H → Nat
  | (.string bytes, d) => bytes.length + uptoBulk d + 1
  | (_, d) => uptoBulk d + 1
 end
def uptoSmall : (H : Type) → List (DataW H) → Bool := fun _ ds => decide (uptoBulkAll ds ≤ 1048576)
def OpenSpec.upto (s : _root_.Go.ChangeSpec) : _root_.Go.OpenSpec := { _root_.Go.OpenSpec.ofChange s with cond := some uptoSmall }

/-- 'setsquarelaw17.MotionApply', WHERE WHAT IT READS IS OF BULK AT MOST 1048576: true; the input reads as it did. -/
def motionApplyUptoRow : OpenClaim := { program := "ytmaoeopjnhfplaagreat", sum := "9bef15cd60e991315bc3ded3e847f4a9ed3e620e4b384744dc6be79d65f208fe", func := "setsquare/setsquarelaw17.MotionApply", spec := "motionApply", unfollowed := true, recurses := true, apart := false, narrowed := true }
def MotionApplyUptoSaid : Prop := motionApplyUptoRow.holds Tryz.pinned (OpenSpec.upto motionApplySpec)

/-- 'setsquarelaw17.MotionMatch', WHERE WHAT IT READS IS OF BULK AT MOST 1048576: true; the input reads as it did. -/
def motionMatchUptoRow : OpenClaim := { program := "ytmaoeopjnhfplaagreat", sum := "9bef15cd60e991315bc3ded3e847f4a9ed3e620e4b384744dc6be79d65f208fe", func := "setsquare/setsquarelaw17.MotionMatch", spec := "motionMatch", unfollowed := true, recurses := true, apart := false, narrowed := true }
def MotionMatchUptoSaid : Prop := motionMatchUptoRow.holds Tryz.pinned (OpenSpec.upto motionMatchSpec)

/-- 'setsquarelaw17.MotionPreserves', WHERE WHAT IT READS IS OF BULK AT MOST 1048576: true; the input reads as it did. -/
def motionPreservesUptoRow : OpenClaim := { program := "ytmaoeopjnhfplaagreat", sum := "9bef15cd60e991315bc3ded3e847f4a9ed3e620e4b384744dc6be79d65f208fe", func := "setsquare/setsquarelaw17.MotionPreserves", spec := "motionPreserves", unfollowed := true, recurses := true, apart := false, narrowed := true }
def MotionPreservesUptoSaid : Prop := motionPreservesUptoRow.holds Tryz.pinned (OpenSpec.upto motionPreservesSpec)

/-- 'setsquarelaw17.MotionThen', WHERE WHAT IT READS IS OF BULK AT MOST 1048576: true; the input reads as it did. -/
def motionThenUptoRow : OpenClaim := { program := "ytmaoeopjnhfplaagreat", sum := "9bef15cd60e991315bc3ded3e847f4a9ed3e620e4b384744dc6be79d65f208fe", func := "setsquare/setsquarelaw17.MotionThen", spec := "motionThen", unfollowed := true, recurses := true, apart := false, narrowed := true }
def MotionThenUptoSaid : Prop := motionThenUptoRow.holds Tryz.pinned (OpenSpec.upto motionThenSpec)

/-- 'setsquarelaw17.MotionInverse', WHERE WHAT IT READS IS OF BULK AT MOST 1048576: true; the input reads as it did. -/
def motionInverseUptoRow : OpenClaim := { program := "ytmaoeopjnhfplaagreat", sum := "9bef15cd60e991315bc3ded3e847f4a9ed3e620e4b384744dc6be79d65f208fe", func := "setsquare/setsquarelaw17.MotionInverse", spec := "motionInverse", unfollowed := true, recurses := true, apart := false, narrowed := true }
def MotionInverseUptoSaid : Prop := motionInverseUptoRow.holds Tryz.pinned (OpenSpec.upto motionInverseSpec)

/-- 'setsquarelaw16.MeetLines', WHERE WHAT IT READS IS OF BULK AT MOST 1048576: true; the input reads as it did. -/
def meetLinesUptoRow : OpenClaim := { program := "ytmaoeopjnhfplaagreat", sum := "9bef15cd60e991315bc3ded3e847f4a9ed3e620e4b384744dc6be79d65f208fe", func := "setsquare/setsquarelaw16.MeetLines", spec := "meetLines", unfollowed := true, recurses := true, apart := false, narrowed := true }
def MeetLinesUptoSaid : Prop := meetLinesUptoRow.holds Tryz.pinned (OpenSpec.upto meetLinesSpec)

/-- 'setsquarelaw16.MeetOn', WHERE WHAT IT READS IS OF BULK AT MOST 1048576: true; the input reads as it did. -/
def meetOnUptoRow : OpenClaim := { program := "ytmaoeopjnhfplaagreat", sum := "9bef15cd60e991315bc3ded3e847f4a9ed3e620e4b384744dc6be79d65f208fe", func := "setsquare/setsquarelaw16.MeetOn", spec := "meetOn", unfollowed := true, recurses := true, apart := false, narrowed := true }
def MeetOnUptoSaid : Prop := meetOnUptoRow.holds Tryz.pinned (OpenSpec.upto meetOnSpec)

/-- 'setsquarelaw16.MeetLineCircle', WHERE WHAT IT READS IS OF BULK AT MOST 1048576: true; the input reads as it did. -/
def meetLineCircleUptoRow : OpenClaim := { program := "ytmaoeopjnhfplaagreat", sum := "9bef15cd60e991315bc3ded3e847f4a9ed3e620e4b384744dc6be79d65f208fe", func := "setsquare/setsquarelaw16.MeetLineCircle", spec := "meetLineCircle", unfollowed := true, recurses := true, apart := false, narrowed := true }
def MeetLineCircleUptoSaid : Prop := meetLineCircleUptoRow.holds Tryz.pinned (OpenSpec.upto meetLineCircleSpec)

/-- 'setsquarelaw16.MeetCircles', WHERE WHAT IT READS IS OF BULK AT MOST 1048576: true; the input reads as it did. -/
def meetCirclesUptoRow : OpenClaim := { program := "ytmaoeopjnhfplaagreat", sum := "9bef15cd60e991315bc3ded3e847f4a9ed3e620e4b384744dc6be79d65f208fe", func := "setsquare/setsquarelaw16.MeetCircles", spec := "meetCircles", unfollowed := true, recurses := true, apart := false, narrowed := true }
def MeetCirclesUptoSaid : Prop := meetCirclesUptoRow.holds Tryz.pinned (OpenSpec.upto meetCirclesSpec)

/-- 'setsquarelaw16.MeetLoci', WHERE WHAT IT READS IS OF BULK AT MOST 1048576: true; the input reads as it did. -/
def meetLociUptoRow : OpenClaim := { program := "ytmaoeopjnhfplaagreat", sum := "9bef15cd60e991315bc3ded3e847f4a9ed3e620e4b384744dc6be79d65f208fe", func := "setsquare/setsquarelaw16.MeetLoci", spec := "meetLoci", unfollowed := true, recurses := true, apart := false, narrowed := true }
def MeetLociUptoSaid : Prop := meetLociUptoRow.holds Tryz.pinned (OpenSpec.upto meetLociSpec)

/-- 'setsquarelaw16.MeetOpposite', WHERE WHAT IT READS IS OF BULK AT MOST 1048576: true; the input reads as it did. -/
def meetOppositeUptoRow : OpenClaim := { program := "ytmaoeopjnhfplaagreat", sum := "9bef15cd60e991315bc3ded3e847f4a9ed3e620e4b384744dc6be79d65f208fe", func := "setsquare/setsquarelaw16.MeetOpposite", spec := "meetOpposite", unfollowed := true, recurses := true, apart := false, narrowed := true }
def MeetOppositeUptoSaid : Prop := meetOppositeUptoRow.holds Tryz.pinned (OpenSpec.upto meetOppositeSpec)

/-- 'setsquarelaw16.MeetBranch', WHERE WHAT IT READS IS OF BULK AT MOST 1048576: true; the input reads as it did. -/
def meetBranchUptoRow : OpenClaim := { program := "ytmaoeopjnhfplaagreat", sum := "9bef15cd60e991315bc3ded3e847f4a9ed3e620e4b384744dc6be79d65f208fe", func := "setsquare/setsquarelaw16.MeetBranch", spec := "meetBranch", unfollowed := true, recurses := true, apart := false, narrowed := true }
def MeetBranchUptoSaid : Prop := meetBranchUptoRow.holds Tryz.pinned (OpenSpec.upto meetBranchSpec)

end Rows
end Go.Proofs.YtmaoeopjnhfplaaGreat
