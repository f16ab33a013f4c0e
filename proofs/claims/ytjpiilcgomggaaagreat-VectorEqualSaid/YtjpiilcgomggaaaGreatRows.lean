/-
  No cell of these rows narrows 'for every input' (looked for: loops, veiled, ifaces, maps, wideKeys, modest, calm, conditions, laid).
  DERIVED. THE GIVEN ROWS OF THIS SEAT. 11 by the template 'for every input the law returns true; each argument reads behind the call as it read before'; 0 by the template 'total and deterministic' (their statements: YtjpiilcgomggaaaGreatTotals.lean).
  GIVEN WITH THE SEED: the statements are not yours to turn. If you find one false, say at which input.
  Laid BY PROGRAM, IN A SANDBOX (cutbox-rows.mjs): the forced cells as the released guide's own fill.sh prints them over the translation b486eade694d1760… (all of the seat's roots in one cut). By AI agents, Wed Nov 11 2026. No macro, syntax, notation, axiom, sorry.
-/
import Derived.Test.YtjpiilcgomggaaaGreatChecked
import GoSem.Claim
import GoSem.ClaimJoined
import GoSem.ClaimMapViews
import Derived.JoinedTies
import Derived.KernelRfl
namespace Go.Proofs.YtjpiilcgomggaaaGreat
/- THE CELL 'sum', in the pinned program and in every row, IS THE sha256 OF THE DUMP (.gsa) THAT YtjpiilcgomggaaaGreatProg.lean LOADS. Nothing in Lean hashes anything: it is a label: what it is worth is what the hold of that sum in a sandbox is worth. -/
noncomputable def Tryz.pinned : Pinned := { name := "ytjpiilcgomggaaagreat", sum := "b486eade694d1760cdecb9c577e1873b1c76c077227aaea14755010e8eae9214", checked := Tryz.checked }
namespace Rows
def none {H : Type} : Left H := { results := [], args := [] }

/-- 'setsquarelaw09.NumberSqrt': WHATEVER THE INPUT: true; the input reads as it did. -/
def numberSqrtSpec : ChangeSpec := { name := "numberSqrt", fn := fun _ => fun
  | [d1, d2] => { results := [.lit (.bool true)], args := [d1, d2] }
  | _ => none }
def numberSqrtRow : OpenClaim := { program := "ytjpiilcgomggaaagreat", sum := "b486eade694d1760cdecb9c577e1873b1c76c077227aaea14755010e8eae9214", func := "setsquare/setsquarelaw09.NumberSqrt", spec := "numberSqrt", unfollowed := true, recurses := true, apart := false }
def NumberSqrtSaid : Prop := numberSqrtRow.holds Tryz.pinned (OpenSpec.ofChange numberSqrtSpec)

/-- ITS FALSE NEIGHBOUR: 'it returns false'. Refute it at one input. -/
def numberSqrtWrong : ChangeSpec := { name := "numberSqrt", fn := fun _ => fun
  | [d1, d2] => { results := [.lit (.bool false)], args := [d1, d2] }
  | _ => none }
def NumberSqrtWrongFalsely : Prop := numberSqrtRow.holds Tryz.pinned (OpenSpec.ofChange numberSqrtWrong)

/-- 'setsquarelaw09.NumberJoin': WHATEVER THE INPUT: true; the input reads as it did. -/
def numberJoinSpec : ChangeSpec := { name := "numberJoin", fn := fun _ => fun
  | [d1, d2] => { results := [.lit (.bool true)], args := [d1, d2] }
  | _ => none }
def numberJoinRow : OpenClaim := { program := "ytjpiilcgomggaaagreat", sum := "b486eade694d1760cdecb9c577e1873b1c76c077227aaea14755010e8eae9214", func := "setsquare/setsquarelaw09.NumberJoin", spec := "numberJoin", unfollowed := true, recurses := true, apart := false }
def NumberJoinSaid : Prop := numberJoinRow.holds Tryz.pinned (OpenSpec.ofChange numberJoinSpec)

/-- ITS FALSE NEIGHBOUR: 'it returns false'. Refute it at one input. -/
def numberJoinWrong : ChangeSpec := { name := "numberJoin", fn := fun _ => fun
  | [d1, d2] => { results := [.lit (.bool false)], args := [d1, d2] }
  | _ => none }
def NumberJoinWrongFalsely : Prop := numberJoinRow.holds Tryz.pinned (OpenSpec.ofChange numberJoinWrong)

/-- 'setsquarelaw13.VectorDot': WHATEVER THE INPUT: true; the input reads as it did. -/
def vectorDotSpec : ChangeSpec := { name := "vectorDot", fn := fun _ => fun
  | [d] => { results := [.lit (.bool true)], args := [d] }
  | _ => none }
def vectorDotRow : OpenClaim := { program := "ytjpiilcgomggaaagreat", sum := "b486eade694d1760cdecb9c577e1873b1c76c077227aaea14755010e8eae9214", func := "setsquare/setsquarelaw13.VectorDot", spec := "vectorDot", unfollowed := true, recurses := true, apart := false }
def VectorDotSaid : Prop := vectorDotRow.holds Tryz.pinned (OpenSpec.ofChange vectorDotSpec)

/-- ITS FALSE NEIGHBOUR: 'it returns false'. Refute it at one input. -/
def vectorDotWrong : ChangeSpec := { name := "vectorDot", fn := fun _ => fun
  | [d] => { results := [.lit (.bool false)], args := [d] }
  | _ => none }
def VectorDotWrongFalsely : Prop := vectorDotRow.holds Tryz.pinned (OpenSpec.ofChange vectorDotWrong)

/-- 'setsquarelaw13.VectorCross': WHATEVER THE INPUT: true; the input reads as it did. -/
def vectorCrossSpec : ChangeSpec := { name := "vectorCross", fn := fun _ => fun
  | [d] => { results := [.lit (.bool true)], args := [d] }
  | _ => none }
def vectorCrossRow : OpenClaim := { program := "ytjpiilcgomggaaagreat", sum := "b486eade694d1760cdecb9c577e1873b1c76c077227aaea14755010e8eae9214", func := "setsquare/setsquarelaw13.VectorCross", spec := "vectorCross", unfollowed := true, recurses := true, apart := false }
def VectorCrossSaid : Prop := vectorCrossRow.holds Tryz.pinned (OpenSpec.ofChange vectorCrossSpec)

/-- ITS FALSE NEIGHBOUR: 'it returns false'. Refute it at one input. -/
def vectorCrossWrong : ChangeSpec := { name := "vectorCross", fn := fun _ => fun
  | [d] => { results := [.lit (.bool false)], args := [d] }
  | _ => none }
def VectorCrossWrongFalsely : Prop := vectorCrossRow.holds Tryz.pinned (OpenSpec.ofChange vectorCrossWrong)

/-- 'setsquarelaw13.VectorLength': WHATEVER THE INPUT: true; the input reads as it did. -/
def vectorLengthSpec : ChangeSpec := { name := "vectorLength", fn := fun _ => fun
  | [d] => { results := [.lit (.bool true)], args := [d] }
  | _ => none }
def vectorLengthRow : OpenClaim := { program := "ytjpiilcgomggaaagreat", sum := "b486eade694d1760cdecb9c577e1873b1c76c077227aaea14755010e8eae9214", func := "setsquare/setsquarelaw13.VectorLength", spec := "vectorLength", unfollowed := true, recurses := true, apart := false }
def VectorLengthSaid : Prop := vectorLengthRow.holds Tryz.pinned (OpenSpec.ofChange vectorLengthSpec)

/-- ITS FALSE NEIGHBOUR: 'it returns false'. Refute it at one input. -/
def vectorLengthWrong : ChangeSpec := { name := "vectorLength", fn := fun _ => fun
  | [d] => { results := [.lit (.bool false)], args := [d] }
  | _ => none }
def VectorLengthWrongFalsely : Prop := vectorLengthRow.holds Tryz.pinned (OpenSpec.ofChange vectorLengthWrong)

/-- 'setsquarelaw13.VectorMidpoint': WHATEVER THE INPUT: true; the input reads as it did. -/
def vectorMidpointSpec : ChangeSpec := { name := "vectorMidpoint", fn := fun _ => fun
  | [d] => { results := [.lit (.bool true)], args := [d] }
  | _ => none }
def vectorMidpointRow : OpenClaim := { program := "ytjpiilcgomggaaagreat", sum := "b486eade694d1760cdecb9c577e1873b1c76c077227aaea14755010e8eae9214", func := "setsquare/setsquarelaw13.VectorMidpoint", spec := "vectorMidpoint", unfollowed := true, recurses := true, apart := false }
def VectorMidpointSaid : Prop := vectorMidpointRow.holds Tryz.pinned (OpenSpec.ofChange vectorMidpointSpec)

/-- ITS FALSE NEIGHBOUR: 'it returns false'. Refute it at one input. -/
def vectorMidpointWrong : ChangeSpec := { name := "vectorMidpoint", fn := fun _ => fun
  | [d] => { results := [.lit (.bool false)], args := [d] }
  | _ => none }
def VectorMidpointWrongFalsely : Prop := vectorMidpointRow.holds Tryz.pinned (OpenSpec.ofChange vectorMidpointWrong)

/-- 'setsquarelaw13.VectorIdentity': WHATEVER THE INPUT: true; the input reads as it did. -/
def vectorIdentitySpec : ChangeSpec := { name := "vectorIdentity", fn := fun _ => fun
  | [d] => { results := [.lit (.bool true)], args := [d] }
  | _ => none }
def vectorIdentityRow : OpenClaim := { program := "ytjpiilcgomggaaagreat", sum := "b486eade694d1760cdecb9c577e1873b1c76c077227aaea14755010e8eae9214", func := "setsquare/setsquarelaw13.VectorIdentity", spec := "vectorIdentity", unfollowed := true, recurses := true, apart := false }
def VectorIdentitySaid : Prop := vectorIdentityRow.holds Tryz.pinned (OpenSpec.ofChange vectorIdentitySpec)

/-- ITS FALSE NEIGHBOUR: 'it returns false'. Refute it at one input. -/
def vectorIdentityWrong : ChangeSpec := { name := "vectorIdentity", fn := fun _ => fun
  | [d] => { results := [.lit (.bool false)], args := [d] }
  | _ => none }
def VectorIdentityWrongFalsely : Prop := vectorIdentityRow.holds Tryz.pinned (OpenSpec.ofChange vectorIdentityWrong)

/-- 'setsquarelaw13.VectorLinear': WHATEVER THE INPUT: true; the input reads as it did. -/
def vectorLinearSpec : ChangeSpec := { name := "vectorLinear", fn := fun _ => fun
  | [d] => { results := [.lit (.bool true)], args := [d] }
  | _ => none }
def vectorLinearRow : OpenClaim := { program := "ytjpiilcgomggaaagreat", sum := "b486eade694d1760cdecb9c577e1873b1c76c077227aaea14755010e8eae9214", func := "setsquare/setsquarelaw13.VectorLinear", spec := "vectorLinear", unfollowed := true, recurses := true, apart := false }
def VectorLinearSaid : Prop := vectorLinearRow.holds Tryz.pinned (OpenSpec.ofChange vectorLinearSpec)

/-- ITS FALSE NEIGHBOUR: 'it returns false'. Refute it at one input. -/
def vectorLinearWrong : ChangeSpec := { name := "vectorLinear", fn := fun _ => fun
  | [d] => { results := [.lit (.bool false)], args := [d] }
  | _ => none }
def VectorLinearWrongFalsely : Prop := vectorLinearRow.holds Tryz.pinned (OpenSpec.ofChange vectorLinearWrong)

/-- 'setsquarelaw13.VectorSums': WHATEVER THE INPUT: true; the input reads as it did. -/
def vectorSumsSpec : ChangeSpec := { name := "vectorSums", fn := fun _ => fun
  | [d1, d2, d3] => { results := [.lit (.bool true)], args := [d1, d2, d3] }
  | _ => none }
def vectorSumsRow : OpenClaim := { program := "ytjpiilcgomggaaagreat", sum := "b486eade694d1760cdecb9c577e1873b1c76c077227aaea14755010e8eae9214", func := "setsquare/setsquarelaw13.VectorSums", spec := "vectorSums", unfollowed := true, recurses := true, apart := false }
def VectorSumsSaid : Prop := vectorSumsRow.holds Tryz.pinned (OpenSpec.ofChange vectorSumsSpec)

/-- ITS FALSE NEIGHBOUR: 'it returns false'. Refute it at one input. -/
def vectorSumsWrong : ChangeSpec := { name := "vectorSums", fn := fun _ => fun
  | [d1, d2, d3] => { results := [.lit (.bool false)], args := [d1, d2, d3] }
  | _ => none }
def VectorSumsWrongFalsely : Prop := vectorSumsRow.holds Tryz.pinned (OpenSpec.ofChange vectorSumsWrong)

/-- 'setsquarelaw13.VectorEqual': WHATEVER THE INPUT: true; the input reads as it did. -/
def vectorEqualSpec : ChangeSpec := { name := "vectorEqual", fn := fun _ => fun
  | [d] => { results := [.lit (.bool true)], args := [d] }
  | _ => none }
def vectorEqualRow : OpenClaim := { program := "ytjpiilcgomggaaagreat", sum := "b486eade694d1760cdecb9c577e1873b1c76c077227aaea14755010e8eae9214", func := "setsquare/setsquarelaw13.VectorEqual", spec := "vectorEqual", unfollowed := true, recurses := true, apart := false }
def VectorEqualSaid : Prop := vectorEqualRow.holds Tryz.pinned (OpenSpec.ofChange vectorEqualSpec)

/-- ITS FALSE NEIGHBOUR: 'it returns false'. Refute it at one input. -/
def vectorEqualWrong : ChangeSpec := { name := "vectorEqual", fn := fun _ => fun
  | [d] => { results := [.lit (.bool false)], args := [d] }
  | _ => none }
def VectorEqualWrongFalsely : Prop := vectorEqualRow.holds Tryz.pinned (OpenSpec.ofChange vectorEqualWrong)

/-- 'setsquarelaw09.NumberTrim': WHATEVER THE INPUT: true; the input reads as it did. -/
def numberTrimSpec : ChangeSpec := { name := "numberTrim", fn := fun _ => fun
  | [d] => { results := [.lit (.bool true)], args := [d] }
  | _ => none }
def numberTrimRow : OpenClaim := { program := "ytjpiilcgomggaaagreat", sum := "b486eade694d1760cdecb9c577e1873b1c76c077227aaea14755010e8eae9214", func := "setsquare/setsquarelaw09.NumberTrim", spec := "numberTrim", unfollowed := true, recurses := true, apart := false }
def NumberTrimSaid : Prop := numberTrimRow.holds Tryz.pinned (OpenSpec.ofChange numberTrimSpec)

/-- ITS FALSE NEIGHBOUR: 'it returns false'. Refute it at one input. -/
def numberTrimWrong : ChangeSpec := { name := "numberTrim", fn := fun _ => fun
  | [d] => { results := [.lit (.bool false)], args := [d] }
  | _ => none }
def NumberTrimWrongFalsely : Prop := numberTrimRow.holds Tryz.pinned (OpenSpec.ofChange numberTrimWrong)

/- THE SECOND FORM. 'bulk': how many values and letters a reading holds, each counted each time it is reached (what is shared counts as often as it is met; a slice's spare places count too). A statement '..UptoSaid' is the law's where the arguments, and the package variables that the reading takes, are together of bulk at most 1048576: NARROWER than '..Said'. Prove '..Said' where nothing that the law and all that it calls make is longer than what came in: it says more and counts as full. Else prove '..UptoSaid'. A law counts once. -/
mutual
def uptoBulk {H : Type} : DataW H → Nat
  | .lit (.string bytes) => bytes.length + 1
  | .lit _ => 1
  | .nil => 1
  | .ptr d => uptoBulk d + 1
  | .slice elems spare => uptoBulkAll elems + uptoBulkAll spare + 1
  | .agg parts => uptoBulkAll parts + 1
  | .iface _ d => uptoBulk d + 1
  | .map entries => uptoBulkEntries entries + 1
  | .held _ => 1
def uptoBulkAll {H : Type} : List (DataW H) → Nat
  | [] => 0
  | d :: r => uptoBulk d + uptoBulkAll r
def uptoBulkEntries {H : Type} : List (Lit × DataW H) → Nat
  | [] => 0
  | x :: r => uptoBulkEntry x + uptoBulkEntries r
def uptoBulkEntry {H : Type} : Lit × DataW H → Nat
  | (.string bytes, d) => bytes.length + uptoBulk d + 1
  | (_, d) => uptoBulk d + 1
 end
def uptoSmall : (H : Type) → List (DataW H) → Bool := fun _ ds => decide (uptoBulkAll ds ≤ 1048576)
def OpenSpec.upto (s : _root_.Go.ChangeSpec) : _root_.Go.OpenSpec := { _root_.Go.OpenSpec.ofChange s with cond := some uptoSmall }

/-- 'setsquarelaw09.NumberSqrt', WHERE WHAT IT READS IS OF BULK AT MOST 1048576: true; the input reads as it did. -/
def numberSqrtUptoRow : OpenClaim := { program := "ytjpiilcgomggaaagreat", sum := "b486eade694d1760cdecb9c577e1873b1c76c077227aaea14755010e8eae9214", func := "setsquare/setsquarelaw09.NumberSqrt", spec := "numberSqrt", unfollowed := true, recurses := true, apart := false, narrowed := true }
def NumberSqrtUptoSaid : Prop := numberSqrtUptoRow.holds Tryz.pinned (OpenSpec.upto numberSqrtSpec)

/-- 'setsquarelaw09.NumberJoin', WHERE WHAT IT READS IS OF BULK AT MOST 1048576: true; the input reads as it did. -/
def numberJoinUptoRow : OpenClaim := { program := "ytjpiilcgomggaaagreat", sum := "b486eade694d1760cdecb9c577e1873b1c76c077227aaea14755010e8eae9214", func := "setsquare/setsquarelaw09.NumberJoin", spec := "numberJoin", unfollowed := true, recurses := true, apart := false, narrowed := true }
def NumberJoinUptoSaid : Prop := numberJoinUptoRow.holds Tryz.pinned (OpenSpec.upto numberJoinSpec)

/-- 'setsquarelaw13.VectorDot', WHERE WHAT IT READS IS OF BULK AT MOST 1048576: true; the input reads as it did. -/
def vectorDotUptoRow : OpenClaim := { program := "ytjpiilcgomggaaagreat", sum := "b486eade694d1760cdecb9c577e1873b1c76c077227aaea14755010e8eae9214", func := "setsquare/setsquarelaw13.VectorDot", spec := "vectorDot", unfollowed := true, recurses := true, apart := false, narrowed := true }
def VectorDotUptoSaid : Prop := vectorDotUptoRow.holds Tryz.pinned (OpenSpec.upto vectorDotSpec)

/-- 'setsquarelaw13.VectorCross', WHERE WHAT IT READS IS OF BULK AT MOST 1048576: true; the input reads as it did. -/
def vectorCrossUptoRow : OpenClaim := { program := "ytjpiilcgomggaaagreat", sum := "b486eade694d1760cdecb9c577e1873b1c76c077227aaea14755010e8eae9214", func := "setsquare/setsquarelaw13.VectorCross", spec := "vectorCross", unfollowed := true, recurses := true, apart := false, narrowed := true }
def VectorCrossUptoSaid : Prop := vectorCrossUptoRow.holds Tryz.pinned (OpenSpec.upto vectorCrossSpec)

/-- 'setsquarelaw13.VectorLength', WHERE WHAT IT READS IS OF BULK AT MOST 1048576: true; the input reads as it did. -/
def vectorLengthUptoRow : OpenClaim := { program := "ytjpiilcgomggaaagreat", sum := "b486eade694d1760cdecb9c577e1873b1c76c077227aaea14755010e8eae9214", func := "setsquare/setsquarelaw13.VectorLength", spec := "vectorLength", unfollowed := true, recurses := true, apart := false, narrowed := true }
def VectorLengthUptoSaid : Prop := vectorLengthUptoRow.holds Tryz.pinned (OpenSpec.upto vectorLengthSpec)

/-- 'setsquarelaw13.VectorMidpoint', WHERE WHAT IT READS IS OF BULK AT MOST 1048576: true; the input reads as it did. -/
def vectorMidpointUptoRow : OpenClaim := { program := "ytjpiilcgomggaaagreat", sum := "b486eade694d1760cdecb9c577e1873b1c76c077227aaea14755010e8eae9214", func := "setsquare/setsquarelaw13.VectorMidpoint", spec := "vectorMidpoint", unfollowed := true, recurses := true, apart := false, narrowed := true }
def VectorMidpointUptoSaid : Prop := vectorMidpointUptoRow.holds Tryz.pinned (OpenSpec.upto vectorMidpointSpec)

/-- 'setsquarelaw13.VectorIdentity', WHERE WHAT IT READS IS OF BULK AT MOST 1048576: true; the input reads as it did. -/
def vectorIdentityUptoRow : OpenClaim := { program := "ytjpiilcgomggaaagreat", sum := "b486eade694d1760cdecb9c577e1873b1c76c077227aaea14755010e8eae9214", func := "setsquare/setsquarelaw13.VectorIdentity", spec := "vectorIdentity", unfollowed := true, recurses := true, apart := false, narrowed := true }
def VectorIdentityUptoSaid : Prop := vectorIdentityUptoRow.holds Tryz.pinned (OpenSpec.upto vectorIdentitySpec)

/-- 'setsquarelaw13.VectorLinear', WHERE WHAT IT READS IS OF BULK AT MOST 1048576: true; the input reads as it did. -/
def vectorLinearUptoRow : OpenClaim := { program := "ytjpiilcgomggaaagreat", sum := "b486eade694d1760cdecb9c577e1873b1c76c077227aaea14755010e8eae9214", func := "setsquare/setsquarelaw13.VectorLinear", spec := "vectorLinear", unfollowed := true, recurses := true, apart := false, narrowed := true }
def VectorLinearUptoSaid : Prop := vectorLinearUptoRow.holds Tryz.pinned (OpenSpec.upto vectorLinearSpec)

/-- 'setsquarelaw13.VectorSums', WHERE WHAT IT READS IS OF BULK AT MOST 1048576: true; the input reads as it did. -/
def vectorSumsUptoRow : OpenClaim := { program := "ytjpiilcgomggaaagreat", sum := "b486eade694d1760cdecb9c577e1873b1c76c077227aaea14755010e8eae9214", func := "setsquare/setsquarelaw13.VectorSums", spec := "vectorSums", unfollowed := true, recurses := true, apart := false, narrowed := true }
def VectorSumsUptoSaid : Prop := vectorSumsUptoRow.holds Tryz.pinned (OpenSpec.upto vectorSumsSpec)

/-- 'setsquarelaw13.VectorEqual', WHERE WHAT IT READS IS OF BULK AT MOST 1048576: true; the input reads as it did. -/
def vectorEqualUptoRow : OpenClaim := { program := "ytjpiilcgomggaaagreat", sum := "b486eade694d1760cdecb9c577e1873b1c76c077227aaea14755010e8eae9214", func := "setsquare/setsquarelaw13.VectorEqual", spec := "vectorEqual", unfollowed := true, recurses := true, apart := false, narrowed := true }
def VectorEqualUptoSaid : Prop := vectorEqualUptoRow.holds Tryz.pinned (OpenSpec.upto vectorEqualSpec)

/-- 'setsquarelaw09.NumberTrim', WHERE WHAT IT READS IS OF BULK AT MOST 1048576: true; the input reads as it did. -/
def numberTrimUptoRow : OpenClaim := { program := "ytjpiilcgomggaaagreat", sum := "b486eade694d1760cdecb9c577e1873b1c76c077227aaea14755010e8eae9214", func := "setsquare/setsquarelaw09.NumberTrim", spec := "numberTrim", unfollowed := true, recurses := true, apart := false, narrowed := true }
def NumberTrimUptoSaid : Prop := numberTrimUptoRow.holds Tryz.pinned (OpenSpec.upto numberTrimSpec)

end Rows
end Go.Proofs.YtjpiilcgomggaaaGreat
