/-
  No cell of these rows narrows 'for every input' (looked for: loops, veiled, ifaces, maps, wideKeys, modest, calm, conditions, laid).
  DERIVED. THE GIVEN ROWS OF THIS SEAT. 12 by the template 'for every input the law returns true; each argument reads behind the call as it read before'; 0 by the template 'total and deterministic' (their statements: YtpccjlcpbehglaaGreatTotals.lean).
  GIVEN WITH THE SEED: the statements are not yours to turn. If you find one false, say at which input.
  Laid BY PROGRAM, IN A SANDBOX (cutbox-rows.mjs): the forced cells as the released guide's own fill.sh prints them over the translation e0d9976429c2f514… (all of the seat's roots in one cut). By AI agents, Wed Nov 11 2026. No macro, syntax, notation, axiom, sorry.
-/
import Derived.Test.YtpccjlcpbehglaaGreatChecked
import GoSem.Claim
import GoSem.ClaimJoined
import GoSem.ClaimMapViews
import Derived.JoinedTies
import Derived.KernelRfl
namespace Go.Proofs.YtpccjlcpbehglaaGreat
/- THE CELL 'sum', in the pinned program and in every row, IS THE sha256 OF THE DUMP (.gsa) THAT YtpccjlcpbehglaaGreatProg.lean LOADS. Nothing in Lean hashes anything: it is a label: what it is worth is what the hold of that sum in a sandbox is worth. -/
noncomputable def Tryz.pinned : Pinned := { name := "ytpccjlcpbehglaagreat", sum := "e0d9976429c2f514179a342d11d5b55227771e4fcff955d2715492537269373a", checked := Tryz.checked }
namespace Rows
def none {H : Type} : Left H := { results := [], args := [] }

/-- 'setsquarelaw09.NumberMul': WHATEVER THE INPUT: true; the input reads as it did. -/
def numberMulSpec : ChangeSpec := { name := "numberMul", fn := fun _ => fun
  | [d] => { results := [.lit (.bool true)], args := [d] }
  | _ => none }
def numberMulRow : OpenClaim := { program := "ytpccjlcpbehglaagreat", sum := "e0d9976429c2f514179a342d11d5b55227771e4fcff955d2715492537269373a", func := "setsquare/setsquarelaw09.NumberMul", spec := "numberMul", unfollowed := true, recurses := true, apart := false }
def NumberMulSaid : Prop := numberMulRow.holds Tryz.pinned (OpenSpec.ofChange numberMulSpec)

/-- ITS FALSE NEIGHBOUR: 'it returns false'. Refute it at one input. -/
def numberMulWrong : ChangeSpec := { name := "numberMul", fn := fun _ => fun
  | [d] => { results := [.lit (.bool false)], args := [d] }
  | _ => none }
def NumberMulWrongFalsely : Prop := numberMulRow.holds Tryz.pinned (OpenSpec.ofChange numberMulWrong)

/-- 'setsquarelaw09.NumberDiv': WHATEVER THE INPUT: true; the input reads as it did. -/
def numberDivSpec : ChangeSpec := { name := "numberDiv", fn := fun _ => fun
  | [d] => { results := [.lit (.bool true)], args := [d] }
  | _ => none }
def numberDivRow : OpenClaim := { program := "ytpccjlcpbehglaagreat", sum := "e0d9976429c2f514179a342d11d5b55227771e4fcff955d2715492537269373a", func := "setsquare/setsquarelaw09.NumberDiv", spec := "numberDiv", unfollowed := true, recurses := true, apart := false }
def NumberDivSaid : Prop := numberDivRow.holds Tryz.pinned (OpenSpec.ofChange numberDivSpec)

/-- ITS FALSE NEIGHBOUR: 'it returns false'. Refute it at one input. -/
def numberDivWrong : ChangeSpec := { name := "numberDiv", fn := fun _ => fun
  | [d] => { results := [.lit (.bool false)], args := [d] }
  | _ => none }
def NumberDivWrongFalsely : Prop := numberDivRow.holds Tryz.pinned (OpenSpec.ofChange numberDivWrong)

/-- 'setsquarelaw09.NumberSqrt': WHATEVER THE INPUT: true; the input reads as it did. -/
def numberSqrtSpec : ChangeSpec := { name := "numberSqrt", fn := fun _ => fun
  | [d1, d2] => { results := [.lit (.bool true)], args := [d1, d2] }
  | _ => none }
def numberSqrtRow : OpenClaim := { program := "ytpccjlcpbehglaagreat", sum := "e0d9976429c2f514179a342d11d5b55227771e4fcff955d2715492537269373a", func := "setsquare/setsquarelaw09.NumberSqrt", spec := "numberSqrt", unfollowed := true, recurses := true, apart := false }
def NumberSqrtSaid : Prop := numberSqrtRow.holds Tryz.pinned (OpenSpec.ofChange numberSqrtSpec)

/-- ITS FALSE NEIGHBOUR: 'it returns false'. Refute it at one input. -/
def numberSqrtWrong : ChangeSpec := { name := "numberSqrt", fn := fun _ => fun
  | [d1, d2] => { results := [.lit (.bool false)], args := [d1, d2] }
  | _ => none }
def NumberSqrtWrongFalsely : Prop := numberSqrtRow.holds Tryz.pinned (OpenSpec.ofChange numberSqrtWrong)

/-- 'setsquarelaw09.NumberOrder': WHATEVER THE INPUT: true; the input reads as it did. -/
def numberOrderSpec : ChangeSpec := { name := "numberOrder", fn := fun _ => fun
  | [d] => { results := [.lit (.bool true)], args := [d] }
  | _ => none }
def numberOrderRow : OpenClaim := { program := "ytpccjlcpbehglaagreat", sum := "e0d9976429c2f514179a342d11d5b55227771e4fcff955d2715492537269373a", func := "setsquare/setsquarelaw09.NumberOrder", spec := "numberOrder", unfollowed := true, recurses := true, apart := false }
def NumberOrderSaid : Prop := numberOrderRow.holds Tryz.pinned (OpenSpec.ofChange numberOrderSpec)

/-- ITS FALSE NEIGHBOUR: 'it returns false'. Refute it at one input. -/
def numberOrderWrong : ChangeSpec := { name := "numberOrder", fn := fun _ => fun
  | [d] => { results := [.lit (.bool false)], args := [d] }
  | _ => none }
def NumberOrderWrongFalsely : Prop := numberOrderRow.holds Tryz.pinned (OpenSpec.ofChange numberOrderWrong)

/-- 'setsquarelaw09.NumberJoin': WHATEVER THE INPUT: true; the input reads as it did. -/
def numberJoinSpec : ChangeSpec := { name := "numberJoin", fn := fun _ => fun
  | [d1, d2] => { results := [.lit (.bool true)], args := [d1, d2] }
  | _ => none }
def numberJoinRow : OpenClaim := { program := "ytpccjlcpbehglaagreat", sum := "e0d9976429c2f514179a342d11d5b55227771e4fcff955d2715492537269373a", func := "setsquare/setsquarelaw09.NumberJoin", spec := "numberJoin", unfollowed := true, recurses := true, apart := false }
def NumberJoinSaid : Prop := numberJoinRow.holds Tryz.pinned (OpenSpec.ofChange numberJoinSpec)

/-- ITS FALSE NEIGHBOUR: 'it returns false'. Refute it at one input. -/
def numberJoinWrong : ChangeSpec := { name := "numberJoin", fn := fun _ => fun
  | [d1, d2] => { results := [.lit (.bool false)], args := [d1, d2] }
  | _ => none }
def NumberJoinWrongFalsely : Prop := numberJoinRow.holds Tryz.pinned (OpenSpec.ofChange numberJoinWrong)

/-- 'setsquarelaw09.NumberField': WHATEVER THE INPUT: true; the input reads as it did. -/
def numberFieldSpec : ChangeSpec := { name := "numberField", fn := fun _ => fun
  | [d] => { results := [.lit (.bool true)], args := [d] }
  | _ => none }
def numberFieldRow : OpenClaim := { program := "ytpccjlcpbehglaagreat", sum := "e0d9976429c2f514179a342d11d5b55227771e4fcff955d2715492537269373a", func := "setsquare/setsquarelaw09.NumberField", spec := "numberField", unfollowed := true, recurses := true, apart := false }
def NumberFieldSaid : Prop := numberFieldRow.holds Tryz.pinned (OpenSpec.ofChange numberFieldSpec)

/-- ITS FALSE NEIGHBOUR: 'it returns false'. Refute it at one input. -/
def numberFieldWrong : ChangeSpec := { name := "numberField", fn := fun _ => fun
  | [d] => { results := [.lit (.bool false)], args := [d] }
  | _ => none }
def NumberFieldWrongFalsely : Prop := numberFieldRow.holds Tryz.pinned (OpenSpec.ofChange numberFieldWrong)

/-- 'setsquarelaw09.NumberValid': WHATEVER THE INPUT: true; the input reads as it did. -/
def numberValidSpec : ChangeSpec := { name := "numberValid", fn := fun _ => fun
  | [d] => { results := [.lit (.bool true)], args := [d] }
  | _ => none }
def numberValidRow : OpenClaim := { program := "ytpccjlcpbehglaagreat", sum := "e0d9976429c2f514179a342d11d5b55227771e4fcff955d2715492537269373a", func := "setsquare/setsquarelaw09.NumberValid", spec := "numberValid", unfollowed := true, recurses := true, apart := false }
def NumberValidSaid : Prop := numberValidRow.holds Tryz.pinned (OpenSpec.ofChange numberValidSpec)

/-- ITS FALSE NEIGHBOUR: 'it returns false'. Refute it at one input. -/
def numberValidWrong : ChangeSpec := { name := "numberValid", fn := fun _ => fun
  | [d] => { results := [.lit (.bool false)], args := [d] }
  | _ => none }
def NumberValidWrongFalsely : Prop := numberValidRow.holds Tryz.pinned (OpenSpec.ofChange numberValidWrong)

/-- 'setsquarelaw09.NumberSums': WHATEVER THE INPUT: true; the input reads as it did. -/
def numberSumsSpec : ChangeSpec := { name := "numberSums", fn := fun _ => fun
  | [d] => { results := [.lit (.bool true)], args := [d] }
  | _ => none }
def numberSumsRow : OpenClaim := { program := "ytpccjlcpbehglaagreat", sum := "e0d9976429c2f514179a342d11d5b55227771e4fcff955d2715492537269373a", func := "setsquare/setsquarelaw09.NumberSums", spec := "numberSums", unfollowed := true, recurses := true, apart := false }
def NumberSumsSaid : Prop := numberSumsRow.holds Tryz.pinned (OpenSpec.ofChange numberSumsSpec)

/-- ITS FALSE NEIGHBOUR: 'it returns false'. Refute it at one input. -/
def numberSumsWrong : ChangeSpec := { name := "numberSums", fn := fun _ => fun
  | [d] => { results := [.lit (.bool false)], args := [d] }
  | _ => none }
def NumberSumsWrongFalsely : Prop := numberSumsRow.holds Tryz.pinned (OpenSpec.ofChange numberSumsWrong)

/-- 'setsquarelaw13.VectorDot': WHATEVER THE INPUT: true; the input reads as it did. -/
def vectorDotSpec : ChangeSpec := { name := "vectorDot", fn := fun _ => fun
  | [d] => { results := [.lit (.bool true)], args := [d] }
  | _ => none }
def vectorDotRow : OpenClaim := { program := "ytpccjlcpbehglaagreat", sum := "e0d9976429c2f514179a342d11d5b55227771e4fcff955d2715492537269373a", func := "setsquare/setsquarelaw13.VectorDot", spec := "vectorDot", unfollowed := true, recurses := true, apart := false }
def VectorDotSaid : Prop := vectorDotRow.holds Tryz.pinned (OpenSpec.ofChange vectorDotSpec)

/-- ITS FALSE NEIGHBOUR: 'it returns false'. Refute it at one input. -/
def vectorDotWrong : ChangeSpec := { name := "vectorDot", fn := fun _ => fun
  | [d] => { results := [.lit (.bool false)], args := [d] }
  | _ => none }
def VectorDotWrongFalsely : Prop := vectorDotRow.holds Tryz.pinned (OpenSpec.ofChange vectorDotWrong)

/-- 'setsquarelaw13.VectorCross': WHATEVER THE INPUT: true; the input reads as it did. -/
def vectorCrossSpec : ChangeSpec := { name := "vectorCross", fn := fun _ => fun
  | [d] => { results := [.lit (.bool true)], args := [d] }
  | _ => none }
def vectorCrossRow : OpenClaim := { program := "ytpccjlcpbehglaagreat", sum := "e0d9976429c2f514179a342d11d5b55227771e4fcff955d2715492537269373a", func := "setsquare/setsquarelaw13.VectorCross", spec := "vectorCross", unfollowed := true, recurses := true, apart := false }
def VectorCrossSaid : Prop := vectorCrossRow.holds Tryz.pinned (OpenSpec.ofChange vectorCrossSpec)

/-- ITS FALSE NEIGHBOUR: 'it returns false'. Refute it at one input. -/
def vectorCrossWrong : ChangeSpec := { name := "vectorCross", fn := fun _ => fun
  | [d] => { results := [.lit (.bool false)], args := [d] }
  | _ => none }
def VectorCrossWrongFalsely : Prop := vectorCrossRow.holds Tryz.pinned (OpenSpec.ofChange vectorCrossWrong)

/-- 'setsquarelaw13.VectorLength': WHATEVER THE INPUT: true; the input reads as it did. -/
def vectorLengthSpec : ChangeSpec := { name := "vectorLength", fn := fun _ => fun
  | [d] => { results := [.lit (.bool true)], args := [d] }
  | _ => none }
def vectorLengthRow : OpenClaim := { program := "ytpccjlcpbehglaagreat", sum := "e0d9976429c2f514179a342d11d5b55227771e4fcff955d2715492537269373a", func := "setsquare/setsquarelaw13.VectorLength", spec := "vectorLength", unfollowed := true, recurses := true, apart := false }
def VectorLengthSaid : Prop := vectorLengthRow.holds Tryz.pinned (OpenSpec.ofChange vectorLengthSpec)

/-- ITS FALSE NEIGHBOUR: 'it returns false'. Refute it at one input. -/
def vectorLengthWrong : ChangeSpec := { name := "vectorLength", fn := fun _ => fun
  | [d] => { results := [.lit (.bool false)], args := [d] }
  | _ => none }
def VectorLengthWrongFalsely : Prop := vectorLengthRow.holds Tryz.pinned (OpenSpec.ofChange vectorLengthWrong)

/-- 'setsquarelaw13.VectorMidpoint': WHATEVER THE INPUT: true; the input reads as it did. -/
def vectorMidpointSpec : ChangeSpec := { name := "vectorMidpoint", fn := fun _ => fun
  | [d] => { results := [.lit (.bool true)], args := [d] }
  | _ => none }
def vectorMidpointRow : OpenClaim := { program := "ytpccjlcpbehglaagreat", sum := "e0d9976429c2f514179a342d11d5b55227771e4fcff955d2715492537269373a", func := "setsquare/setsquarelaw13.VectorMidpoint", spec := "vectorMidpoint", unfollowed := true, recurses := true, apart := false }
def VectorMidpointSaid : Prop := vectorMidpointRow.holds Tryz.pinned (OpenSpec.ofChange vectorMidpointSpec)

/-- ITS FALSE NEIGHBOUR: 'it returns false'. Refute it at one input. -/
def vectorMidpointWrong : ChangeSpec := { name := "vectorMidpoint", fn := fun _ => fun
  | [d] => { results := [.lit (.bool false)], args := [d] }
  | _ => none }
def VectorMidpointWrongFalsely : Prop := vectorMidpointRow.holds Tryz.pinned (OpenSpec.ofChange vectorMidpointWrong)

/- THE SECOND FORM. 'bulk': how many values and letters a reading holds, each counted each time it is reached (what is shared counts as often as it is met; a slice's spare places count too). A statement '..UptoSaid' is the law's where the arguments, and the package variables that the reading takes, are together of bulk at most 1048576: NARROWER than '..Said'. Prove '..Said' where nothing that the law and all that it calls make is longer than what came in: it says more and counts as full. Else prove '..UptoSaid'. A law counts once. -/
mutual
def uptoBulk {H : Type} : DataW H → Nat
  | .lit (.string bytes) => bytes.length + 1
  | .lit _ => 1
  | .nil => 1
  | .ptr d => uptoBulk d + 1
  | .slice elems spare => uptoBulkAll elems + uptoBulkAll spare + 1
  | .agg parts => uptoBulkAll parts + 1
  | .iface _ d => uptoBulk d + 1
  | .map entries => uptoBulkEntries entries + 1
  | .held _ => 1
def uptoBulkAll {H : Type} : List (DataW H) → Nat
  | [] => 0
  | d :: r => uptoBulk d + uptoBulkAll r
def uptoBulkEntries {H : Type} : List (Lit × DataW H) → Nat
  | [] => 0
  | x :: r => uptoBulkEntry x + uptoBulkEntries r
def uptoBulkEntry {H : Type} : Lit × DataW H → Nat
  | (.string bytes, d) => bytes.length + uptoBulk d + 1
  | (_, d) => uptoBulk d + 1
 end
def uptoSmall : (H : Type) → List (DataW H) → Bool := fun _ ds => decide (uptoBulkAll ds ≤ 1048576)
def OpenSpec.upto (s : _root_.Go.ChangeSpec) : _root_.Go.OpenSpec := { _root_.Go.OpenSpec.ofChange s with cond := some uptoSmall }

/-- 'setsquarelaw09.NumberMul', WHERE WHAT IT READS IS OF BULK AT MOST 1048576: true; the input reads as it did. -/
def numberMulUptoRow : OpenClaim := { program := "ytpccjlcpbehglaagreat", sum := "e0d9976429c2f514179a342d11d5b55227771e4fcff955d2715492537269373a", func := "setsquare/setsquarelaw09.NumberMul", spec := "numberMul", unfollowed := true, recurses := true, apart := false, narrowed := true }
def NumberMulUptoSaid : Prop := numberMulUptoRow.holds Tryz.pinned (OpenSpec.upto numberMulSpec)

/-- 'setsquarelaw09.NumberDiv', WHERE WHAT IT READS IS OF BULK AT MOST 1048576: true; the input reads as it did. -/
def numberDivUptoRow : OpenClaim := { program := "ytpccjlcpbehglaagreat", sum := "e0d9976429c2f514179a342d11d5b55227771e4fcff955d2715492537269373a", func := "setsquare/setsquarelaw09.NumberDiv", spec := "numberDiv", unfollowed := true, recurses := true, apart := false, narrowed := true }
def NumberDivUptoSaid : Prop := numberDivUptoRow.holds Tryz.pinned (OpenSpec.upto numberDivSpec)

/-- 'setsquarelaw09.NumberSqrt', WHERE WHAT IT READS IS OF BULK AT MOST 1048576: true; the input reads as it did. -/
def numberSqrtUptoRow : OpenClaim := { program := "ytpccjlcpbehglaagreat", sum := "e0d9976429c2f514179a342d11d5b55227771e4fcff955d2715492537269373a", func := "setsquare/setsquarelaw09.NumberSqrt", spec := "numberSqrt", unfollowed := true, recurses := true, apart := false, narrowed := true }
def NumberSqrtUptoSaid : Prop := numberSqrtUptoRow.holds Tryz.pinned (OpenSpec.upto numberSqrtSpec)

/-- 'setsquarelaw09.NumberOrder', WHERE WHAT IT READS IS OF BULK AT MOST 1048576: true; the input reads as it did. -/
def numberOrderUptoRow : OpenClaim := { program := "ytpccjlcpbehglaagreat", sum := "e0d9976429c2f514179a342d11d5b55227771e4fcff955d2715492537269373a", func := "setsquare/setsquarelaw09.NumberOrder", spec := "numberOrder", unfollowed := true, recurses := true, apart := false, narrowed := true }
def NumberOrderUptoSaid : Prop := numberOrderUptoRow.holds Tryz.pinned (OpenSpec.upto numberOrderSpec)

/-- 'setsquarelaw09.NumberJoin', WHERE WHAT IT READS IS OF BULK AT MOST 1048576: true; the input reads as it did. -/
def numberJoinUptoRow : OpenClaim := { program := "ytpccjlcpbehglaagreat", sum := "e0d9976429c2f514179a342d11d5b55227771e4fcff955d2715492537269373a", func := "setsquare/setsquarelaw09.NumberJoin", spec := "numberJoin", unfollowed := true, recurses := true, apart := false, narrowed := true }
def NumberJoinUptoSaid : Prop := numberJoinUptoRow.holds Tryz.pinned (OpenSpec.upto numberJoinSpec)

/-- 'setsquarelaw09.NumberField', WHERE WHAT IT READS IS OF BULK AT MOST 1048576: true; the input reads as it did. -/
def numberFieldUptoRow : OpenClaim := { program := "ytpccjlcpbehglaagreat", sum := "e0d9976429c2f514179a342d11d5b55227771e4fcff955d2715492537269373a", func := "setsquare/setsquarelaw09.NumberField", spec := "numberField", unfollowed := true, recurses := true, apart := false, narrowed := true }
def NumberFieldUptoSaid : Prop := numberFieldUptoRow.holds Tryz.pinned (OpenSpec.upto numberFieldSpec)

/-- 'setsquarelaw09.NumberValid', WHERE WHAT IT READS IS OF BULK AT MOST 1048576: true; the input reads as it did. -/
def numberValidUptoRow : OpenClaim := { program := "ytpccjlcpbehglaagreat", sum := "e0d9976429c2f514179a342d11d5b55227771e4fcff955d2715492537269373a", func := "setsquare/setsquarelaw09.NumberValid", spec := "numberValid", unfollowed := true, recurses := true, apart := false, narrowed := true }
def NumberValidUptoSaid : Prop := numberValidUptoRow.holds Tryz.pinned (OpenSpec.upto numberValidSpec)

/-- 'setsquarelaw09.NumberSums', WHERE WHAT IT READS IS OF BULK AT MOST 1048576: true; the input reads as it did. -/
def numberSumsUptoRow : OpenClaim := { program := "ytpccjlcpbehglaagreat", sum := "e0d9976429c2f514179a342d11d5b55227771e4fcff955d2715492537269373a", func := "setsquare/setsquarelaw09.NumberSums", spec := "numberSums", unfollowed := true, recurses := true, apart := false, narrowed := true }
def NumberSumsUptoSaid : Prop := numberSumsUptoRow.holds Tryz.pinned (OpenSpec.upto numberSumsSpec)

/-- 'setsquarelaw13.VectorDot', WHERE WHAT IT READS IS OF BULK AT MOST 1048576: true; the input reads as it did. -/
def vectorDotUptoRow : OpenClaim := { program := "ytpccjlcpbehglaagreat", sum := "e0d9976429c2f514179a342d11d5b55227771e4fcff955d2715492537269373a", func := "setsquare/setsquarelaw13.VectorDot", spec := "vectorDot", unfollowed := true, recurses := true, apart := false, narrowed := true }
def VectorDotUptoSaid : Prop := vectorDotUptoRow.holds Tryz.pinned (OpenSpec.upto vectorDotSpec)

/-- 'setsquarelaw13.VectorCross', WHERE WHAT IT READS IS OF BULK AT MOST 1048576: true; the input reads as it did. -/
def vectorCrossUptoRow : OpenClaim := { program := "ytpccjlcpbehglaagreat", sum := "e0d9976429c2f514179a342d11d5b55227771e4fcff955d2715492537269373a", func := "setsquare/setsquarelaw13.VectorCross", spec := "vectorCross", unfollowed := true, recurses := true, apart := false, narrowed := true }
def VectorCrossUptoSaid : Prop := vectorCrossUptoRow.holds Tryz.pinned (OpenSpec.upto vectorCrossSpec)

/-- 'setsquarelaw13.VectorLength', WHERE WHAT IT READS IS OF BULK AT MOST 1048576: true; the input reads as it did. -/
def vectorLengthUptoRow : OpenClaim := { program := "ytpccjlcpbehglaagreat", sum := "e0d9976429c2f514179a342d11d5b55227771e4fcff955d2715492537269373a", func := "setsquare/setsquarelaw13.VectorLength", spec := "vectorLength", unfollowed := true, recurses := true, apart := false, narrowed := true }
def VectorLengthUptoSaid : Prop := vectorLengthUptoRow.holds Tryz.pinned (OpenSpec.upto vectorLengthSpec)

/-- 'setsquarelaw13.VectorMidpoint', WHERE WHAT IT READS IS OF BULK AT MOST 1048576: true; the input reads as it did. -/
def vectorMidpointUptoRow : OpenClaim := { program := "ytpccjlcpbehglaagreat", sum := "e0d9976429c2f514179a342d11d5b55227771e4fcff955d2715492537269373a", func := "setsquare/setsquarelaw13.VectorMidpoint", spec := "vectorMidpoint", unfollowed := true, recurses := true, apart := false, narrowed := true }
def VectorMidpointUptoSaid : Prop := vectorMidpointUptoRow.holds Tryz.pinned (OpenSpec.upto vectorMidpointSpec)

end Rows
end Go.Proofs.YtpccjlcpbehglaaGreat
