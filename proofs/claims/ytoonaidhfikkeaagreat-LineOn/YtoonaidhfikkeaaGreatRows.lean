/-
  No cell of these rows narrows 'for every input' (looked for: loops, veiled, ifaces, maps, wideKeys, modest, calm, conditions, laid).
  DERIVED. THE GIVEN ROWS OF THIS SEAT. 8 by the template 'for every input the law returns true; each argument reads behind the call as it read before'; 0 by the template 'total and deterministic' (their statements: YtoonaidhfikkeaaGreatTotals.lean).
  GIVEN WITH THE SEED: the statements are not yours to turn. If you find one false, say at which input.
  Laid BY PROGRAM, IN A SANDBOX (cutbox-rows.mjs): the forced cells as the released guide's own fill.sh prints them over the translation df717cacc37aa89b… (all of the seat's roots in one cut). By AI agents, Wed Nov 11 2026. No macro, syntax, notation, axiom, sorry.
-/
import Derived.Test.YtoonaidhfikkeaaGreatChecked
import GoSem.Claim
import GoSem.ClaimJoined
import GoSem.ClaimMapViews
import Derived.JoinedTies
import Derived.KernelRfl
namespace Go.Proofs.YtoonaidhfikkeaaGreat
/- THE CELL 'sum', in the pinned program and in every row, IS THE sha256 OF THE DUMP (.gsa) THAT YtoonaidhfikkeaaGreatProg.lean LOADS. Nothing in Lean hashes anything: it is a label: what it is worth is what the hold of that sum in a sandbox is worth. -/
noncomputable def Tryz.pinned : Pinned := { name := "ytoonaidhfikkeaagreat", sum := "df717cacc37aa89bd75285b25e4421f54b46d9fb564f7e0ecc54e47a6e550d80", checked := Tryz.checked }
namespace Rows
def none {H : Type} : Left H := { results := [], args := [] }

/-- 'setsquarelaw14.LineOffset': WHATEVER THE INPUT: true; the input reads as it did. -/
def lineOffsetSpec : ChangeSpec := { name := "lineOffset", fn := fun _ => fun
  | [d1, d2] => { results := [.lit (.bool true)], args := [d1, d2] }
  | _ => none }
def lineOffsetRow : OpenClaim := { program := "ytoonaidhfikkeaagreat", sum := "df717cacc37aa89bd75285b25e4421f54b46d9fb564f7e0ecc54e47a6e550d80", func := "setsquare/setsquarelaw14.LineOffset", spec := "lineOffset", unfollowed := true, recurses := true, apart := false }
def LineOffsetSaid : Prop := lineOffsetRow.holds Tryz.pinned (OpenSpec.ofChange lineOffsetSpec)

/-- ITS FALSE NEIGHBOUR: 'it returns false'. Refute it at one input. -/
def lineOffsetWrong : ChangeSpec := { name := "lineOffset", fn := fun _ => fun
  | [d1, d2] => { results := [.lit (.bool false)], args := [d1, d2] }
  | _ => none }
def LineOffsetWrongFalsely : Prop := lineOffsetRow.holds Tryz.pinned (OpenSpec.ofChange lineOffsetWrong)

/-- 'setsquarelaw14.LineTurned': WHATEVER THE INPUT: true; the input reads as it did. -/
def lineTurnedSpec : ChangeSpec := { name := "lineTurned", fn := fun _ => fun
  | [d] => { results := [.lit (.bool true)], args := [d] }
  | _ => none }
def lineTurnedRow : OpenClaim := { program := "ytoonaidhfikkeaagreat", sum := "df717cacc37aa89bd75285b25e4421f54b46d9fb564f7e0ecc54e47a6e550d80", func := "setsquare/setsquarelaw14.LineTurned", spec := "lineTurned", unfollowed := true, recurses := true, apart := false }
def LineTurnedSaid : Prop := lineTurnedRow.holds Tryz.pinned (OpenSpec.ofChange lineTurnedSpec)

/-- ITS FALSE NEIGHBOUR: 'it returns false'. Refute it at one input. -/
def lineTurnedWrong : ChangeSpec := { name := "lineTurned", fn := fun _ => fun
  | [d] => { results := [.lit (.bool false)], args := [d] }
  | _ => none }
def LineTurnedWrongFalsely : Prop := lineTurnedRow.holds Tryz.pinned (OpenSpec.ofChange lineTurnedWrong)

/-- 'setsquarelaw14.LineFoot': WHATEVER THE INPUT: true; the input reads as it did. -/
def lineFootSpec : ChangeSpec := { name := "lineFoot", fn := fun _ => fun
  | [d] => { results := [.lit (.bool true)], args := [d] }
  | _ => none }
def lineFootRow : OpenClaim := { program := "ytoonaidhfikkeaagreat", sum := "df717cacc37aa89bd75285b25e4421f54b46d9fb564f7e0ecc54e47a6e550d80", func := "setsquare/setsquarelaw14.LineFoot", spec := "lineFoot", unfollowed := true, recurses := true, apart := false }
def LineFootSaid : Prop := lineFootRow.holds Tryz.pinned (OpenSpec.ofChange lineFootSpec)

/-- ITS FALSE NEIGHBOUR: 'it returns false'. Refute it at one input. -/
def lineFootWrong : ChangeSpec := { name := "lineFoot", fn := fun _ => fun
  | [d] => { results := [.lit (.bool false)], args := [d] }
  | _ => none }
def LineFootWrongFalsely : Prop := lineFootRow.holds Tryz.pinned (OpenSpec.ofChange lineFootWrong)

/-- 'setsquarelaw14.LineThrough': WHATEVER THE INPUT: true; the input reads as it did. -/
def lineThroughSpec : ChangeSpec := { name := "lineThrough", fn := fun _ => fun
  | [d] => { results := [.lit (.bool true)], args := [d] }
  | _ => none }
def lineThroughRow : OpenClaim := { program := "ytoonaidhfikkeaagreat", sum := "df717cacc37aa89bd75285b25e4421f54b46d9fb564f7e0ecc54e47a6e550d80", func := "setsquare/setsquarelaw14.LineThrough", spec := "lineThrough", unfollowed := true, recurses := true, apart := false }
def LineThroughSaid : Prop := lineThroughRow.holds Tryz.pinned (OpenSpec.ofChange lineThroughSpec)

/-- ITS FALSE NEIGHBOUR: 'it returns false'. Refute it at one input. -/
def lineThroughWrong : ChangeSpec := { name := "lineThrough", fn := fun _ => fun
  | [d] => { results := [.lit (.bool false)], args := [d] }
  | _ => none }
def LineThroughWrongFalsely : Prop := lineThroughRow.holds Tryz.pinned (OpenSpec.ofChange lineThroughWrong)

/-- 'setsquarelaw14.LineDistances': WHATEVER THE INPUT: true; the input reads as it did. -/
def lineDistancesSpec : ChangeSpec := { name := "lineDistances", fn := fun _ => fun
  | [d1, d2] => { results := [.lit (.bool true)], args := [d1, d2] }
  | _ => none }
def lineDistancesRow : OpenClaim := { program := "ytoonaidhfikkeaagreat", sum := "df717cacc37aa89bd75285b25e4421f54b46d9fb564f7e0ecc54e47a6e550d80", func := "setsquare/setsquarelaw14.LineDistances", spec := "lineDistances", unfollowed := true, recurses := true, apart := false }
def LineDistancesSaid : Prop := lineDistancesRow.holds Tryz.pinned (OpenSpec.ofChange lineDistancesSpec)

/-- ITS FALSE NEIGHBOUR: 'it returns false'. Refute it at one input. -/
def lineDistancesWrong : ChangeSpec := { name := "lineDistances", fn := fun _ => fun
  | [d1, d2] => { results := [.lit (.bool false)], args := [d1, d2] }
  | _ => none }
def LineDistancesWrongFalsely : Prop := lineDistancesRow.holds Tryz.pinned (OpenSpec.ofChange lineDistancesWrong)

/-- 'setsquarelaw14.LineMirrors': WHATEVER THE INPUT: true; the input reads as it did. -/
def lineMirrorsSpec : ChangeSpec := { name := "lineMirrors", fn := fun _ => fun
  | [d] => { results := [.lit (.bool true)], args := [d] }
  | _ => none }
def lineMirrorsRow : OpenClaim := { program := "ytoonaidhfikkeaagreat", sum := "df717cacc37aa89bd75285b25e4421f54b46d9fb564f7e0ecc54e47a6e550d80", func := "setsquare/setsquarelaw14.LineMirrors", spec := "lineMirrors", unfollowed := true, recurses := true, apart := false }
def LineMirrorsSaid : Prop := lineMirrorsRow.holds Tryz.pinned (OpenSpec.ofChange lineMirrorsSpec)

/-- ITS FALSE NEIGHBOUR: 'it returns false'. Refute it at one input. -/
def lineMirrorsWrong : ChangeSpec := { name := "lineMirrors", fn := fun _ => fun
  | [d] => { results := [.lit (.bool false)], args := [d] }
  | _ => none }
def LineMirrorsWrongFalsely : Prop := lineMirrorsRow.holds Tryz.pinned (OpenSpec.ofChange lineMirrorsWrong)

/-- 'setsquarelaw14.LineContains': WHATEVER THE INPUT: true; the input reads as it did. -/
def lineContainsSpec : ChangeSpec := { name := "lineContains", fn := fun _ => fun
  | [d] => { results := [.lit (.bool true)], args := [d] }
  | _ => none }
def lineContainsRow : OpenClaim := { program := "ytoonaidhfikkeaagreat", sum := "df717cacc37aa89bd75285b25e4421f54b46d9fb564f7e0ecc54e47a6e550d80", func := "setsquare/setsquarelaw14.LineContains", spec := "lineContains", unfollowed := true, recurses := true, apart := false }
def LineContainsSaid : Prop := lineContainsRow.holds Tryz.pinned (OpenSpec.ofChange lineContainsSpec)

/-- ITS FALSE NEIGHBOUR: 'it returns false'. Refute it at one input. -/
def lineContainsWrong : ChangeSpec := { name := "lineContains", fn := fun _ => fun
  | [d] => { results := [.lit (.bool false)], args := [d] }
  | _ => none }
def LineContainsWrongFalsely : Prop := lineContainsRow.holds Tryz.pinned (OpenSpec.ofChange lineContainsWrong)

/-- 'setsquarelaw14.LineOn': WHATEVER THE INPUT: true; the input reads as it did. -/
def lineOnSpec : ChangeSpec := { name := "lineOn", fn := fun _ => fun
  | [d] => { results := [.lit (.bool true)], args := [d] }
  | _ => none }
def lineOnRow : OpenClaim := { program := "ytoonaidhfikkeaagreat", sum := "df717cacc37aa89bd75285b25e4421f54b46d9fb564f7e0ecc54e47a6e550d80", func := "setsquare/setsquarelaw14.LineOn", spec := "lineOn", unfollowed := true, recurses := true, apart := false }
def LineOnSaid : Prop := lineOnRow.holds Tryz.pinned (OpenSpec.ofChange lineOnSpec)

/-- ITS FALSE NEIGHBOUR: 'it returns false'. Refute it at one input. -/
def lineOnWrong : ChangeSpec := { name := "lineOn", fn := fun _ => fun
  | [d] => { results := [.lit (.bool false)], args := [d] }
  | _ => none }
def LineOnWrongFalsely : Prop := lineOnRow.holds Tryz.pinned (OpenSpec.ofChange lineOnWrong)

/- THE SECOND FORM. 'bulk': how many values and letters a reading holds, each counted each time it is reached (what is shared counts as often as it is met; a slice's spare places count too). A statement '..UptoSaid' is the law's where the arguments, and the package variables that the reading takes, are together of bulk at most 1048576: NARROWER than '..Said'. Prove '..Said' where nothing that the law and all that it calls make is longer than what came in: it says more and counts as full. Else prove '..UptoSaid'. A law counts once. -/
mutual
def uptoBulk {H : Type} : DataW H → Nat
  | .lit (.string bytes) => bytes.length + 1
  | .lit _ => 1
  | .nil => 1
  | .ptr d => uptoBulk d + 1
  | .slice elems spare => uptoBulkAll elems + uptoBulkAll spare + 1
  | .agg parts => uptoBulkAll parts + 1
  | .iface _ d => uptoBulk d + 1
  | .map entries => uptoBulkEntries entries + 1
  | .held _ => 1
def uptoBulkAll {H : Type} : List (DataW H) → Nat
  | [] => 0
  | d :: r => uptoBulk d + uptoBulkAll r
def uptoBulkEntries {H : Type} : List (Lit × DataW H) → Nat
  | [] => 0
  | x :: r => uptoBulkEntry x + uptoBulkEntries r
def uptoBulkEntry {H : Type} : Lit × DataW H → Nat
  | (.string bytes, d) => bytes.length + uptoBulk d + 1
  | (_, d) => uptoBulk d + 1
 end
def uptoSmall : (H : Type) → List (DataW H) → Bool := fun _ ds => decide (uptoBulkAll ds ≤ 1048576)
def OpenSpec.upto (s : _root_.Go.ChangeSpec) : _root_.Go.OpenSpec := { _root_.Go.OpenSpec.ofChange s with cond := some uptoSmall }

/-- 'setsquarelaw14.LineOffset', WHERE WHAT IT READS IS OF BULK AT MOST 1048576: true; the input reads as it did. -/
def lineOffsetUptoRow : OpenClaim := { program := "ytoonaidhfikkeaagreat", sum := "df717cacc37aa89bd75285b25e4421f54b46d9fb564f7e0ecc54e47a6e550d80", func := "setsquare/setsquarelaw14.LineOffset", spec := "lineOffset", unfollowed := true, recurses := true, apart := false, narrowed := true }
def LineOffsetUptoSaid : Prop := lineOffsetUptoRow.holds Tryz.pinned (OpenSpec.upto lineOffsetSpec)

/-- 'setsquarelaw14.LineTurned', WHERE WHAT IT READS IS OF BULK AT MOST 1048576: true; the input reads as it did. -/
def lineTurnedUptoRow : OpenClaim := { program := "ytoonaidhfikkeaagreat", sum := "df717cacc37aa89bd75285b25e4421f54b46d9fb564f7e0ecc54e47a6e550d80", func := "setsquare/setsquarelaw14.LineTurned", spec := "lineTurned", unfollowed := true, recurses := true, apart := false, narrowed := true }
def LineTurnedUptoSaid : Prop := lineTurnedUptoRow.holds Tryz.pinned (OpenSpec.upto lineTurnedSpec)

/-- 'setsquarelaw14.LineFoot', WHERE WHAT IT READS IS OF BULK AT MOST 1048576: true; the input reads as it did. -/
def lineFootUptoRow : OpenClaim := { program := "ytoonaidhfikkeaagreat", sum := "df717cacc37aa89bd75285b25e4421f54b46d9fb564f7e0ecc54e47a6e550d80", func := "setsquare/setsquarelaw14.LineFoot", spec := "lineFoot", unfollowed := true, recurses := true, apart := false, narrowed := true }
def LineFootUptoSaid : Prop := lineFootUptoRow.holds Tryz.pinned (OpenSpec.upto lineFootSpec)

/-- 'setsquarelaw14.LineThrough', WHERE WHAT IT READS IS OF BULK AT MOST 1048576: true; the input reads as it did. -/
def lineThroughUptoRow : OpenClaim := { program := "ytoonaidhfikkeaagreat", sum := "df717cacc37aa89bd75285b25e4421f54b46d9fb564f7e0ecc54e47a6e550d80", func := "setsquare/setsquarelaw14.LineThrough", spec := "lineThrough", unfollowed := true, recurses := true, apart := false, narrowed := true }
def LineThroughUptoSaid : Prop := lineThroughUptoRow.holds Tryz.pinned (OpenSpec.upto lineThroughSpec)

/-- 'setsquarelaw14.LineDistances', WHERE WHAT IT READS IS OF BULK AT MOST 1048576: true; the input reads as it did. -/
def lineDistancesUptoRow : OpenClaim := { program := "ytoonaidhfikkeaagreat", sum := "df717cacc37aa89bd75285b25e4421f54b46d9fb564f7e0ecc54e47a6e550d80", func := "setsquare/setsquarelaw14.LineDistances", spec := "lineDistances", unfollowed := true, recurses := true, apart := false, narrowed := true }
def LineDistancesUptoSaid : Prop := lineDistancesUptoRow.holds Tryz.pinned (OpenSpec.upto lineDistancesSpec)

/-- 'setsquarelaw14.LineMirrors', WHERE WHAT IT READS IS OF BULK AT MOST 1048576: true; the input reads as it did. -/
def lineMirrorsUptoRow : OpenClaim := { program := "ytoonaidhfikkeaagreat", sum := "df717cacc37aa89bd75285b25e4421f54b46d9fb564f7e0ecc54e47a6e550d80", func := "setsquare/setsquarelaw14.LineMirrors", spec := "lineMirrors", unfollowed := true, recurses := true, apart := false, narrowed := true }
def LineMirrorsUptoSaid : Prop := lineMirrorsUptoRow.holds Tryz.pinned (OpenSpec.upto lineMirrorsSpec)

/-- 'setsquarelaw14.LineContains', WHERE WHAT IT READS IS OF BULK AT MOST 1048576: true; the input reads as it did. -/
def lineContainsUptoRow : OpenClaim := { program := "ytoonaidhfikkeaagreat", sum := "df717cacc37aa89bd75285b25e4421f54b46d9fb564f7e0ecc54e47a6e550d80", func := "setsquare/setsquarelaw14.LineContains", spec := "lineContains", unfollowed := true, recurses := true, apart := false, narrowed := true }
def LineContainsUptoSaid : Prop := lineContainsUptoRow.holds Tryz.pinned (OpenSpec.upto lineContainsSpec)

/-- 'setsquarelaw14.LineOn', WHERE WHAT IT READS IS OF BULK AT MOST 1048576: true; the input reads as it did. -/
def lineOnUptoRow : OpenClaim := { program := "ytoonaidhfikkeaagreat", sum := "df717cacc37aa89bd75285b25e4421f54b46d9fb564f7e0ecc54e47a6e550d80", func := "setsquare/setsquarelaw14.LineOn", spec := "lineOn", unfollowed := true, recurses := true, apart := false, narrowed := true }
def LineOnUptoSaid : Prop := lineOnUptoRow.holds Tryz.pinned (OpenSpec.upto lineOnSpec)

end Rows
end Go.Proofs.YtoonaidhfikkeaaGreat
