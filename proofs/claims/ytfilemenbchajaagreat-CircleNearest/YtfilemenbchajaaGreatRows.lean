/-
  No cell of these rows narrows 'for every input' (looked for: loops, veiled, ifaces, maps, wideKeys, modest, calm, conditions, laid).
  DERIVED. THE GIVEN ROWS OF THIS SEAT. 12 by the template 'for every input the law returns true; each argument reads behind the call as it read before'; 0 by the template 'total and deterministic' (their statements: YtfilemenbchajaaGreatTotals.lean).
  GIVEN WITH THE SEED: the statements are not yours to turn. If you find one false, say at which input.
  Laid BY PROGRAM, IN A SANDBOX (cutbox-rows.mjs): the forced cells as the released guide's own fill.sh prints them over the translation f7fcc4464267b31a… (all of the seat's roots in one cut). By AI agents, Wed Nov 11 2026. No macro, syntax, notation, axiom, sorry.
-/
import Derived.Test.YtfilemenbchajaaGreatChecked
import GoSem.Claim
import GoSem.ClaimJoined
import GoSem.ClaimMapViews
import Derived.JoinedTies
import Derived.KernelRfl
namespace Go.Proofs.YtfilemenbchajaaGreat
/- THE CELL 'sum', in the pinned program and in every row, IS THE sha256 OF THE DUMP (.gsa) THAT YtfilemenbchajaaGreatProg.lean LOADS. Nothing in Lean hashes anything: it is a label: what it is worth is what the hold of that sum in a sandbox is worth. -/
noncomputable def Tryz.pinned : Pinned := { name := "ytfilemenbchajaagreat", sum := "f7fcc4464267b31a6ac63dabd9013478763e168bb0c863bcfb0c231356c0bdaa", checked := Tryz.checked }
namespace Rows
def none {H : Type} : Left H := { results := [], args := [] }

/-- 'setsquarelaw15.CircleNearest': WHATEVER THE INPUT: true; the input reads as it did. -/
def circleNearestSpec : ChangeSpec := { name := "circleNearest", fn := fun _ => fun
  | [d] => { results := [.lit (.bool true)], args := [d] }
  | _ => none }
def circleNearestRow : OpenClaim := { program := "ytfilemenbchajaagreat", sum := "f7fcc4464267b31a6ac63dabd9013478763e168bb0c863bcfb0c231356c0bdaa", func := "setsquare/setsquarelaw15.CircleNearest", spec := "circleNearest", unfollowed := true, recurses := true, apart := false }
def CircleNearestSaid : Prop := circleNearestRow.holds Tryz.pinned (OpenSpec.ofChange circleNearestSpec)

/-- ITS FALSE NEIGHBOUR: 'it returns false'. Refute it at one input. -/
def circleNearestWrong : ChangeSpec := { name := "circleNearest", fn := fun _ => fun
  | [d] => { results := [.lit (.bool false)], args := [d] }
  | _ => none }
def CircleNearestWrongFalsely : Prop := circleNearestRow.holds Tryz.pinned (OpenSpec.ofChange circleNearestWrong)

/-- 'setsquarelaw15.CircleThales': WHATEVER THE INPUT: true; the input reads as it did. -/
def circleThalesSpec : ChangeSpec := { name := "circleThales", fn := fun _ => fun
  | [d] => { results := [.lit (.bool true)], args := [d] }
  | _ => none }
def circleThalesRow : OpenClaim := { program := "ytfilemenbchajaagreat", sum := "f7fcc4464267b31a6ac63dabd9013478763e168bb0c863bcfb0c231356c0bdaa", func := "setsquare/setsquarelaw15.CircleThales", spec := "circleThales", unfollowed := true, recurses := true, apart := false }
def CircleThalesSaid : Prop := circleThalesRow.holds Tryz.pinned (OpenSpec.ofChange circleThalesSpec)

/-- ITS FALSE NEIGHBOUR: 'it returns false'. Refute it at one input. -/
def circleThalesWrong : ChangeSpec := { name := "circleThales", fn := fun _ => fun
  | [d] => { results := [.lit (.bool false)], args := [d] }
  | _ => none }
def CircleThalesWrongFalsely : Prop := circleThalesRow.holds Tryz.pinned (OpenSpec.ofChange circleThalesWrong)

/-- 'setsquarelaw15.CircleValid': WHATEVER THE INPUT: true; the input reads as it did. -/
def circleValidSpec : ChangeSpec := { name := "circleValid", fn := fun _ => fun
  | [d] => { results := [.lit (.bool true)], args := [d] }
  | _ => none }
def circleValidRow : OpenClaim := { program := "ytfilemenbchajaagreat", sum := "f7fcc4464267b31a6ac63dabd9013478763e168bb0c863bcfb0c231356c0bdaa", func := "setsquare/setsquarelaw15.CircleValid", spec := "circleValid", unfollowed := true, recurses := true, apart := false }
def CircleValidSaid : Prop := circleValidRow.holds Tryz.pinned (OpenSpec.ofChange circleValidSpec)

/-- ITS FALSE NEIGHBOUR: 'it returns false'. Refute it at one input. -/
def circleValidWrong : ChangeSpec := { name := "circleValid", fn := fun _ => fun
  | [d] => { results := [.lit (.bool false)], args := [d] }
  | _ => none }
def CircleValidWrongFalsely : Prop := circleValidRow.holds Tryz.pinned (OpenSpec.ofChange circleValidWrong)

/-- 'setsquarelaw15.CircleSide': WHATEVER THE INPUT: true; the input reads as it did. -/
def circleSideSpec : ChangeSpec := { name := "circleSide", fn := fun _ => fun
  | [d] => { results := [.lit (.bool true)], args := [d] }
  | _ => none }
def circleSideRow : OpenClaim := { program := "ytfilemenbchajaagreat", sum := "f7fcc4464267b31a6ac63dabd9013478763e168bb0c863bcfb0c231356c0bdaa", func := "setsquare/setsquarelaw15.CircleSide", spec := "circleSide", unfollowed := true, recurses := true, apart := false }
def CircleSideSaid : Prop := circleSideRow.holds Tryz.pinned (OpenSpec.ofChange circleSideSpec)

/-- ITS FALSE NEIGHBOUR: 'it returns false'. Refute it at one input. -/
def circleSideWrong : ChangeSpec := { name := "circleSide", fn := fun _ => fun
  | [d] => { results := [.lit (.bool false)], args := [d] }
  | _ => none }
def CircleSideWrongFalsely : Prop := circleSideRow.holds Tryz.pinned (OpenSpec.ofChange circleSideWrong)

/-- 'setsquarelaw15.CircleInscribed': WHATEVER THE INPUT: true; the input reads as it did. -/
def circleInscribedSpec : ChangeSpec := { name := "circleInscribed", fn := fun _ => fun
  | [d] => { results := [.lit (.bool true)], args := [d] }
  | _ => none }
def circleInscribedRow : OpenClaim := { program := "ytfilemenbchajaagreat", sum := "f7fcc4464267b31a6ac63dabd9013478763e168bb0c863bcfb0c231356c0bdaa", func := "setsquare/setsquarelaw15.CircleInscribed", spec := "circleInscribed", unfollowed := true, recurses := true, apart := false }
def CircleInscribedSaid : Prop := circleInscribedRow.holds Tryz.pinned (OpenSpec.ofChange circleInscribedSpec)

/-- ITS FALSE NEIGHBOUR: 'it returns false'. Refute it at one input. -/
def circleInscribedWrong : ChangeSpec := { name := "circleInscribed", fn := fun _ => fun
  | [d] => { results := [.lit (.bool false)], args := [d] }
  | _ => none }
def CircleInscribedWrongFalsely : Prop := circleInscribedRow.holds Tryz.pinned (OpenSpec.ofChange circleInscribedWrong)

/-- 'setsquarelaw14.LineOffset': WHATEVER THE INPUT: true; the input reads as it did. -/
def lineOffsetSpec : ChangeSpec := { name := "lineOffset", fn := fun _ => fun
  | [d1, d2] => { results := [.lit (.bool true)], args := [d1, d2] }
  | _ => none }
def lineOffsetRow : OpenClaim := { program := "ytfilemenbchajaagreat", sum := "f7fcc4464267b31a6ac63dabd9013478763e168bb0c863bcfb0c231356c0bdaa", func := "setsquare/setsquarelaw14.LineOffset", spec := "lineOffset", unfollowed := true, recurses := true, apart := false }
def LineOffsetSaid : Prop := lineOffsetRow.holds Tryz.pinned (OpenSpec.ofChange lineOffsetSpec)

/-- ITS FALSE NEIGHBOUR: 'it returns false'. Refute it at one input. -/
def lineOffsetWrong : ChangeSpec := { name := "lineOffset", fn := fun _ => fun
  | [d1, d2] => { results := [.lit (.bool false)], args := [d1, d2] }
  | _ => none }
def LineOffsetWrongFalsely : Prop := lineOffsetRow.holds Tryz.pinned (OpenSpec.ofChange lineOffsetWrong)

/-- 'setsquarelaw17.MotionRotation': WHATEVER THE INPUT: true; the input reads as it did. -/
def motionRotationSpec : ChangeSpec := { name := "motionRotation", fn := fun _ => fun
  | [d] => { results := [.lit (.bool true)], args := [d] }
  | _ => none }
def motionRotationRow : OpenClaim := { program := "ytfilemenbchajaagreat", sum := "f7fcc4464267b31a6ac63dabd9013478763e168bb0c863bcfb0c231356c0bdaa", func := "setsquare/setsquarelaw17.MotionRotation", spec := "motionRotation", unfollowed := true, recurses := true, apart := false }
def MotionRotationSaid : Prop := motionRotationRow.holds Tryz.pinned (OpenSpec.ofChange motionRotationSpec)

/-- ITS FALSE NEIGHBOUR: 'it returns false'. Refute it at one input. -/
def motionRotationWrong : ChangeSpec := { name := "motionRotation", fn := fun _ => fun
  | [d] => { results := [.lit (.bool false)], args := [d] }
  | _ => none }
def MotionRotationWrongFalsely : Prop := motionRotationRow.holds Tryz.pinned (OpenSpec.ofChange motionRotationWrong)

/-- 'setsquarelaw17.MotionMirror': WHATEVER THE INPUT: true; the input reads as it did. -/
def motionMirrorSpec : ChangeSpec := { name := "motionMirror", fn := fun _ => fun
  | [d] => { results := [.lit (.bool true)], args := [d] }
  | _ => none }
def motionMirrorRow : OpenClaim := { program := "ytfilemenbchajaagreat", sum := "f7fcc4464267b31a6ac63dabd9013478763e168bb0c863bcfb0c231356c0bdaa", func := "setsquare/setsquarelaw17.MotionMirror", spec := "motionMirror", unfollowed := true, recurses := true, apart := false }
def MotionMirrorSaid : Prop := motionMirrorRow.holds Tryz.pinned (OpenSpec.ofChange motionMirrorSpec)

/-- ITS FALSE NEIGHBOUR: 'it returns false'. Refute it at one input. -/
def motionMirrorWrong : ChangeSpec := { name := "motionMirror", fn := fun _ => fun
  | [d] => { results := [.lit (.bool false)], args := [d] }
  | _ => none }
def MotionMirrorWrongFalsely : Prop := motionMirrorRow.holds Tryz.pinned (OpenSpec.ofChange motionMirrorWrong)

/-- 'setsquarelaw17.MotionValid': WHATEVER THE INPUT: true; the input reads as it did. -/
def motionValidSpec : ChangeSpec := { name := "motionValid", fn := fun _ => fun
  | [d1, d2] => { results := [.lit (.bool true)], args := [d1, d2] }
  | _ => none }
def motionValidRow : OpenClaim := { program := "ytfilemenbchajaagreat", sum := "f7fcc4464267b31a6ac63dabd9013478763e168bb0c863bcfb0c231356c0bdaa", func := "setsquare/setsquarelaw17.MotionValid", spec := "motionValid", unfollowed := true, recurses := true, apart := false }
def MotionValidSaid : Prop := motionValidRow.holds Tryz.pinned (OpenSpec.ofChange motionValidSpec)

/-- ITS FALSE NEIGHBOUR: 'it returns false'. Refute it at one input. -/
def motionValidWrong : ChangeSpec := { name := "motionValid", fn := fun _ => fun
  | [d1, d2] => { results := [.lit (.bool false)], args := [d1, d2] }
  | _ => none }
def MotionValidWrongFalsely : Prop := motionValidRow.holds Tryz.pinned (OpenSpec.ofChange motionValidWrong)

/-- 'setsquarelaw15.CircleRadical': WHATEVER THE INPUT: true; the input reads as it did. -/
def circleRadicalSpec : ChangeSpec := { name := "circleRadical", fn := fun _ => fun
  | [d] => { results := [.lit (.bool true)], args := [d] }
  | _ => none }
def circleRadicalRow : OpenClaim := { program := "ytfilemenbchajaagreat", sum := "f7fcc4464267b31a6ac63dabd9013478763e168bb0c863bcfb0c231356c0bdaa", func := "setsquare/setsquarelaw15.CircleRadical", spec := "circleRadical", unfollowed := true, recurses := true, apart := false }
def CircleRadicalSaid : Prop := circleRadicalRow.holds Tryz.pinned (OpenSpec.ofChange circleRadicalSpec)

/-- ITS FALSE NEIGHBOUR: 'it returns false'. Refute it at one input. -/
def circleRadicalWrong : ChangeSpec := { name := "circleRadical", fn := fun _ => fun
  | [d] => { results := [.lit (.bool false)], args := [d] }
  | _ => none }
def CircleRadicalWrongFalsely : Prop := circleRadicalRow.holds Tryz.pinned (OpenSpec.ofChange circleRadicalWrong)

/-- 'setsquarelaw14.LineDistances': WHATEVER THE INPUT: true; the input reads as it did. -/
def lineDistancesSpec : ChangeSpec := { name := "lineDistances", fn := fun _ => fun
  | [d1, d2] => { results := [.lit (.bool true)], args := [d1, d2] }
  | _ => none }
def lineDistancesRow : OpenClaim := { program := "ytfilemenbchajaagreat", sum := "f7fcc4464267b31a6ac63dabd9013478763e168bb0c863bcfb0c231356c0bdaa", func := "setsquare/setsquarelaw14.LineDistances", spec := "lineDistances", unfollowed := true, recurses := true, apart := false }
def LineDistancesSaid : Prop := lineDistancesRow.holds Tryz.pinned (OpenSpec.ofChange lineDistancesSpec)

/-- ITS FALSE NEIGHBOUR: 'it returns false'. Refute it at one input. -/
def lineDistancesWrong : ChangeSpec := { name := "lineDistances", fn := fun _ => fun
  | [d1, d2] => { results := [.lit (.bool false)], args := [d1, d2] }
  | _ => none }
def LineDistancesWrongFalsely : Prop := lineDistancesRow.holds Tryz.pinned (OpenSpec.ofChange lineDistancesWrong)

/-- 'setsquarelaw15.CircleCommon': WHATEVER THE INPUT: true; the input reads as it did. -/
def circleCommonSpec : ChangeSpec := { name := "circleCommon", fn := fun _ => fun
  | [d] => { results := [.lit (.bool true)], args := [d] }
  | _ => none }
def circleCommonRow : OpenClaim := { program := "ytfilemenbchajaagreat", sum := "f7fcc4464267b31a6ac63dabd9013478763e168bb0c863bcfb0c231356c0bdaa", func := "setsquare/setsquarelaw15.CircleCommon", spec := "circleCommon", unfollowed := true, recurses := true, apart := false }
def CircleCommonSaid : Prop := circleCommonRow.holds Tryz.pinned (OpenSpec.ofChange circleCommonSpec)

/-- ITS FALSE NEIGHBOUR: 'it returns false'. Refute it at one input. -/
def circleCommonWrong : ChangeSpec := { name := "circleCommon", fn := fun _ => fun
  | [d] => { results := [.lit (.bool false)], args := [d] }
  | _ => none }
def CircleCommonWrongFalsely : Prop := circleCommonRow.holds Tryz.pinned (OpenSpec.ofChange circleCommonWrong)

/- THE SECOND FORM. 'bulk': how many values and letters a reading holds, each counted each time it is reached (what is shared counts as often as it is met; a slice's spare places count too). A statement '..UptoSaid' is the law's where the arguments, and the package variables that the reading takes, are together of bulk at most 1048576: NARROWER than '..Said'. Prove '..Said' where nothing that the law and all that it calls make is longer than what came in: it says more and counts as full. Else prove '..UptoSaid'. A law counts once. -/
mutual
def uptoBulk {H : Type} : DataW H → Nat
  | .lit (.string bytes) => bytes.length + 1
  | .lit _ => 1
  | .nil => 1
  | .ptr d => uptoBulk d + 1
  | .slice elems spare => uptoBulkAll elems + uptoBulkAll spare + 1
  | .agg parts => uptoBulkAll parts + 1
  | .iface _ d => uptoBulk d + 1
  | .map entries => uptoBulkEntries entries + 1
  | .held _ => 1
def uptoBulkAll {H : Type} : List (DataW H) → Nat
  | [] => 0
  | d :: r => uptoBulk d + uptoBulkAll r
def uptoBulkEntries {H : Type} : List (Lit × DataW H) → Nat
  | [] => 0
  | x :: r => uptoBulkEntry x + uptoBulkEntries r
def uptoBulkEntry {H : Type} : Lit × DataW H → Nat
  | (.string bytes, d) => bytes.length + uptoBulk d + 1
  | (_, d) => uptoBulk d + 1
 end
def uptoSmall : (H : Type) → List (DataW H) → Bool := fun _ ds => decide (uptoBulkAll ds ≤ 1048576)
def OpenSpec.upto (s : _root_.Go.ChangeSpec) : _root_.Go.OpenSpec := { _root_.Go.OpenSpec.ofChange s with cond := some uptoSmall }

/-- 'setsquarelaw15.CircleNearest', WHERE WHAT IT READS IS OF BULK AT MOST 1048576: true; the input reads as it did. -/
def circleNearestUptoRow : OpenClaim := { program := "ytfilemenbchajaagreat", sum := "f7fcc4464267b31a6ac63dabd9013478763e168bb0c863bcfb0c231356c0bdaa", func := "setsquare/setsquarelaw15.CircleNearest", spec := "circleNearest", unfollowed := true, recurses := true, apart := false, narrowed := true }
def CircleNearestUptoSaid : Prop := circleNearestUptoRow.holds Tryz.pinned (OpenSpec.upto circleNearestSpec)

/-- 'setsquarelaw15.CircleThales', WHERE WHAT IT READS IS OF BULK AT MOST 1048576: true; the input reads as it did. -/
def circleThalesUptoRow : OpenClaim := { program := "ytfilemenbchajaagreat", sum := "f7fcc4464267b31a6ac63dabd9013478763e168bb0c863bcfb0c231356c0bdaa", func := "setsquare/setsquarelaw15.CircleThales", spec := "circleThales", unfollowed := true, recurses := true, apart := false, narrowed := true }
def CircleThalesUptoSaid : Prop := circleThalesUptoRow.holds Tryz.pinned (OpenSpec.upto circleThalesSpec)

/-- 'setsquarelaw15.CircleValid', WHERE WHAT IT READS IS OF BULK AT MOST 1048576: true; the input reads as it did. -/
def circleValidUptoRow : OpenClaim := { program := "ytfilemenbchajaagreat", sum := "f7fcc4464267b31a6ac63dabd9013478763e168bb0c863bcfb0c231356c0bdaa", func := "setsquare/setsquarelaw15.CircleValid", spec := "circleValid", unfollowed := true, recurses := true, apart := false, narrowed := true }
def CircleValidUptoSaid : Prop := circleValidUptoRow.holds Tryz.pinned (OpenSpec.upto circleValidSpec)

/-- 'setsquarelaw15.CircleSide', WHERE WHAT IT READS IS OF BULK AT MOST 1048576: true; the input reads as it did. -/
def circleSideUptoRow : OpenClaim := { program := "ytfilemenbchajaagreat", sum := "f7fcc4464267b31a6ac63dabd9013478763e168bb0c863bcfb0c231356c0bdaa", func := "setsquare/setsquarelaw15.CircleSide", spec := "circleSide", unfollowed := true, recurses := true, apart := false, narrowed := true }
def CircleSideUptoSaid : Prop := circleSideUptoRow.holds Tryz.pinned (OpenSpec.upto circleSideSpec)

/-- 'setsquarelaw15.CircleInscribed', WHERE WHAT IT READS IS OF BULK AT MOST 1048576: true; the input reads as it did. -/
def circleInscribedUptoRow : OpenClaim := { program := "ytfilemenbchajaagreat", sum := "f7fcc4464267b31a6ac63dabd9013478763e168bb0c863bcfb0c231356c0bdaa", func := "setsquare/setsquarelaw15.CircleInscribed", spec := "circleInscribed", unfollowed := true, recurses := true, apart := false, narrowed := true }
def CircleInscribedUptoSaid : Prop := circleInscribedUptoRow.holds Tryz.pinned (OpenSpec.upto circleInscribedSpec)

/-- 'setsquarelaw14.LineOffset', WHERE WHAT IT READS IS OF BULK AT MOST 1048576: true; the input reads as it did. -/
def lineOffsetUptoRow : OpenClaim := { program := "ytfilemenbchajaagreat", sum := "f7fcc4464267b31a6ac63dabd9013478763e168bb0c863bcfb0c231356c0bdaa", func := "setsquare/setsquarelaw14.LineOffset", spec := "lineOffset", unfollowed := true, recurses := true, apart := false, narrowed := true }
def LineOffsetUptoSaid : Prop := lineOffsetUptoRow.holds Tryz.pinned (OpenSpec.upto lineOffsetSpec)

/-- 'setsquarelaw17.MotionRotation', WHERE WHAT IT READS IS OF BULK AT MOST 1048576: true; the input reads as it did. -/
def motionRotationUptoRow : OpenClaim := { program := "ytfilemenbchajaagreat", sum := "f7fcc4464267b31a6ac63dabd9013478763e168bb0c863bcfb0c231356c0bdaa", func := "setsquare/setsquarelaw17.MotionRotation", spec := "motionRotation", unfollowed := true, recurses := true, apart := false, narrowed := true }
def MotionRotationUptoSaid : Prop := motionRotationUptoRow.holds Tryz.pinned (OpenSpec.upto motionRotationSpec)

/-- 'setsquarelaw17.MotionMirror', WHERE WHAT IT READS IS OF BULK AT MOST 1048576: true; the input reads as it did. -/
def motionMirrorUptoRow : OpenClaim := { program := "ytfilemenbchajaagreat", sum := "f7fcc4464267b31a6ac63dabd9013478763e168bb0c863bcfb0c231356c0bdaa", func := "setsquare/setsquarelaw17.MotionMirror", spec := "motionMirror", unfollowed := true, recurses := true, apart := false, narrowed := true }
def MotionMirrorUptoSaid : Prop := motionMirrorUptoRow.holds Tryz.pinned (OpenSpec.upto motionMirrorSpec)

/-- 'setsquarelaw17.MotionValid', WHERE WHAT IT READS IS OF BULK AT MOST 1048576: true; the input reads as it did. -/
def motionValidUptoRow : OpenClaim := { program := "ytfilemenbchajaagreat", sum := "f7fcc4464267b31a6ac63dabd9013478763e168bb0c863bcfb0c231356c0bdaa", func := "setsquare/setsquarelaw17.MotionValid", spec := "motionValid", unfollowed := true, recurses := true, apart := false, narrowed := true }
def MotionValidUptoSaid : Prop := motionValidUptoRow.holds Tryz.pinned (OpenSpec.upto motionValidSpec)

/-- 'setsquarelaw15.CircleRadical', WHERE WHAT IT READS IS OF BULK AT MOST 1048576: true; the input reads as it did. -/
def circleRadicalUptoRow : OpenClaim := { program := "ytfilemenbchajaagreat", sum := "f7fcc4464267b31a6ac63dabd9013478763e168bb0c863bcfb0c231356c0bdaa", func := "setsquare/setsquarelaw15.CircleRadical", spec := "circleRadical", unfollowed := true, recurses := true, apart := false, narrowed := true }
def CircleRadicalUptoSaid : Prop := circleRadicalUptoRow.holds Tryz.pinned (OpenSpec.upto circleRadicalSpec)

/-- 'setsquarelaw14.LineDistances', WHERE WHAT IT READS IS OF BULK AT MOST 1048576: true; the input reads as it did. -/
def lineDistancesUptoRow : OpenClaim := { program := "ytfilemenbchajaagreat", sum := "f7fcc4464267b31a6ac63dabd9013478763e168bb0c863bcfb0c231356c0bdaa", func := "setsquare/setsquarelaw14.LineDistances", spec := "lineDistances", unfollowed := true, recurses := true, apart := false, narrowed := true }
def LineDistancesUptoSaid : Prop := lineDistancesUptoRow.holds Tryz.pinned (OpenSpec.upto lineDistancesSpec)

/-- 'setsquarelaw15.CircleCommon', WHERE WHAT IT READS IS OF BULK AT MOST 1048576: true; the input reads as it did. -/
def circleCommonUptoRow : OpenClaim := { program := "ytfilemenbchajaagreat", sum := "f7fcc4464267b31a6ac63dabd9013478763e168bb0c863bcfb0c231356c0bdaa", func := "setsquare/setsquarelaw15.CircleCommon", spec := "circleCommon", unfollowed := true, recurses := true, apart := false, narrowed := true }
def CircleCommonUptoSaid : Prop := circleCommonUptoRow.holds Tryz.pinned (OpenSpec.upto circleCommonSpec)

end Rows
end Go.Proofs.YtfilemenbchajaaGreat
