/- The law LineDistances: The points of the bisector are equally far from both points, and an offset line has the square of the distance from both points, for any points of a plot. Conditions: none; the statement is the given one. -/
import Derived.Test.YtfilemenbchajaaGreatRows
import Derived.ProofKit
import Derived.OpenShut
import Derived.SizedLaws
import Derived.Test.YtfilemenbchajaaGreatPk12
import Derived.Test.YtfilemenbchajaaGreatPk43
import Derived.Test.YtfilemenbchajaaGreatPk63
set_option linter.all false
set_option maxHeartbeats 8000000
namespace Go.Proofs.YtfilemenbchajaaGreat
open Go.ChangeShapes Go.WideShapes Go.ChangeAt Go.RowKit Go.Abs
theorem laidOut : laidOutB Tryz.prog = true := by kernel_rfl
theorem own : ownKnob Tryz.prog.godebug = none := by kernel_rfl
theorem law_fn (xs : HL [.pr (.sl Bf) (.sl .u8), .bool]) : FB Tryz.prog false 13 (Nj [.pr (.sl Bf) (.sl .u8), .bool] xs) (.one (.bool true)) := by
  obtain ⟨⟨X, W⟩, mr, _⟩ := xs
  show FB _ false 13 [.agg [.sl Bf X, .sl .u8 W], .one (.bool mr)] _
  obtain ⟨V, hV, hn⟩ := iP (X.take 24)
  exact lQ rfl hV hn
set_option maxRecDepth 100000 in
theorem ja : (Rows.lineDistancesRow.inPlace == Tryz.checked.prog.inPlace 13) = true := by kernel_rfl
set_option maxRecDepth 100000 in
theorem jb : (Rows.lineDistancesRow.unfollowed == Tryz.checked.prog.unfollowed 13) = true := by kernel_rfl
set_option maxRecDepth 100000 in
theorem jc : (Rows.lineDistancesRow.recurses == Tryz.checked.prog.recurses 13) = true := by kernel_rfl
set_option maxRecDepth 100000 in
theorem jd : (Rows.lineDistancesRow.named == Tryz.checked.prog.varsNamed 13) = true := by kernel_rfl
set_option maxRecDepth 100000 in
theorem je : (Tryz.checked.prog.mayEnter) = true := by kernel_rfl
set_option maxRecDepth 100000 in
theorem jf : (Rows.lineDistancesRow.lifted == Tryz.checked.prog.liftsFinal) = true := by kernel_rfl
set_option maxRecDepth 100000 in
theorem jg : (Tryz.checked.prog.make == some Rows.lineDistancesRow.make) = true := by kernel_rfl
set_option maxRecDepth 100000 in
theorem joined : joinedFacts Tryz.checked.prog 13 Tryz.f13 Rows.lineDistancesSpec Rows.lineDistancesRow = true := by
  unfold joinedFacts
  rw [ja, jb, jc, jd, je, jf, jg]
  kernel_rfl
set_option maxRecDepth 100000 in
theorem law_ok (H : Type) (enc : TypeId × Value → H) (W : World) (base : Nat) (args : Array Value) (ds gs : List (DataW H)) (before : List MemPlace)
    (hval : ∀ (j : Nat) t v, Tryz.f13.params[j]? = some t → args[j]? = some v → Value.okWide Tryz.prog W .any base t v)
    (hW : DataW.Whole enc Tryz.prog Tryz.f13.params.toList Rows.lineDistancesSpec.vars false W args.toList ds gs before)
    (hw : (DataW.weightsEach Tryz.prog (Tryz.f13.params.toList ++ Rows.lineDistancesSpec.plain.varTypes Tryz.prog) (ds ++ gs)).all (· ≤ reachBytes) = true) :
    Calls Tryz.prog 13 args W fun e W' => ∃ v, e = .returned v ∧ Rows.lineDistancesSpec.post enc Tryz.prog Tryz.f13 false true false false W args v W' :=
  iN (P := Tryz.prog) (fn := Tryz.f13) (s := Rows.lineDistancesSpec) (c := [.pr (.sl Bf) (.sl .u8), .bool]) laidOut (by kernel_rfl) (by kernel_rfl) Tryz.underlying4 rfl (fun H ds h => by match ds, h with | [d, e], _ => rfl) law_fn H enc W base args ds gs before hval hW hw
set_option maxRecDepth 100000 in
theorem law_lifted (os : Os) (started : os.Started) (H : Type) (enc : TypeId × Value → H) :
    ReturnsInHanded {} Tryz.checked os 13 .any (Rows.lineDistancesSpec.pre6 enc Tryz.prog Tryz.f13 Rows.lineDistancesRow.domain false) (Rows.lineDistancesSpec.post enc Tryz.prog Tryz.f13 false true false false) := by
  refine returnsInHanded_of_change_sized (C := Tryz.checked) own started (by kernel_rfl) Tryz.func13
    (ChangeSpec.witness6 (enc := enc) (C := Tryz.checked) false ⟨#[], #[.agg #[.slice none 0 0, .slice none 0 0], .bool false], []⟩ 8 (by kernel_rfl) (by kernel_rfl) (by kernel_rfl) (by kernel_rfl)) ?_
  intro W base args ds gs before hval hW _ hw _
  exact law_ok H enc W base args ds gs before hval hW hw
set_option maxRecDepth 100000 in
theorem lineDistances_holds : Rows.LineDistancesSaid :=
  OpenClaim.holds_of_wide 13 Tryz.f13 rfl rfl rfl rfl rfl rfl rfl ⟨rfl, rfl, rfl, rfl, rfl⟩ rfl rfl rfl rfl rfl (by kernel_rfl) Tryz.func13 joined
    (of_decide_eq_true (by kernel_rfl)) (by unfold Func.isWrapper; first | (rw [if_pos (by decide +kernel)]; kernel_rfl) | (rw [if_neg (by decide +kernel)]; exact ⟨rfl, rfl⟩))
    (fun os started H enc _ => law_lifted os started H enc)
end Go.Proofs.YtfilemenbchajaaGreat
