/- The law CircleNearest: Nearest returns the specified point, which lies on the circle and on the ray from the center, or the error, for any points of a plot. Conditions: none; the statement is the given one. -/
import Derived.Test.YtfilemenbchajaaGreatRows
import Derived.ProofKit
import Derived.OpenShut
import Derived.SizedLaws
import Derived.Test.YtfilemenbchajaaGreatPk12
import Derived.Test.YtfilemenbchajaaGreatPk43
import Derived.Test.YtfilemenbchajaaGreatPk66
set_option linter.all false
set_option maxHeartbeats 8000000
namespace Go.Proofs.YtfilemenbchajaaGreat
open Go.ChangeShapes Go.WideShapes Go.ChangeAt Go.RowKit Go.Abs
theorem laidOut : laidOutB Tryz.prog = true := by kernel_rfl
theorem own : ownKnob Tryz.prog.godebug = none := by kernel_rfl
theorem law_fn (xs : HL [.pr (.sl Bf) (.sl .u8)]) : FB Tryz.prog false 3 (Nj [.pr (.sl Bf) (.sl .u8)] xs) (.one (.bool true)) := by
  obtain ⟨⟨X, W⟩, _⟩ := xs
  show FB _ false 3 [.agg [.sl Bf X, .sl .u8 W]] _
  obtain ⟨V, hV, hn⟩ := iP (X.take 24)
  exact ln rfl hV hn
set_option maxRecDepth 100000 in
theorem ja : (Rows.circleNearestRow.inPlace == Tryz.checked.prog.inPlace 3) = true := by kernel_rfl
set_option maxRecDepth 100000 in
theorem jb : (Rows.circleNearestRow.unfollowed == Tryz.checked.prog.unfollowed 3) = true := by kernel_rfl
set_option maxRecDepth 100000 in
theorem jc : (Rows.circleNearestRow.recurses == Tryz.checked.prog.recurses 3) = true := by kernel_rfl
set_option maxRecDepth 100000 in
theorem jd : (Rows.circleNearestRow.named == Tryz.checked.prog.varsNamed 3) = true := by kernel_rfl
set_option maxRecDepth 100000 in
theorem je : (Tryz.checked.prog.mayEnter) = true := by kernel_rfl
set_option maxRecDepth 100000 in
theorem jf : (Rows.circleNearestRow.lifted == Tryz.checked.prog.liftsFinal) = true := by kernel_rfl
set_option maxRecDepth 100000 in
theorem jg : (Tryz.checked.prog.make == some Rows.circleNearestRow.make) = true := by kernel_rfl
set_option maxRecDepth 100000 in
theorem joined : joinedFacts Tryz.checked.prog 3 Tryz.f3 Rows.circleNearestSpec Rows.circleNearestRow = true := by
  unfold joinedFacts
  rw [ja, jb, jc, jd, je, jf, jg]
  kernel_rfl
set_option maxRecDepth 100000 in
theorem law_ok (H : Type) (enc : TypeId × Value → H) (W : World) (base : Nat) (args : Array Value) (ds gs : List (DataW H)) (before : List MemPlace)
    (hval : ∀ (j : Nat) t v, Tryz.f3.params[j]? = some t → args[j]? = some v → Value.okWide Tryz.prog W .any base t v)
    (hW : DataW.Whole enc Tryz.prog Tryz.f3.params.toList Rows.circleNearestSpec.vars false W args.toList ds gs before)
    (hw : (DataW.weightsEach Tryz.prog (Tryz.f3.params.toList ++ Rows.circleNearestSpec.plain.varTypes Tryz.prog) (ds ++ gs)).all (· ≤ reachBytes) = true) :
    Calls Tryz.prog 3 args W fun e W' => ∃ v, e = .returned v ∧ Rows.circleNearestSpec.post enc Tryz.prog Tryz.f3 false true false false W args v W' :=
  iN (P := Tryz.prog) (fn := Tryz.f3) (s := Rows.circleNearestSpec) (c := [.pr (.sl Bf) (.sl .u8)]) laidOut (by kernel_rfl) (by kernel_rfl) Tryz.underlying4 rfl (fun H ds h => by match ds, h with | [d], _ => rfl) law_fn H enc W base args ds gs before hval hW hw
set_option maxRecDepth 100000 in
theorem law_lifted (os : Os) (started : os.Started) (H : Type) (enc : TypeId × Value → H) :
    ReturnsInHanded {} Tryz.checked os 3 .any (Rows.circleNearestSpec.pre6 enc Tryz.prog Tryz.f3 Rows.circleNearestRow.domain false) (Rows.circleNearestSpec.post enc Tryz.prog Tryz.f3 false true false false) := by
  refine returnsInHanded_of_change_sized (C := Tryz.checked) own started (by kernel_rfl) Tryz.func3
    (ChangeSpec.witness6 (enc := enc) (C := Tryz.checked) false ⟨#[], #[.agg #[.slice none 0 0, .slice none 0 0]], []⟩ 8 (by kernel_rfl) (by kernel_rfl) (by kernel_rfl) (by kernel_rfl)) ?_
  intro W base args ds gs before hval hW _ hw _
  exact law_ok H enc W base args ds gs before hval hW hw
set_option maxRecDepth 100000 in
theorem circleNearest_holds : Rows.CircleNearestSaid :=
  OpenClaim.holds_of_wide 3 Tryz.f3 rfl rfl rfl rfl rfl rfl rfl ⟨rfl, rfl, rfl, rfl, rfl⟩ rfl rfl rfl rfl rfl (by kernel_rfl) Tryz.func3 joined
    (of_decide_eq_true (by kernel_rfl)) (by unfold Func.isWrapper; first | (rw [if_pos (by decide +kernel)]; kernel_rfl) | (rw [if_neg (by decide +kernel)]; exact ⟨rfl, rfl⟩))
    (fun os started H enc _ => law_lifted os started H enc)
end Go.Proofs.YtfilemenbchajaaGreat
