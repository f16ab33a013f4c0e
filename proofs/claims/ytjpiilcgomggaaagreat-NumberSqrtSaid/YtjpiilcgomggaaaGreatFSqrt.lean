/- The law NumberSqrt: Sqrt returns the square root that is not negative of any number of a recipe, or of its square, or the error for negative numbers. Conditions: none; the statement is the given one. -/
import Derived.Test.YtjpiilcgomggaaaGreatRows
import Derived.ProofKit
import Derived.OpenShut
import Derived.SizedLaws
import Derived.Test.YtjpiilcgomggaaaGreatPk11
import Derived.Test.YtjpiilcgomggaaaGreatPk43
import Derived.Test.YtjpiilcgomggaaaGreatPk10
import Derived.Test.YtjpiilcgomggaaaGreatPk44
set_option linter.all false
set_option maxHeartbeats 8000000
namespace Go.Proofs.YtjpiilcgomggaaaGreat
open Go.ChangeShapes Go.WideShapes Go.ChangeAt Go.RowKit Go.Abs
theorem laidOut : laidOutB Tryz.prog = true := by kernel_rfl
theorem own : ownKnob Tryz.prog.godebug = none := by kernel_rfl
theorem law_fn (xs : HL [.sl Bl, .bool]) : EF Tryz.prog false 3 (Ls [.sl Bl, .bool] xs) (.one (.bool true)) := by
  obtain ⟨X, sq, _⟩ := xs
  show EF _ false 3 [.one (.sl Bl X), .one (.bool sq)] _
  by_cases h : (Go.Abs.runN (X.take 24)).1 = []
  · exact aK rfl h
  · obtain ⟨V, hV, hn⟩ := aR (X.take 24)
    exact aL rfl h hV hn
set_option maxRecDepth 100000 in
theorem joined : joinedFacts Tryz.checked.prog 3 Tryz.f3 Rows.numberSqrtSpec Rows.numberSqrtRow = true := by kernel_rfl
set_option maxRecDepth 100000 in
theorem law_ok (H : Type) (enc : TypeId × Value → H) (W : World) (base : Nat) (args : Array Value) (ds gs : List (DataW H)) (before : List MemPlace)
    (hval : ∀ (j : Nat) t v, Tryz.f3.params[j]? = some t → args[j]? = some v → Value.okWide Tryz.prog W .any base t v)
    (hW : DataW.Whole enc Tryz.prog Tryz.f3.params.toList Rows.numberSqrtSpec.vars false W args.toList ds gs before)
    (hw : (DataW.weightsEach Tryz.prog (Tryz.f3.params.toList ++ Rows.numberSqrtSpec.plain.varTypes Tryz.prog) (ds ++ gs)).all (· ≤ reachBytes) = true) :
    Calls Tryz.prog 3 args W fun e W' => ∃ v, e = .returned v ∧ Rows.numberSqrtSpec.post enc Tryz.prog Tryz.f3 false true false false W args v W' :=
  aP (P := Tryz.prog) (fn := Tryz.f3) (s := Rows.numberSqrtSpec) (c := [.sl Bl, .bool]) laidOut (by kernel_rfl) (by kernel_rfl) Tryz.underlying4 rfl (fun H ds h => by match ds, h with | [d, e], _ => rfl) law_fn H enc W base args ds gs before hval hW hw
set_option maxRecDepth 100000 in
theorem law_lifted (os : Os) (started : os.Started) (H : Type) (enc : TypeId × Value → H) :
    ReturnsInHanded {} Tryz.checked os 3 .any (Rows.numberSqrtSpec.pre6 enc Tryz.prog Tryz.f3 Rows.numberSqrtRow.domain false) (Rows.numberSqrtSpec.post enc Tryz.prog Tryz.f3 false true false false) := by
  refine returnsInHanded_of_change_sized (C := Tryz.checked) own started (by kernel_rfl) Tryz.func3
    (ChangeSpec.witness6 (enc := enc) (C := Tryz.checked) false ⟨#[], #[.slice none 0 0, .bool false], []⟩ 8 (by kernel_rfl) (by kernel_rfl) (by kernel_rfl) (by kernel_rfl)) ?_
  intro W base args ds gs before hval hW _ hw _
  exact law_ok H enc W base args ds gs before hval hW hw
set_option maxRecDepth 100000 in
theorem numberSqrt_holds : Rows.NumberSqrtSaid :=
  OpenClaim.holds_of_wide 3 Tryz.f3 rfl rfl rfl rfl rfl rfl rfl ⟨rfl, rfl, rfl, rfl, rfl⟩ rfl rfl rfl rfl rfl (by kernel_rfl) Tryz.func3 joined
    (of_decide_eq_true (by kernel_rfl)) (by unfold Func.isWrapper; first | (rw [if_pos (by decide +kernel)]; kernel_rfl) | (rw [if_neg (by decide +kernel)]; exact ⟨rfl, rfl⟩))
    (fun os started H enc _ => law_lifted os started H enc)
end Go.Proofs.YtjpiilcgomggaaaGreat
