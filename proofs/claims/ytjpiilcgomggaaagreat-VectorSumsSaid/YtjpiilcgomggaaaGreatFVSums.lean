/- The law VectorSums: Make, Add, Sub, Left and Scale return the specified vectors. Conditions: none; the statement is the given one. -/
import Derived.Test.YtjpiilcgomggaaaGreatRows
import Derived.ProofKit
import Derived.OpenShut
import Derived.SizedLaws
import Derived.Test.YtjpiilcgomggaaaGreatPk11
import Derived.Test.YtjpiilcgomggaaaGreatPk43
import Derived.Test.YtjpiilcgomggaaaGreatPk10
import Derived.Test.YtjpiilcgomggaaaGreatWVSums
set_option linter.all false
set_option maxHeartbeats 8000000
namespace Go.Proofs.YtjpiilcgomggaaaGreat
open Go.ChangeShapes Go.WideShapes Go.ChangeAt Go.RowKit Go.Abs
theorem laidOut : laidOutB Tryz.prog = true := by kernel_rfl
theorem own : ownKnob Tryz.prog.godebug = none := by kernel_rfl
theorem law_fn (xs : HL [.pr (.sl Bl) (.sl .u8), AA, AA]) : EF Tryz.prog false 11 (Ls [.pr (.sl Bl) (.sl .u8), AA, AA] xs) (.one (.bool true)) := by
  obtain ⟨⟨X, W⟩, ⟨⟨b1, l1⟩, c1, m1⟩, ⟨⟨b2, l2⟩, c2, m2⟩, _⟩ := xs
  show EF _ false 11 [.agg [.sl Bl X, .sl .u8 W], .agg [.bool b1, .sl .u32 l1, .bool c1, .sl .u32 m1], .agg [.bool b2, .sl .u32 l2, .bool c2, .sl .u32 m2]] _
  obtain ⟨V, hV, hn⟩ := aR (X.take 24)
  exact QEE rfl hV hn
set_option maxRecDepth 100000 in
theorem joined : joinedFacts Tryz.checked.prog 11 Tryz.f11 Rows.vectorSumsSpec Rows.vectorSumsRow = true := by kernel_rfl
set_option maxRecDepth 100000 in
theorem law_ok (H : Type) (enc : TypeId × Value → H) (W : World) (base : Nat) (args : Array Value) (ds gs : List (DataW H)) (before : List MemPlace)
    (hval : ∀ (j : Nat) t v, Tryz.f11.params[j]? = some t → args[j]? = some v → Value.okWide Tryz.prog W .any base t v)
    (hW : DataW.Whole enc Tryz.prog Tryz.f11.params.toList Rows.vectorSumsSpec.vars false W args.toList ds gs before)
    (hw : (DataW.weightsEach Tryz.prog (Tryz.f11.params.toList ++ Rows.vectorSumsSpec.plain.varTypes Tryz.prog) (ds ++ gs)).all (· ≤ reachBytes) = true) :
    Calls Tryz.prog 11 args W fun e W' => ∃ v, e = .returned v ∧ Rows.vectorSumsSpec.post enc Tryz.prog Tryz.f11 false true false false W args v W' :=
  aP (P := Tryz.prog) (fn := Tryz.f11) (s := Rows.vectorSumsSpec) (c := [.pr (.sl Bl) (.sl .u8), AA, AA]) laidOut (by kernel_rfl) (by kernel_rfl) Tryz.underlying4 rfl (fun H ds h => by match ds, h with | [d, e, f], _ => rfl) law_fn H enc W base args ds gs before hval hW hw
set_option maxRecDepth 100000 in
theorem law_lifted (os : Os) (started : os.Started) (H : Type) (enc : TypeId × Value → H) :
    ReturnsInHanded {} Tryz.checked os 11 .any (Rows.vectorSumsSpec.pre6 enc Tryz.prog Tryz.f11 Rows.vectorSumsRow.domain false) (Rows.vectorSumsSpec.post enc Tryz.prog Tryz.f11 false true false false) := by
  refine returnsInHanded_of_change_sized (C := Tryz.checked) own started (by kernel_rfl) Tryz.func11
    (ChangeSpec.witness6 (enc := enc) (C := Tryz.checked) false ⟨#[], #[.agg #[.slice none 0 0, .slice none 0 0], .agg #[.bool false, .slice none 0 0, .bool false, .slice none 0 0], .agg #[.bool false, .slice none 0 0, .bool false, .slice none 0 0]], []⟩ 8 (by kernel_rfl) (by kernel_rfl) (by kernel_rfl) (by kernel_rfl)) ?_
  intro W base args ds gs before hval hW _ hw _
  exact law_ok H enc W base args ds gs before hval hW hw
set_option maxRecDepth 100000 in
theorem vectorSums_holds : Rows.VectorSumsSaid :=
  OpenClaim.holds_of_wide 11 Tryz.f11 rfl rfl rfl rfl rfl rfl rfl ⟨rfl, rfl, rfl, rfl, rfl⟩ rfl rfl rfl rfl rfl (by kernel_rfl) Tryz.func11 joined
    (of_decide_eq_true (by kernel_rfl)) (by unfold Func.isWrapper; first | (rw [if_pos (by decide +kernel)]; kernel_rfl) | (rw [if_neg (by decide +kernel)]; exact ⟨rfl, rfl⟩))
    (fun os started H enc _ => law_lifted os started H enc)
end Go.Proofs.YtjpiilcgomggaaaGreat
