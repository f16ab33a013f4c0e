/- The law NumberValid: Valid reports for every value of the type, with up to 4 radicands, whether it is a valid number. Conditions: none; the statement is the given one. -/
import Derived.Test.YtmhbikooakmagaaGreatRows
import Derived.ProofKit
import Derived.OpenShut
import Derived.SizedLaws
import Derived.Test.YtmhbikooakmagaaGreatRk08
import Derived.Test.YtmhbikooakmagaaGreatRk29
set_option linter.all false
set_option maxHeartbeats 8000000
namespace Go.Proofs.YtmhbikooakmagaaGreat
open Go.ChangeShapes Go.WideShapes Go.ChangeAt Go.RowKit Go.Abs
theorem laidOut : laidOutB Tryz.prog = true := by kernel_rfl
theorem own : ownKnob Tryz.prog.godebug = none := by kernel_rfl
theorem law_fn (xs : HL [.pr (.sl (.sl AA)) (.sl AA)]) : E8 Tryz.prog false 5 (QB [.pr (.sl (.sl AA)) (.sl AA)] xs) (.one (.bool true)) := by
  obtain ⟨⟨T, A⟩, _⟩ := xs
  show E8 _ false 5 [.agg [.sl (.sl AA) T, .sl AA A]] _
  exact o0
set_option maxRecDepth 100000 in
theorem ja : (Rows.numberValidRow.inPlace == Tryz.checked.prog.inPlace 5) = true := by kernel_rfl
set_option maxRecDepth 100000 in
theorem jb : (Rows.numberValidRow.unfollowed == Tryz.checked.prog.unfollowed 5) = true := by kernel_rfl
set_option maxRecDepth 100000 in
theorem jc : (Rows.numberValidRow.recurses == Tryz.checked.prog.recurses 5) = true := by kernel_rfl
set_option maxRecDepth 100000 in
theorem jd : (Rows.numberValidRow.named == Tryz.checked.prog.varsNamed 5) = true := by kernel_rfl
set_option maxRecDepth 100000 in
theorem je : (Tryz.checked.prog.mayEnter) = true := by kernel_rfl
set_option maxRecDepth 100000 in
theorem jf : (Rows.numberValidRow.lifted == Tryz.checked.prog.liftsFinal) = true := by kernel_rfl
set_option maxRecDepth 100000 in
theorem jg : (Tryz.checked.prog.make == some Rows.numberValidRow.make) = true := by kernel_rfl
set_option maxRecDepth 100000 in
theorem joined : joinedFacts Tryz.checked.prog 5 Tryz.f5 Rows.numberValidSpec Rows.numberValidRow = true := by
  unfold joinedFacts
  rw [ja, jb, jc, jd, je, jf, jg]
  kernel_rfl
set_option maxRecDepth 100000 in
theorem law_ok (H : Type) (enc : TypeId × Value → H) (W : World) (base : Nat) (args : Array Value) (ds gs : List (DataW H)) (before : List MemPlace)
    (hval : ∀ (j : Nat) t v, Tryz.f5.params[j]? = some t → args[j]? = some v → Value.okWide Tryz.prog W .any base t v)
    (hW : DataW.Whole enc Tryz.prog Tryz.f5.params.toList Rows.numberValidSpec.vars false W args.toList ds gs before)
    (hw : (DataW.weightsEach Tryz.prog (Tryz.f5.params.toList ++ Rows.numberValidSpec.plain.varTypes Tryz.prog) (ds ++ gs)).all (· ≤ reachBytes) = true) :
    Calls Tryz.prog 5 args W fun e W' => ∃ v, e = .returned v ∧ Rows.numberValidSpec.post enc Tryz.prog Tryz.f5 false true false false W args v W' :=
  pA (P := Tryz.prog) (fn := Tryz.f5) (s := Rows.numberValidSpec) (g := [.pr (.sl (.sl AA)) (.sl AA)]) laidOut (by kernel_rfl) (by kernel_rfl) Tryz.underlying4 rfl (fun H ds h => by match ds, h with | [d], _ => rfl) law_fn H enc W base args ds gs before hval hW hw
set_option maxRecDepth 100000 in
theorem law_lifted (os : Os) (started : os.Started) (H : Type) (enc : TypeId × Value → H) :
    ReturnsInHanded {} Tryz.checked os 5 .any (Rows.numberValidSpec.pre6 enc Tryz.prog Tryz.f5 Rows.numberValidRow.domain false) (Rows.numberValidSpec.post enc Tryz.prog Tryz.f5 false true false false) := by
  refine returnsInHanded_of_change_sized (C := Tryz.checked) own started (by kernel_rfl) Tryz.func5
    (ChangeSpec.witness6 (enc := enc) (C := Tryz.checked) false ⟨#[], #[.agg #[.slice none 0 0, .slice none 0 0]], []⟩ 8 (by kernel_rfl) (by kernel_rfl) (by kernel_rfl) (by kernel_rfl)) ?_
  intro W base args ds gs before hval hW _ hw _
  exact law_ok H enc W base args ds gs before hval hW hw
set_option maxRecDepth 100000 in
theorem numberValid_holds : Rows.NumberValidSaid :=
  OpenClaim.holds_of_wide 5 Tryz.f5 rfl rfl rfl rfl rfl rfl rfl ⟨rfl, rfl, rfl, rfl, rfl⟩ rfl rfl rfl rfl rfl (by kernel_rfl) Tryz.func5 joined
    (of_decide_eq_true (by kernel_rfl)) (by unfold Func.isWrapper; first | (rw [if_pos (by decide +kernel)]; kernel_rfl) | (rw [if_neg (by decide +kernel)]; exact ⟨rfl, rfl⟩))
    (fun os started H enc _ => law_lifted os started H enc)
end Go.Proofs.YtmhbikooakmagaaGreat
