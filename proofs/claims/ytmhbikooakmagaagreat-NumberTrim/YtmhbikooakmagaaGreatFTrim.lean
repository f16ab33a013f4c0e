/- The law NumberTrim: Trim returns the number over the radicands that occur in it; Height and Rational return the specified results, for any number of a recipe over the tower of all. Conditions: none; the statement is the given one. -/
import Derived.Test.YtmhbikooakmagaaGreatRows
import Derived.ProofKit
import Derived.OpenShut
import Derived.SizedLaws
import Derived.Test.YtmhbikooakmagaaGreatRk08
import Derived.Test.YtmhbikooakmagaaGreatRk30
set_option linter.all false
set_option maxHeartbeats 8000000
namespace Go.Proofs.YtmhbikooakmagaaGreat
open Go.ChangeShapes Go.WideShapes Go.ChangeAt Go.RowKit Go.Abs
theorem laidOut : laidOutB Tryz.prog = true := by kernel_rfl
theorem own : ownKnob Tryz.prog.godebug = none := by kernel_rfl
theorem law_fn (xs : HL [.sl Bn]) : E8 Tryz.prog false 4 (QB [.sl Bn] xs) (.one (.bool true)) := by
  obtain ⟨X, _⟩ := xs
  show E8 _ false 4 [.one (.sl Bn X)] _
  by_cases h : (Go.Abs.runN (X.take 24)).1 = []
  · exact o6 rfl h
  · obtain ⟨V, hV, hn⟩ := pF (X.take 24)
    exact o7 rfl h hV hn
set_option maxRecDepth 100000 in
theorem ja : (Rows.numberTrimRow.inPlace == Tryz.checked.prog.inPlace 4) = true := by kernel_rfl
set_option maxRecDepth 100000 in
theorem jb : (Rows.numberTrimRow.unfollowed == Tryz.checked.prog.unfollowed 4) = true := by kernel_rfl
set_option maxRecDepth 100000 in
theorem jc : (Rows.numberTrimRow.recurses == Tryz.checked.prog.recurses 4) = true := by kernel_rfl
set_option maxRecDepth 100000 in
theorem jd : (Rows.numberTrimRow.named == Tryz.checked.prog.varsNamed 4) = true := by kernel_rfl
set_option maxRecDepth 100000 in
theorem je : (Tryz.checked.prog.mayEnter) = true := by kernel_rfl
set_option maxRecDepth 100000 in
theorem jf : (Rows.numberTrimRow.lifted == Tryz.checked.prog.liftsFinal) = true := by kernel_rfl
set_option maxRecDepth 100000 in
theorem jg : (Tryz.checked.prog.make == some Rows.numberTrimRow.make) = true := by kernel_rfl
set_option maxRecDepth 100000 in
theorem joined : joinedFacts Tryz.checked.prog 4 Tryz.f4 Rows.numberTrimSpec Rows.numberTrimRow = true := by
  unfold joinedFacts
  rw [ja, jb, jc, jd, je, jf, jg]
  kernel_rfl
set_option maxRecDepth 100000 in
theorem law_ok (H : Type) (enc : TypeId × Value → H) (W : World) (base : Nat) (args : Array Value) (ds gs : List (DataW H)) (before : List MemPlace)
    (hval : ∀ (j : Nat) t v, Tryz.f4.params[j]? = some t → args[j]? = some v → Value.okWide Tryz.prog W .any base t v)
    (hW : DataW.Whole enc Tryz.prog Tryz.f4.params.toList Rows.numberTrimSpec.vars false W args.toList ds gs before)
    (hw : (DataW.weightsEach Tryz.prog (Tryz.f4.params.toList ++ Rows.numberTrimSpec.plain.varTypes Tryz.prog) (ds ++ gs)).all (· ≤ reachBytes) = true) :
    Calls Tryz.prog 4 args W fun e W' => ∃ v, e = .returned v ∧ Rows.numberTrimSpec.post enc Tryz.prog Tryz.f4 false true false false W args v W' :=
  pA (P := Tryz.prog) (fn := Tryz.f4) (s := Rows.numberTrimSpec) (g := [.sl Bn]) laidOut (by kernel_rfl) (by kernel_rfl) Tryz.underlying4 rfl (fun H ds h => by match ds, h with | [d], _ => rfl) law_fn H enc W base args ds gs before hval hW hw
set_option maxRecDepth 100000 in
theorem law_lifted (os : Os) (started : os.Started) (H : Type) (enc : TypeId × Value → H) :
    ReturnsInHanded {} Tryz.checked os 4 .any (Rows.numberTrimSpec.pre6 enc Tryz.prog Tryz.f4 Rows.numberTrimRow.domain false) (Rows.numberTrimSpec.post enc Tryz.prog Tryz.f4 false true false false) := by
  refine returnsInHanded_of_change_sized (C := Tryz.checked) own started (by kernel_rfl) Tryz.func4
    (ChangeSpec.witness6 (enc := enc) (C := Tryz.checked) false ⟨#[], #[.slice none 0 0], []⟩ 8 (by kernel_rfl) (by kernel_rfl) (by kernel_rfl) (by kernel_rfl)) ?_
  intro W base args ds gs before hval hW _ hw _
  exact law_ok H enc W base args ds gs before hval hW hw
set_option maxRecDepth 100000 in
theorem numberTrim_holds : Rows.NumberTrimSaid :=
  OpenClaim.holds_of_wide 4 Tryz.f4 rfl rfl rfl rfl rfl rfl rfl ⟨rfl, rfl, rfl, rfl, rfl⟩ rfl rfl rfl rfl rfl (by kernel_rfl) Tryz.func4 joined
    (of_decide_eq_true (by kernel_rfl)) (by unfold Func.isWrapper; first | (rw [if_pos (by decide +kernel)]; kernel_rfl) | (rw [if_neg (by decide +kernel)]; exact ⟨rfl, rfl⟩))
    (fun os started H enc _ => law_lifted os started H enc)
end Go.Proofs.YtmhbikooakmagaaGreat
