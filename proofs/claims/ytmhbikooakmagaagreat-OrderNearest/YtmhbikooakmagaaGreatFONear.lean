/- The law OrderNearest: Nearest returns the number of the nearest point, or the error for an empty list, for any points of a plot. Conditions: none; the statement is the given one. -/
import Derived.Test.YtmhbikooakmagaaGreatRows
import Derived.ProofKit
import Derived.OpenShut
import Derived.SizedLaws
import Derived.Test.YtmhbikooakmagaaGreatRk08
import Derived.Test.YtmhbikooakmagaaGreatRk39
set_option linter.all false
set_option maxHeartbeats 8000000
namespace Go.Proofs.YtmhbikooakmagaaGreat
open Go.ChangeShapes Go.WideShapes Go.ChangeAt Go.RowKit Go.Abs
theorem laidOut : laidOutB Tryz.prog = true := by kernel_rfl
theorem own : ownKnob Tryz.prog.godebug = none := by kernel_rfl
theorem law_fn (xs : HL [.pr (.sl Bn) (.sl .u8)]) : E8 Tryz.prog false 10 (QB [.pr (.sl Bn) (.sl .u8)] xs) (.one (.bool true)) := by
  obtain ⟨⟨X, W⟩, _⟩ := xs
  show E8 _ false 10 [.agg [.sl Bn X, .sl .u8 W]] _
  obtain ⟨V, hV, hn⟩ := pF (X.take 24)
  exact o5 rfl hV hn
set_option maxRecDepth 100000 in
theorem ja : (Rows.orderNearestRow.inPlace == Tryz.checked.prog.inPlace 10) = true := by kernel_rfl
set_option maxRecDepth 100000 in
theorem jb : (Rows.orderNearestRow.unfollowed == Tryz.checked.prog.unfollowed 10) = true := by kernel_rfl
set_option maxRecDepth 100000 in
theorem jc : (Rows.orderNearestRow.recurses == Tryz.checked.prog.recurses 10) = true := by kernel_rfl
set_option maxRecDepth 100000 in
theorem jd : (Rows.orderNearestRow.named == Tryz.checked.prog.varsNamed 10) = true := by kernel_rfl
set_option maxRecDepth 100000 in
theorem je : (Tryz.checked.prog.mayEnter) = true := by kernel_rfl
set_option maxRecDepth 100000 in
theorem jf : (Rows.orderNearestRow.lifted == Tryz.checked.prog.liftsFinal) = true := by kernel_rfl
set_option maxRecDepth 100000 in
theorem jg : (Tryz.checked.prog.make == some Rows.orderNearestRow.make) = true := by kernel_rfl
set_option maxRecDepth 100000 in
theorem joined : joinedFacts Tryz.checked.prog 10 Tryz.f10 Rows.orderNearestSpec Rows.orderNearestRow = true := by
  unfold joinedFacts
  rw [ja, jb, jc, jd, je, jf, jg]
  kernel_rfl
set_option maxRecDepth 100000 in
theorem law_ok (H : Type) (enc : TypeId × Value → H) (W : World) (base : Nat) (args : Array Value) (ds gs : List (DataW H)) (before : List MemPlace)
    (hval : ∀ (j : Nat) t v, Tryz.f10.params[j]? = some t → args[j]? = some v → Value.okWide Tryz.prog W .any base t v)
    (hW : DataW.Whole enc Tryz.prog Tryz.f10.params.toList Rows.orderNearestSpec.vars false W args.toList ds gs before)
    (hw : (DataW.weightsEach Tryz.prog (Tryz.f10.params.toList ++ Rows.orderNearestSpec.plain.varTypes Tryz.prog) (ds ++ gs)).all (· ≤ reachBytes) = true) :
    Calls Tryz.prog 10 args W fun e W' => ∃ v, e = .returned v ∧ Rows.orderNearestSpec.post enc Tryz.prog Tryz.f10 false true false false W args v W' :=
  pA (P := Tryz.prog) (fn := Tryz.f10) (s := Rows.orderNearestSpec) (g := [.pr (.sl Bn) (.sl .u8)]) laidOut (by kernel_rfl) (by kernel_rfl) Tryz.underlying4 rfl (fun H ds h => by match ds, h with | [d], _ => rfl) law_fn H enc W base args ds gs before hval hW hw
set_option maxRecDepth 100000 in
theorem law_lifted (os : Os) (started : os.Started) (H : Type) (enc : TypeId × Value → H) :
    ReturnsInHanded {} Tryz.checked os 10 .any (Rows.orderNearestSpec.pre6 enc Tryz.prog Tryz.f10 Rows.orderNearestRow.domain false) (Rows.orderNearestSpec.post enc Tryz.prog Tryz.f10 false true false false) := by
  refine returnsInHanded_of_change_sized (C := Tryz.checked) own started (by kernel_rfl) Tryz.func10
    (ChangeSpec.witness6 (enc := enc) (C := Tryz.checked) false ⟨#[], #[.agg #[.slice none 0 0, .slice none 0 0]], []⟩ 8 (by kernel_rfl) (by kernel_rfl) (by kernel_rfl) (by kernel_rfl)) ?_
  intro W base args ds gs before hval hW _ hw _
  exact law_ok H enc W base args ds gs before hval hW hw
set_option maxRecDepth 100000 in
theorem orderNearest_holds : Rows.OrderNearestSaid :=
  OpenClaim.holds_of_wide 10 Tryz.f10 rfl rfl rfl rfl rfl rfl rfl ⟨rfl, rfl, rfl, rfl, rfl⟩ rfl rfl rfl rfl rfl (by kernel_rfl) Tryz.func10 joined
    (of_decide_eq_true (by kernel_rfl)) (by unfold Func.isWrapper; first | (rw [if_pos (by decide +kernel)]; kernel_rfl) | (rw [if_neg (by decide +kernel)]; exact ⟨rfl, rfl⟩))
    (fun os started H enc _ => law_lifted os started H enc)
end Go.Proofs.YtmhbikooakmagaaGreat
