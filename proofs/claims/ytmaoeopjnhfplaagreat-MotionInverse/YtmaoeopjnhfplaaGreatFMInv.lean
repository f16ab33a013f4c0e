/- The law MotionInverse: Inverse returns the motion that undoes a motion; Equal compares motions, for any points of a plot. Conditions: none; the statement is the given one. -/
import Derived.Test.YtmaoeopjnhfplaaGreatRows
import Derived.ProofKit
import Derived.OpenShut
import Derived.SizedLaws
import Derived.Test.YtmaoeopjnhfplaaGreatPk40
import Derived.Test.YtmaoeopjnhfplaaGreatPk07
import Derived.Test.YtmaoeopjnhfplaaGreatPk25
import Derived.Test.YtmaoeopjnhfplaaGreatPk06
set_option linter.all false
set_option maxHeartbeats 8000000
namespace Go.Proofs.YtmaoeopjnhfplaaGreat
open Go.ChangeShapes Go.WideShapes Go.ChangeAt Go.RowKit Go.Abs
theorem laidOut : laidOutB Tryz.prog = true := by kernel_rfl
theorem own : ownKnob Tryz.prog.godebug = none := by kernel_rfl
theorem law_fn (xs : HL [.pr (.sl Bh) (.sl .u8), .pr .u8 .u8]) : Gv Tryz.prog false 7 (N0 [.pr (.sl Bh) (.sl .u8), .pr .u8 .u8] xs) (.one (.bool true)) := by
  obtain ⟨⟨X, W⟩, ⟨km, kn⟩, _⟩ := xs
  show Gv _ false 7 [.agg [.sl Bh X, .sl .u8 W], .agg [.int .u8 km.toNat, .int .u8 kn.toNat]] _
  have u8 : ∀ x : UInt8, (0 : Int) ≤ (x.toNat : Int) ∧ (x.toNat : Int) < 256 := fun x => ⟨by omega, by have := x.toNat_lt; omega⟩
  obtain ⟨V, hV, hn⟩ := tU (X.take 24)
  exact tG rfl hV hn (u8 km).1 (u8 kn).1
set_option maxRecDepth 100000 in
theorem ja : (Rows.motionInverseRow.inPlace == Tryz.checked.prog.inPlace 7) = true := by kernel_rfl
set_option maxRecDepth 100000 in
theorem jb : (Rows.motionInverseRow.unfollowed == Tryz.checked.prog.unfollowed 7) = true := by kernel_rfl
set_option maxRecDepth 100000 in
theorem jc : (Rows.motionInverseRow.recurses == Tryz.checked.prog.recurses 7) = true := by kernel_rfl
set_option maxRecDepth 100000 in
theorem jd : (Rows.motionInverseRow.named == Tryz.checked.prog.varsNamed 7) = true := by kernel_rfl
set_option maxRecDepth 100000 in
theorem je : (Tryz.checked.prog.mayEnter) = true := by kernel_rfl
set_option maxRecDepth 100000 in
theorem jf : (Rows.motionInverseRow.lifted == Tryz.checked.prog.liftsFinal) = true := by kernel_rfl
set_option maxRecDepth 100000 in
theorem jg : (Tryz.checked.prog.make == some Rows.motionInverseRow.make) = true := by kernel_rfl
set_option maxRecDepth 100000 in
theorem joined : joinedFacts Tryz.checked.prog 7 Tryz.f7 Rows.motionInverseSpec Rows.motionInverseRow = true := by
  unfold joinedFacts
  rw [ja, jb, jc, jd, je, jf, jg]
  kernel_rfl
set_option maxRecDepth 100000 in
theorem law_ok (H : Type) (enc : TypeId × Value → H) (W : World) (base : Nat) (args : Array Value) (ds gs : List (DataW H)) (before : List MemPlace)
    (hval : ∀ (j : Nat) t v, Tryz.f7.params[j]? = some t → args[j]? = some v → Value.okWide Tryz.prog W .any base t v)
    (hW : DataW.Whole enc Tryz.prog Tryz.f7.params.toList Rows.motionInverseSpec.vars false W args.toList ds gs before)
    (hw : (DataW.weightsEach Tryz.prog (Tryz.f7.params.toList ++ Rows.motionInverseSpec.plain.varTypes Tryz.prog) (ds ++ gs)).all (· ≤ reachBytes) = true) :
    Calls Tryz.prog 7 args W fun e W' => ∃ v, e = .returned v ∧ Rows.motionInverseSpec.post enc Tryz.prog Tryz.f7 false true false false W args v W' :=
  tP (P := Tryz.prog) (fn := Tryz.f7) (s := Rows.motionInverseSpec) (c := [.pr (.sl Bh) (.sl .u8), .pr .u8 .u8]) laidOut (by kernel_rfl) (by kernel_rfl) Tryz.underlying4 rfl (fun H ds h => by match ds, h with | [d, e], _ => rfl) law_fn H enc W base args ds gs before hval hW hw
set_option maxRecDepth 100000 in
theorem law_lifted (os : Os) (started : os.Started) (H : Type) (enc : TypeId × Value → H) :
    ReturnsInHanded {} Tryz.checked os 7 .any (Rows.motionInverseSpec.pre6 enc Tryz.prog Tryz.f7 Rows.motionInverseRow.domain false) (Rows.motionInverseSpec.post enc Tryz.prog Tryz.f7 false true false false) := by
  refine returnsInHanded_of_change_sized (C := Tryz.checked) own started (by kernel_rfl) Tryz.func7
    (ChangeSpec.witness6 (enc := enc) (C := Tryz.checked) false ⟨#[], #[.agg #[.slice none 0 0, .slice none 0 0], .agg #[.int .u8 0, .int .u8 0]], []⟩ 8 (by kernel_rfl) (by kernel_rfl) (by kernel_rfl) (by kernel_rfl)) ?_
  intro W base args ds gs before hval hW _ hw _
  exact law_ok H enc W base args ds gs before hval hW hw
set_option maxRecDepth 100000 in
theorem motionInverse_holds : Rows.MotionInverseSaid :=
  OpenClaim.holds_of_wide 7 Tryz.f7 rfl rfl rfl rfl rfl rfl rfl ⟨rfl, rfl, rfl, rfl, rfl⟩ rfl rfl rfl rfl rfl (by kernel_rfl) Tryz.func7 joined
    (of_decide_eq_true (by kernel_rfl)) (by unfold Func.isWrapper; first | (rw [if_pos (by decide +kernel)]; kernel_rfl) | (rw [if_neg (by decide +kernel)]; exact ⟨rfl, rfl⟩))
    (fun os started H enc _ => law_lifted os started H enc)
end Go.Proofs.YtmaoeopjnhfplaaGreat
