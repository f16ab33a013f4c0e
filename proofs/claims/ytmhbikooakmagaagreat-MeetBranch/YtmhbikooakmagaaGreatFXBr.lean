/- The law MeetBranch: Branch returns the branch with which Loci returns a point, or the specified error, for any points of a plot. Conditions: none; the statement is the given one. -/
import Derived.Test.YtmhbikooakmagaaGreatRows
import Derived.ProofKit
import Derived.OpenShut
import Derived.SizedLaws
import Derived.Test.YtmhbikooakmagaaGreatPk07
import Derived.Test.YtmhbikooakmagaaGreatWAllB
set_option linter.all false
set_option maxHeartbeats 8000000
namespace Go.Proofs.YtmhbikooakmagaaGreat
open Go.ChangeShapes Go.WideShapes Go.ChangeAt Go.RowKit Go.Abs
theorem laidOut : laidOutB Tryz.prog = true := by kernel_rfl
theorem own : ownKnob Tryz.prog.godebug = none := by kernel_rfl
theorem law_fn (xs : HL [.pr (.sl B9) (.sl .u8), .pr (.pr .bool (.pr .u8 (.pr .u8 .bool))) (.pr (.pr .bool (.pr .u8 (.pr .u8 .bool))) .i64), .u8]) : GF Tryz.prog false 3 (QP [.pr (.sl B9) (.sl .u8), .pr (.pr .bool (.pr .u8 (.pr .u8 .bool))) (.pr (.pr .bool (.pr .u8 (.pr .u8 .bool))) .i64), .u8] xs) (.one (.bool true)) := by
  obtain ⟨⟨X, W⟩, ⟨⟨ca, pa, pb, ba⟩, ⟨cb, pc, pd, bb⟩, br⟩, pe, _⟩ := xs
  show GF _ false 3 [.agg [.sl B9 X, .sl .u8 W], .agg [.bool ca, .int .u8 pa.toNat, .int .u8 pb.toNat, .bool ba, .bool cb, .int .u8 pc.toNat, .int .u8 pd.toNat, .bool bb, .int .i64 br], .one (.int .u8 pe.toNat)] _
  have u8 : ∀ x : UInt8, (0 : Int) ≤ (x.toNat : Int) ∧ (x.toNat : Int) < 256 := fun x => ⟨by omega, by have := x.toNat_lt; omega⟩
  obtain ⟨V, hV, hn⟩ := pG (X.take 24)
  exact o8 rfl hV hn (u8 pa) (u8 pb) (u8 pc) (u8 pd) (u8 pe)
set_option maxRecDepth 100000 in
theorem ja : (Rows.meetBranchRow.inPlace == Tryz.checked.prog.inPlace 3) = true := by kernel_rfl
set_option maxRecDepth 100000 in
theorem jb : (Rows.meetBranchRow.unfollowed == Tryz.checked.prog.unfollowed 3) = true := by kernel_rfl
set_option maxRecDepth 100000 in
theorem jc : (Rows.meetBranchRow.recurses == Tryz.checked.prog.recurses 3) = true := by kernel_rfl
set_option maxRecDepth 100000 in
theorem jd : (Rows.meetBranchRow.named == Tryz.checked.prog.varsNamed 3) = true := by kernel_rfl
set_option maxRecDepth 100000 in
theorem je : (Tryz.checked.prog.mayEnter) = true := by kernel_rfl
set_option maxRecDepth 100000 in
theorem jf : (Rows.meetBranchRow.lifted == Tryz.checked.prog.liftsFinal) = true := by kernel_rfl
set_option maxRecDepth 100000 in
theorem jg : (Tryz.checked.prog.make == some Rows.meetBranchRow.make) = true := by kernel_rfl
set_option maxRecDepth 100000 in
theorem joined : joinedFacts Tryz.checked.prog 3 Tryz.f3 Rows.meetBranchSpec Rows.meetBranchRow = true := by
  unfold joinedFacts
  rw [ja, jb, jc, jd, je, jf, jg]
  kernel_rfl
set_option maxRecDepth 100000 in
theorem law_ok (H : Type) (enc : TypeId × Value → H) (W : World) (base : Nat) (args : Array Value) (ds gs : List (DataW H)) (before : List MemPlace)
    (hval : ∀ (j : Nat) t v, Tryz.f3.params[j]? = some t → args[j]? = some v → Value.okWide Tryz.prog W .any base t v)
    (hW : DataW.Whole enc Tryz.prog Tryz.f3.params.toList Rows.meetBranchSpec.vars false W args.toList ds gs before)
    (hw : (DataW.weightsEach Tryz.prog (Tryz.f3.params.toList ++ Rows.meetBranchSpec.plain.varTypes Tryz.prog) (ds ++ gs)).all (· ≤ reachBytes) = true) :
    Calls Tryz.prog 3 args W fun e W' => ∃ v, e = .returned v ∧ Rows.meetBranchSpec.post enc Tryz.prog Tryz.f3 false true false false W args v W' :=
  pB (P := Tryz.prog) (fn := Tryz.f3) (s := Rows.meetBranchSpec) (c := [.pr (.sl B9) (.sl .u8), .pr (.pr .bool (.pr .u8 (.pr .u8 .bool))) (.pr (.pr .bool (.pr .u8 (.pr .u8 .bool))) .i64), .u8]) laidOut (by kernel_rfl) (by kernel_rfl) Tryz.underlying4 rfl (fun H ds h => by match ds, h with | [d, e, f], _ => rfl) law_fn H enc W base args ds gs before hval hW hw
set_option maxRecDepth 100000 in
theorem law_lifted (os : Os) (started : os.Started) (H : Type) (enc : TypeId × Value → H) :
    ReturnsInHanded {} Tryz.checked os 3 .any (Rows.meetBranchSpec.pre6 enc Tryz.prog Tryz.f3 Rows.meetBranchRow.domain false) (Rows.meetBranchSpec.post enc Tryz.prog Tryz.f3 false true false false) := by
  refine returnsInHanded_of_change_sized (C := Tryz.checked) own started (by kernel_rfl) Tryz.func3
    (ChangeSpec.witness6 (enc := enc) (C := Tryz.checked) false ⟨#[], #[.agg #[.slice none 0 0, .slice none 0 0], .agg #[.bool false, .int .u8 0, .int .u8 0, .bool false, .bool false, .int .u8 0, .int .u8 0, .bool false, .int .i64 0], .int .u8 0], []⟩ 8 (by kernel_rfl) (by kernel_rfl) (by kernel_rfl) (by kernel_rfl)) ?_
  intro W base args ds gs before hval hW _ hw _
  exact law_ok H enc W base args ds gs before hval hW hw
set_option maxRecDepth 100000 in
theorem meetBranch_holds : Rows.MeetBranchSaid :=
  OpenClaim.holds_of_wide 3 Tryz.f3 rfl rfl rfl rfl rfl rfl rfl ⟨rfl, rfl, rfl, rfl, rfl⟩ rfl rfl rfl rfl rfl (by kernel_rfl) Tryz.func3 joined
    (of_decide_eq_true (by kernel_rfl)) (by unfold Func.isWrapper; first | (rw [if_pos (by decide +kernel)]; kernel_rfl) | (rw [if_neg (by decide +kernel)]; exact ⟨rfl, rfl⟩))
    (fun os started H enc _ => law_lifted os started H enc)
end Go.Proofs.YtmhbikooakmagaaGreat
