/- Closed facts of the row and the card of the law LocusOnly: the row's words fit the program; the call starts no goroutine; the program's main. Conditions: none. -/
import Derived.Test.YtmifleedghiimaaGreatDoorCards
import Derived.Test.YtmifleedghiimaaGreatDoorTie
import Derived.ProofKit
import Derived.OpenShut
import Derived.Deep.DeepHandedRow
import Derived.Lib.LaidTab
namespace Go.Proofs.YtmifleedghiimaaGreatDoor
open Go.ChangeShapes Go.WideShapes Go.ChangeAt Go.RowKit
theorem laidOut : laidOutB Tryz.prog = true := by kernel_rfl
theorem own : ownKnob Tryz.prog.godebug = none := by kernel_rfl
set_option maxRecDepth 100000 in
theorem ja : (Rows.locusOnlyUptoRow.inPlace == Tryz.checked.prog.inPlace 3) = true := by kernel_rfl
set_option maxRecDepth 100000 in
theorem jb : (Rows.locusOnlyUptoRow.unfollowed == Tryz.checked.prog.unfollowed 3) = true := by kernel_rfl
set_option maxRecDepth 100000 in
theorem jc : (Rows.locusOnlyUptoRow.recurses == Tryz.checked.prog.recurses 3) = true := by kernel_rfl
set_option maxRecDepth 100000 in
theorem jd : (Rows.locusOnlyUptoRow.named == Tryz.checked.prog.varsNamed 3) = true := by kernel_rfl
set_option maxRecDepth 100000 in
theorem je : (Tryz.checked.prog.mayEnter) = true := by kernel_rfl
set_option maxRecDepth 100000 in
theorem jf : (Rows.locusOnlyUptoRow.lifted == Tryz.checked.prog.liftsFinal) = true := by kernel_rfl
set_option maxRecDepth 100000 in
theorem jg : (Tryz.checked.prog.make == some Rows.locusOnlyUptoRow.make) = true := by kernel_rfl
set_option maxRecDepth 100000 in
theorem joined : joinedFacts Tryz.checked.prog 3 Tryz.f3 Rows.locusOnlySpec Rows.locusOnlyUptoRow = true := by
  unfold joinedFacts
  rw [ja, jb, jc, jd, je, jf, jg]
  kernel_rfl
theorem goes0 : Tryz.prog.funcs.toList.any Func.goes = false := by kernel_rfl
theorem goes_none {P : Program} (h : P.funcs.toList.any Func.goes = false) (f : FuncId) : P.goes f = false := by
  have h1 : ∀ g : FuncId, (P.funcs[g]?).any Func.goes = false := fun g => by
    cases e : P.funcs[g]? with
    | none => rfl
    | some fn => exact Bool.eq_false_iff.2 (List.any_eq_false.1 h fn (Array.mem_toList_iff.2 (Array.mem_of_getElem? e)))
  unfold Program.goes
  rw [show P.funcs.any Func.goes = false by rw [← Array.any_toList]; exact h]
  simp [h1]
theorem goesOk : false = Rows.locusOnlyUptoRow.goesBy Tryz.pinned.checked.prog := by
  have h0 : ∀ f, Program.goes Tryz.pinned.checked.prog f = false := goes_none goes0
  unfold OpenClaim.goesBy Program.goesAt Program.goesFrom
  cases Program.funcNamed Tryz.pinned.checked.prog Rows.locusOnlyUptoRow.func with
  | none => rfl
  | some f => rw [Option.any_some, h0]; rfl
set_option maxRecDepth 100000 in
theorem mainOk : Tryz.pinned.checked.prog.mainIs = some (Rows.locusOnlyUptoCard.stood.harness.1, Rows.locusOnlyUptoCard.stood.harness.2.toList) := by kernel_rfl
end Go.Proofs.YtmifleedghiimaaGreatDoor
