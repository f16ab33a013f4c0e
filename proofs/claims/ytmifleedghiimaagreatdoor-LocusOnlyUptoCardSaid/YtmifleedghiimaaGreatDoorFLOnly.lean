/- The law LocusOnly: if there is a locus, the constraint holds exactly if the target or its mirror image lies on it, for constraints and coordinates of bulk at most 1048576. Conditions: none; the statement is the given one (the card of the second form). -/
import Derived.ProofKit
import Derived.OpenShut
import Derived.Deep.DeepHandedRow
import Derived.Lib.LaidTab
import Derived.Test.YtmifleedghiimaaGreatDoorJLOnly
import Derived.Test.YtmifleedghiimaaGreatDoorRb03
import Derived.Test.YtmifleedghiimaaGreatDoorRb19
import Derived.Test.YtmifleedghiimaaGreatDoorRb10
set_option linter.all false
set_option maxHeartbeats 8000000
namespace Go.Proofs.YtmifleedghiimaaGreatDoor
open Go.ChangeShapes Go.WideShapes Go.ChangeAt Go.RowKit Go.Abs
theorem bulk_in {H : Type} {d : DataW H} {l : List (DataW H)} (h : d ∈ l) : Rows.uptoBulk d ≤ Rows.uptoBulkAll l := by
  induction l with
  | nil => cases h
  | cons x r ih =>
    simp only [Rows.uptoBulkAll]
    rcases List.mem_cons.1 h with rfl | e
    · omega
    · have := ih e; omega
theorem bulk_len {H : Type} (l : List (DataW H)) : l.length ≤ Rows.uptoBulkAll l := by
  induction l with
  | nil => simp [Rows.uptoBulkAll]
  | cons x r ih =>
    have : 1 ≤ Rows.uptoBulk x := by
      cases x with
      | lit l => cases l <;> simp [Rows.uptoBulk]
      | _ => simp [Rows.uptoBulk]
    simp only [Rows.uptoBulkAll, List.length_cons]; omega
theorem bulk {H : Type} : Ms (H := H) Rows.uptoBulk where
  len e s := by have := bulk_len e; simp only [Rows.uptoBulk]; omega
  el e s d h := by have := bulk_in h; simp only [Rows.uptoBulk]; omega
  agg l d h := by have := bulk_in h; simp only [Rows.uptoBulk]; omega
  str b := by simp [Rows.uptoBulk]
theorem law_fn (xs : HL [zz, .i64]) (hin : Vx [zz, .i64] xs) (hsm : Xk [zz, .i64] xs) : Eo Tryz.prog false 3 (Ul [zz, .i64] xs) (.one (.bool true)) := by
  obtain ⟨⟨⟨kd, P, C, V, sd⟩, vl, AF, AE, X, W⟩, tt, _⟩ := xs
  obtain ⟨⟨⟨hk, _⟩, _, _, hpt, _⟩, _, _⟩ := hin
  obtain ⟨⟨⟨_, _, _, hV, _⟩, hv, _⟩, _⟩ := hsm
  obtain ⟨Vr, hV3, hok⟩ := zy (X.take 24)
  have hVe : ∀ (i : Nat) (e : Ex), V[i]? = some e → Gl 1048575 e := fun i e h => hV.2 e (List.mem_of_getElem? h)
  have hvs : ∀ v ∈ vl, v.1.2.length ≤ 4000000 ∧ v.2.2.length ≤ 4000000 := fun v hm => by
    obtain ⟨⟨_, h1⟩, _, h2⟩ := hv.2 v hm
    exact ⟨Nat.le_trans h1.1 (by decide), Nat.le_trans h2.1 (by decide)⟩
  show Eo _ false 3 [.agg [.int .i64 kd, .sl .i64 P, .sl .i64 C, .sl .ex V, .int .i64 sd, .sl AJ vl, .sl .i64 AF, .int .i64 AE, .sl C2 X, .sl .u8 W], .one (.int .i64 tt)] _
  exact zk hk hpt (by decide) hVe hvs rfl hV3 hok
theorem gTab : Tryz.prog.globalNamed "setsquare/locus.pairs" = some 0 := by kernel_rfl
theorem gTabType : (Tryz.prog.globals[0]?).map (·.type) = some 191 := by kernel_rfl
theorem cellsA : Tryz.prog.cellsOf 191 = 4 := by kernel_rfl
theorem cellsI : Tryz.prog.cellsOf 3 = 1 := by kernel_rfl
theorem table {W : World} (h : laidMetH Tryz.prog Rows.locusOnlyUptoRow.laid W) : Lib.TabIs Tryz.prog W "setsquare/locus.pairs" .i64 [1, 0, 3, 2] :=
  Lib.tabIs_of_head (rest := []) gTab gTabType Tryz.underlying191 Tryz.underlying3 cellsI cellsA h
theorem glob {W : World} (h : laidMetH Tryz.prog Rows.locusOnlyUptoRow.laid W) : Kh W fun _ b => b < W.heap.size := fun g q e => by
  unfold GI at e
  split at e
  · cases e
    have c0 : W.cell? ⟨0, 0, none⟩ = some (.int .i64 1) := (table h).cell gTab 0 (by decide)
    have c1 : W.cell? ⟨0, 1, none⟩ = some (.int .i64 0) := (table h).cell gTab 1 (by decide)
    have c2 : W.cell? ⟨0, 2, none⟩ = some (.int .i64 3) := (table h).cell gTab 2 (by decide)
    have c3 : W.cell? ⟨0, 3, none⟩ = some (.int .i64 2) := (table h).cell gTab 3 (by decide)
    refine ⟨(jD c0).2, [.int .i64 1, .int .i64 0, .int .i64 3, .int .i64 2], ⟨[_], _, rfl, rfl, [_], _, rfl, rfl, [_], _, rfl, rfl, rfl⟩, fun j v hj => ?_⟩
    match j, hj with
    | 0, hj => cases hj; exact c0
    | 1, hj => cases hj; exact c1
    | 2, hj => cases hj; exact c2
    | 3, hj => cases hj; exact c3
    | _ + 4, hj => simp at hj
  · cases e
set_option maxRecDepth 100000 in
theorem law_ok (H : Type) (enc : TypeId × Value → H) (W : World) (base : Nat) (args : Array Value) (ds gs : List (DataW H)) (before : List MemPlace)
    (hval : ∀ (j : Nat) t v, Tryz.f3.params[j]? = some t → args[j]? = some v → Value.okWide Tryz.prog W .any base t v)
    (hW : DataW.Whole enc Tryz.prog Tryz.f3.params.toList Rows.locusOnlySpec.vars false W args.toList ds gs before) (hL : laidMetH Tryz.prog Rows.locusOnlyUptoRow.laid W)
    (hw : (DataW.weightsEach Tryz.prog (Tryz.f3.params.toList ++ Rows.locusOnlySpec.plain.varTypes Tryz.prog) (ds ++ gs)).all (· ≤ reachBytes) = true) (hk : ∀ d ∈ ds, Rows.uptoBulk d ≤ 1048576) :
    Calls Tryz.prog 3 args W fun e W' => ∃ v, e = .returned v ∧ Rows.locusOnlySpec.post enc Tryz.prog Tryz.f3 false true false false W args v W' :=
  zp (P := Tryz.prog) (fn := Tryz.f3) (s := Rows.locusOnlySpec) (c := [zz, .i64]) laidOut (by kernel_rfl) (by kernel_rfl) Tryz.underlying4 rfl (fun H ds h => by match ds, h with | [d0, d1], _ => rfl) law_fn H bulk enc W base args ds gs before hval hW (glob hL) hw hk
noncomputable def laidWorld (os : Os) : World :=
  { World.holding Tryz.prog os ⟨#[], #[], []⟩ with heap := (World.holding Tryz.prog os ⟨#[], #[], []⟩).heap.modify 0 fun
      | .cells _ t frozen => .cells #[.int .i64 1, .int .i64 0, .int .i64 3, .int .i64 2] t frozen
      | o => o }
def wit : Array Value := #[.agg #[.int .i64 0, .slice none 0 0, .slice none 0 0, .slice none 0 0, .int .i64 0, .slice none 0 0, .slice none 0 0, .int .i64 0, .slice none 0 0, .slice none 0 0], .int .i64 0]
theorem laid_met (os : Os) : laidMet Tryz.prog Rows.locusOnlyUptoRow.laid ((laidWorld os).forCall (fun _ _ => 0) ⟨#[], wit, []⟩).memory :=
  laidMet_of_run' 8 (by kernel_rfl) (by kernel_rfl)
theorem reads (os : Os) {H : Type} (enc : TypeId × Value → H) : ∃ places, DataW.whole enc Tryz.prog ((laidWorld os).forCall (fun _ _ => 0) ⟨#[], wit, []⟩).memory Tryz.f3.params.toList Rows.locusOnlySpec.vars false wit.toList 8 = some ([.agg [.agg [.lit (.int .i64 0), .nil, .nil, .nil, .lit (.int .i64 0)], .nil, .nil, .lit (.int .i64 0), .nil, .nil], .lit (.int .i64 0)], [], places) :=
  ⟨[], by kernel_rfl⟩
set_option maxRecDepth 100000 in
theorem lifted (os : Os) (started : os.Started) (H : Type) (enc : TypeId × Value → H) (F : Stop.Interp) :
    ReturnsInHanded {} Tryz.checked os 3 .any ((Rows.OpenSpec.upto Rows.locusOnlySpec).preRow enc Tryz.prog Tryz.f3 Rows.locusOnlyUptoRow.domain false Rows.locusOnlyUptoRow.laid) (((Rows.OpenSpec.upto Rows.locusOnlySpec).at F).post enc Tryz.prog Tryz.f3 false true false false) := by
  obtain ⟨places, hx⟩ := reads os enc
  refine returnsInHanded_of_row (C := Tryz.checked) (s := Rows.OpenSpec.upto Rows.locusOnlySpec) own started (by kernel_rfl) Tryz.func3
    (witness_row_at (enc := enc) (C := Tryz.checked) false (laidWorld os) wit rfl (by kernel_rfl) (by kernel_rfl) (by kernel_rfl)
      (OpenSpec.preRow_of_cond 8 hx (by kernel_rfl) (fun k hk => by cases hk; kernel_rfl) (by kernel_rfl) (laid_met os))) ?_
  intro W base args ds gs before hval hW _ hcond hw hL _ _
  refine law_ok H enc W base args ds gs before hval hW hL hw fun d hd => ?_
  have h1 : Rows.uptoBulkAll (ds ++ gs) ≤ 1048576 := of_decide_eq_true (hcond _ rfl)
  exact Nat.le_trans (bulk_in (List.mem_append_left _ hd)) h1
set_option maxRecDepth 100000 in
theorem said : Rows.LocusOnlyUptoSaid :=
  OpenClaim.holds_of_cond 3 Tryz.f3 rfl rfl rfl rfl rfl rfl rfl ⟨rfl, rfl, rfl, rfl, rfl⟩ rfl rfl rfl rfl rfl (by kernel_rfl) Tryz.func3 joined
    (of_decide_eq_true (by kernel_rfl)) (by unfold Func.isWrapper; first | (rw [if_pos (by decide +kernel)]; kernel_rfl) | (rw [if_neg (by decide +kernel)]; exact ⟨rfl, rfl⟩))
    (fun os started H enc _ F => by rw [OpenClaim.pre_eq_preRow]; exact lifted os started H enc F)
theorem noStand : (Tryz.f3.params.toList.all fun t => Tryz.prog.wantsStandIn t == false) = true := by kernel_rfl
theorem plain (f : FuncId) (fn : Func) (hf : Tryz.pinned.checked.prog.funcNamed "setsquare/setsquarelaw37.LocusOnly" = some f) (hfn : Tryz.pinned.checked.prog.funcs[f]? = some fn) :
    false = Tryz.pinned.checked.prog.looks [] ∧ ∀ (j : Nat) t, fn.params[j]? = some t → Tryz.pinned.checked.prog.wantsStandIn t = false := by
  obtain rfl : f = 3 := Option.some.inj ((show Tryz.prog.funcNamed "setsquare/setsquarelaw37.LocusOnly" = some 3 by kernel_rfl).symm.trans hf) |>.symm
  obtain rfl : fn = Tryz.f3 := (Option.some.inj (Tryz.func3.symm.trans hfn)).symm
  exact ⟨by kernel_rfl, fun j t ht => show Tryz.prog.wantsStandIn t = false by simpa using List.all_eq_true.1 noStand t (Array.mem_toList_iff.2 (Array.mem_of_getElem? ht))⟩
set_option maxRecDepth 100000 in
theorem locusOnly_holds : Rows.LocusOnlyUptoCardSaid :=
  Claim7.holds_tied_plain_at .later [] _ _ _ _ said (fun _ h => by cases h) (by kernel_rfl) (fun _ h => by cases h) locusOnlyUpto_row_tie rfl ⟨rfl, rfl⟩ mainOk rfl plain goesOk
end Go.Proofs.YtmifleedghiimaaGreatDoor
