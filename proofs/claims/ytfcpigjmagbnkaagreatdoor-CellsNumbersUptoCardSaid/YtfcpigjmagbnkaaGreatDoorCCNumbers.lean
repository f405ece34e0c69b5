/-
  CellsNumbers: the statement (where what is handed in is of bulk at most 1048576).
-/
import Derived.Test.YtfcpigjmagbnkaaGreatDoorLCNumbers
import Derived.Test.YtfcpigjmagbnkaaGreatDoorCArgs
import Derived.Test.YtfcpigjmagbnkaaGreatDoorDoor
import Derived.WalkKit
namespace Go.Proofs.YtfcpigjmagbnkaaGreatDoor
open Go Go.ChangeShapes Go.WideShapes Go.ChangeAt Go.RowKit Ab
set_option linter.unusedSimpArgs false
set_option linter.unusedVariables false
set_option maxHeartbeats 10000000
set_option maxRecDepth 100000 in
theorem cellsNumbers_contract (H : Type) (enc : TypeId × Value → H) (Wo : World) (base : Nat) (args : Array Value) (ds gs : List (DataW H)) (before : List MemPlace)
    (hval : ∀ (j : Nat) t v, Tryz.f5.params[j]? = some t → args[j]? = some v → Value.okWide Tryz.prog Wo .any base t v)
    (hW : DataW.Whole enc Tryz.prog Tryz.f5.params.toList Rows.cellsNumbersSpec.vars false Wo args.toList ds gs before) (hk : Rows.uptoSmall H (ds ++ gs) = true) (hL : laidMetH Tryz.prog Rows.cellsNumbersUptoRow.laid Wo) :
    Calls Tryz.prog 5 args Wo fun e W' => ∃ v, e = .returned v ∧ Rows.cellsNumbersSpec.post enc Tryz.prog Tryz.f5 false true false false Wo args v W' := by
  have hL' : laidMet Tryz.prog Rows.cellsNumbersUptoRow.laid Wo := hL
  refine law_contract (J := J0) (fun _ => trivial) (tj_laid hL' (by first | exact List.mem_cons_self | exact List.mem_cons_of_mem _ List.mem_cons_self | exact List.mem_cons_of_mem _ (List.mem_cons_of_mem _ List.mem_cons_self)) (by first | exact List.mem_cons_self | exact List.mem_cons_of_mem _ List.mem_cons_self | exact List.mem_cons_of_mem _ (List.mem_cons_of_mem _ List.mem_cons_self))) laid rfl (by decide +kernel) rfl Tryz.underlying4 [(37, true, QCell), (27, true, QRat), (3, false, QInt .i64)] rfl ⟨⟨opens_cell, rfl⟩, ⟨opens_rat, rfl⟩, ⟨opens_int Tryz.underlying3, rfl⟩, trivial⟩ (fun ds h => match ds, h with | [_, _, _], _ => rfl) hval hW fun av n hq hn => ?_
  obtain ⟨a0, av0, x0, n0, m0, rfl, h0, e0, hq, rfl⟩ := hq
  replace e0 : a0 = .g x0 := e0
  subst e0
  obtain ⟨a1, av1, x1, n1, m1, rfl, h1, e1, hq, rfl⟩ := hq
  replace e1 : a1 = .g x1 := e1
  subst e1
  obtain ⟨a2, av2, x2, n2, m2, rfl, h2, e2, hq, rfl⟩ := hq
  replace e2 : x2 = [a2] := e2
  subst e2
  obtain ⟨rfl, rfl⟩ := hq
  have hsm : Rows.uptoBulkAll (ds ++ gs) ≤ 1048576 := by simpa only [Rows.uptoSmall, decide_eq_true_eq] using hk
  obtain ⟨s, a, k, p, e0, wa, la, k1, k2⟩ := QCell_L h0
  obtain ⟨t, b, d, e1, wb, wd, lb, ld⟩ := QRat_L h1
  obtain ⟨i, e2, wi1, _⟩ := h2
  cases e2
  have hi := wf64 wi1
  subst e1
  rw [e0]
  exact cellsNumbers_spec s t a b d k i p wa wb wd (by omega) (by omega) (by omega) k1 k2
noncomputable def cellsNumbers_world (os : Os) : World :=
  { World.holding Tryz.prog os ⟨#[], #[], []⟩ with heap := (((World.holding Tryz.prog os ⟨#[], #[], []⟩).heap.modify 0 fun
      | .cells _ t frozen => .cells (tabi_0.map fun n => Value.int .u8 n).toArray t frozen
      | o => o).modify 1 fun
      | .cells _ t frozen => .cells (tabi_1.map fun n => Value.int .u8 n).toArray t frozen
      | o => o) }
theorem cellsNumbers_met (os : Os) : laidMet Tryz.prog Rows.cellsNumbersUptoRow.laid ((cellsNumbers_world os).forCall (fun _ _ => 0) ⟨#[], #[.agg #[.bool false, .slice none 0 0, .int .i64 0, .bool false], .agg #[.bool false, .slice none 0 0, .slice none 0 0], .int .i64 0], []⟩).memory :=
  laidMet_of_run' 8 (by kernel_rfl) (by kernel_rfl)
theorem cellsNumbers_reads (os : Os) {H : Type} (enc : TypeId × Value → H) : ∃ places, DataW.whole enc Tryz.prog ((cellsNumbers_world os).forCall (fun _ _ => 0) ⟨#[], #[.agg #[.bool false, .slice none 0 0, .int .i64 0, .bool false], .agg #[.bool false, .slice none 0 0, .slice none 0 0], .int .i64 0], []⟩).memory Tryz.f5.params.toList Rows.cellsNumbersSpec.vars false (#[.agg #[.bool false, .slice none 0 0, .int .i64 0, .bool false], .agg #[.bool false, .slice none 0 0, .slice none 0 0], .int .i64 0] : Array Value).toList 8 = some ([.agg [.agg [.lit (.bool false), .nil], .lit (.int .i64 0), .lit (.bool false)], .agg [.agg [.lit (.bool false), .nil], .nil], .lit (.int .i64 0)], [], places) :=
  ⟨[], by kernel_rfl⟩
set_option maxRecDepth 100000 in
theorem cellsNumbers_lifted (os : Os) (started : os.Started) (H : Type) (enc : TypeId × Value → H) (F : Stop.Interp) :
    ReturnsInHanded {} Tryz.checked os 5 .any ((Rows.OpenSpec.upto Rows.cellsNumbersSpec).preRow enc Tryz.prog Tryz.f5 Rows.cellsNumbersUptoRow.domain false Rows.cellsNumbersUptoRow.laid) (((Rows.OpenSpec.upto Rows.cellsNumbersSpec).at F).post enc Tryz.prog Tryz.f5 false true false false) := by
  obtain ⟨places, hx⟩ := cellsNumbers_reads os enc
  refine returnsInHanded_of_row (C := Tryz.checked) (s := Rows.OpenSpec.upto Rows.cellsNumbersSpec) own started (by kernel_rfl) Tryz.func5
    (witness_row_at (enc := enc) (C := Tryz.checked) false (cellsNumbers_world os) #[.agg #[.bool false, .slice none 0 0, .int .i64 0, .bool false], .agg #[.bool false, .slice none 0 0, .slice none 0 0], .int .i64 0] rfl (by kernel_rfl) (by kernel_rfl) (by kernel_rfl)
      (OpenSpec.preRow_of_cond 8 hx (by kernel_rfl) (fun k hk => by cases hk; kernel_rfl) (by kernel_rfl) (cellsNumbers_met os))) ?_
  intro W base args ds gs before hval hW _ hcond _ hL _ _
  exact cellsNumbers_contract H enc W base args ds gs before hval hW (hcond _ rfl) hL
theorem cellsNumbers_said : Rows.CellsNumbersUptoSaid :=
  OpenClaim.holds_of_cond 5 Tryz.f5 rfl rfl rfl rfl rfl rfl rfl ⟨rfl, rfl, rfl, rfl, rfl⟩ rfl rfl rfl rfl rfl (by kernel_rfl) Tryz.func5 (by kernel_rfl)
    (of_decide_eq_true (by kernel_rfl)) (by unfold Func.isWrapper; first | (rw [if_pos (by decide +kernel)]; kernel_rfl) | (rw [if_neg (by decide +kernel)]; exact ⟨rfl, rfl⟩))
    (fun os started H enc _ F => by rw [OpenClaim.pre_eq_preRow]; exact cellsNumbers_lifted os started H enc F)
theorem cellsNumbers_plain (f : FuncId) (fn : Func) (hf : Tryz.pinned.checked.prog.funcNamed "surd/surdlaw19.CellsNumbers" = some f) (hfn : Tryz.pinned.checked.prog.funcs[f]? = some fn) :
    false = Tryz.pinned.checked.prog.looks [] ∧ ∀ (j : Nat) t, fn.params[j]? = some t → Tryz.pinned.checked.prog.wantsStandIn t = false := by
  obtain rfl : f = 5 := Option.some.inj ((show Tryz.prog.funcNamed "surd/surdlaw19.CellsNumbers" = some 5 by kernel_rfl).symm.trans hf) |>.symm
  obtain rfl : fn = Tryz.f5 := (Option.some.inj (Tryz.func5.symm.trans hfn)).symm
  refine ⟨by kernel_rfl, fun j t ht => ?_⟩
  rw [Tryz.params5] at ht
  have hm : t ∈ ([37, 27, 3] : List TypeId) := by simpa using Array.mem_of_getElem? ht
  have h : ([37, 27, 3].all fun t => !Tryz.prog.wantsStandIn t) = true := by kernel_rfl
  show Tryz.prog.wantsStandIn t = false
  simpa using List.all_eq_true.1 h t hm
theorem cellsNumbers_proved : Rows.CellsNumbersUptoCardSaid :=
  Claim7.holds_tied_plain_at .later [] _ _ _ _ cellsNumbers_said (fun _ h => by cases h) (by kernel_rfl) (fun _ h => by cases h) cellsNumbersUpto_row_tie rfl ⟨rfl, rfl⟩ (by kernel_rfl) rfl cellsNumbers_plain (by kernel_rfl)
end Go.Proofs.YtfcpigjmagbnkaaGreatDoor
