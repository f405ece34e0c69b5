/-
  CellsGrid: the statement (where what is handed in is of bulk at most 1048576).
-/
import Derived.Test.YtfcpigjmagbnkaaGreatDoorLCGrid
import Derived.Test.YtfcpigjmagbnkaaGreatDoorCArgs
import Derived.Test.YtfcpigjmagbnkaaGreatDoorDoor
import Derived.WalkKit
namespace Go.Proofs.YtfcpigjmagbnkaaGreatDoor
open Go Go.ChangeShapes Go.WideShapes Go.ChangeAt Go.RowKit Ab
set_option linter.unusedSimpArgs false
set_option linter.unusedVariables false
set_option maxHeartbeats 10000000
set_option maxRecDepth 100000 in
theorem cellsGrid_contract (H : Type) (enc : TypeId × Value → H) (Wo : World) (base : Nat) (args : Array Value) (ds gs : List (DataW H)) (before : List MemPlace)
    (hval : ∀ (j : Nat) t v, Tryz.f4.params[j]? = some t → args[j]? = some v → Value.okWide Tryz.prog Wo .any base t v)
    (hW : DataW.Whole enc Tryz.prog Tryz.f4.params.toList Rows.cellsGridSpec.vars false Wo args.toList ds gs before) (hk : Rows.uptoSmall H (ds ++ gs) = true) (hL : laidMetH Tryz.prog Rows.cellsGridUptoRow.laid Wo) :
    Calls Tryz.prog 4 args Wo fun e W' => ∃ v, e = .returned v ∧ Rows.cellsGridSpec.post enc Tryz.prog Tryz.f4 false true false false Wo args v W' := by
  have hL' : laidMet Tryz.prog Rows.cellsGridUptoRow.laid Wo := hL
  refine law_contract (J := J0) (fun _ => trivial) (tj_laid hL' (by first | exact List.mem_cons_self | exact List.mem_cons_of_mem _ List.mem_cons_self | exact List.mem_cons_of_mem _ (List.mem_cons_of_mem _ List.mem_cons_self)) (by first | exact List.mem_cons_self | exact List.mem_cons_of_mem _ List.mem_cons_self | exact List.mem_cons_of_mem _ (List.mem_cons_of_mem _ List.mem_cons_self))) laid rfl (by decide +kernel) rfl Tryz.underlying4 [(27, true, QRat), (3, false, QInt .i64)] rfl ⟨⟨opens_rat, rfl⟩, ⟨opens_int Tryz.underlying3, rfl⟩, trivial⟩ (fun ds h => match ds, h with | [_, _], _ => rfl) hval hW fun av n hq hn => ?_
  obtain ⟨a0, av0, x0, n0, m0, rfl, h0, e0, hq, rfl⟩ := hq
  replace e0 : a0 = .g x0 := e0
  subst e0
  obtain ⟨a1, av1, x1, n1, m1, rfl, h1, e1, hq, rfl⟩ := hq
  replace e1 : x1 = [a1] := e1
  subst e1
  obtain ⟨rfl, rfl⟩ := hq
  have hsm : Rows.uptoBulkAll (ds ++ gs) ≤ 1048576 := by simpa only [Rows.uptoSmall, decide_eq_true_eq] using hk
  obtain ⟨t, b, d, e1, wb, wd, lb, ld⟩ := QRat_L h0
  obtain ⟨i, e2, wi1, _⟩ := h1
  cases e2
  have hi := wf64 wi1
  subst e1
  exact cellsGrid_spec t b d i wb wd (by omega) (by omega) hi.1 hi.2
noncomputable def cellsGrid_world (os : Os) : World :=
  { World.holding Tryz.prog os ⟨#[], #[], []⟩ with heap := (((World.holding Tryz.prog os ⟨#[], #[], []⟩).heap.modify 0 fun
      | .cells _ t frozen => .cells (tabi_0.map fun n => Value.int .u8 n).toArray t frozen
      | o => o).modify 1 fun
      | .cells _ t frozen => .cells (tabi_1.map fun n => Value.int .u8 n).toArray t frozen
      | o => o) }
theorem cellsGrid_met (os : Os) : laidMet Tryz.prog Rows.cellsGridUptoRow.laid ((cellsGrid_world os).forCall (fun _ _ => 0) ⟨#[], #[.agg #[.bool false, .slice none 0 0, .slice none 0 0], .int .i64 0], []⟩).memory :=
  laidMet_of_run' 8 (by kernel_rfl) (by kernel_rfl)
theorem cellsGrid_reads (os : Os) {H : Type} (enc : TypeId × Value → H) : ∃ places, DataW.whole enc Tryz.prog ((cellsGrid_world os).forCall (fun _ _ => 0) ⟨#[], #[.agg #[.bool false, .slice none 0 0, .slice none 0 0], .int .i64 0], []⟩).memory Tryz.f4.params.toList Rows.cellsGridSpec.vars false (#[.agg #[.bool false, .slice none 0 0, .slice none 0 0], .int .i64 0] : Array Value).toList 8 = some ([.agg [.agg [.lit (.bool false), .nil], .nil], .lit (.int .i64 0)], [], places) :=
  ⟨[], by kernel_rfl⟩
set_option maxRecDepth 100000 in
theorem cellsGrid_lifted (os : Os) (started : os.Started) (H : Type) (enc : TypeId × Value → H) (F : Stop.Interp) :
    ReturnsInHanded {} Tryz.checked os 4 .any ((Rows.OpenSpec.upto Rows.cellsGridSpec).preRow enc Tryz.prog Tryz.f4 Rows.cellsGridUptoRow.domain false Rows.cellsGridUptoRow.laid) (((Rows.OpenSpec.upto Rows.cellsGridSpec).at F).post enc Tryz.prog Tryz.f4 false true false false) := by
  obtain ⟨places, hx⟩ := cellsGrid_reads os enc
  refine returnsInHanded_of_row (C := Tryz.checked) (s := Rows.OpenSpec.upto Rows.cellsGridSpec) own started (by kernel_rfl) Tryz.func4
    (witness_row_at (enc := enc) (C := Tryz.checked) false (cellsGrid_world os) #[.agg #[.bool false, .slice none 0 0, .slice none 0 0], .int .i64 0] rfl (by kernel_rfl) (by kernel_rfl) (by kernel_rfl)
      (OpenSpec.preRow_of_cond 8 hx (by kernel_rfl) (fun k hk => by cases hk; kernel_rfl) (by kernel_rfl) (cellsGrid_met os))) ?_
  intro W base args ds gs before hval hW _ hcond _ hL _ _
  exact cellsGrid_contract H enc W base args ds gs before hval hW (hcond _ rfl) hL
theorem cellsGrid_said : Rows.CellsGridUptoSaid :=
  OpenClaim.holds_of_cond 4 Tryz.f4 rfl rfl rfl rfl rfl rfl rfl ⟨rfl, rfl, rfl, rfl, rfl⟩ rfl rfl rfl rfl rfl (by kernel_rfl) Tryz.func4 (by kernel_rfl)
    (of_decide_eq_true (by kernel_rfl)) (by unfold Func.isWrapper; first | (rw [if_pos (by decide +kernel)]; kernel_rfl) | (rw [if_neg (by decide +kernel)]; exact ⟨rfl, rfl⟩))
    (fun os started H enc _ F => by rw [OpenClaim.pre_eq_preRow]; exact cellsGrid_lifted os started H enc F)
theorem cellsGrid_plain (f : FuncId) (fn : Func) (hf : Tryz.pinned.checked.prog.funcNamed "surd/surdlaw19.CellsGrid" = some f) (hfn : Tryz.pinned.checked.prog.funcs[f]? = some fn) :
    false = Tryz.pinned.checked.prog.looks [] ∧ ∀ (j : Nat) t, fn.params[j]? = some t → Tryz.pinned.checked.prog.wantsStandIn t = false := by
  obtain rfl : f = 4 := Option.some.inj ((show Tryz.prog.funcNamed "surd/surdlaw19.CellsGrid" = some 4 by kernel_rfl).symm.trans hf) |>.symm
  obtain rfl : fn = Tryz.f4 := (Option.some.inj (Tryz.func4.symm.trans hfn)).symm
  refine ⟨by kernel_rfl, fun j t ht => ?_⟩
  rw [Tryz.params4] at ht
  have hm : t ∈ ([27, 3] : List TypeId) := by simpa using Array.mem_of_getElem? ht
  have h : ([27, 3].all fun t => !Tryz.prog.wantsStandIn t) = true := by kernel_rfl
  show Tryz.prog.wantsStandIn t = false
  simpa using List.all_eq_true.1 h t hm
theorem cellsGrid_proved : Rows.CellsGridUptoCardSaid :=
  Claim7.holds_tied_plain_at .later [] _ _ _ _ cellsGrid_said (fun _ h => by cases h) (by kernel_rfl) (fun _ h => by cases h) cellsGridUpto_row_tie rfl ⟨rfl, rfl⟩ (by kernel_rfl) rfl cellsGrid_plain (by kernel_rfl)
end Go.Proofs.YtfcpigjmagbnkaaGreatDoor
