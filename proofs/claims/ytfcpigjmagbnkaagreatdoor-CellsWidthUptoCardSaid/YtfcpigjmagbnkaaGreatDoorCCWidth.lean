/-
  CellsWidth: the statement (where what is handed in is of bulk at most 1048576).
-/
import Derived.Test.YtfcpigjmagbnkaaGreatDoorLCWidth
import Derived.Test.YtfcpigjmagbnkaaGreatDoorQArgs
import Derived.Test.YtfcpigjmagbnkaaGreatDoorC1
import Derived.Test.YtfcpigjmagbnkaaGreatDoorDoor
import Derived.WalkKit
namespace Go.Proofs.YtfcpigjmagbnkaaGreatDoor
open Go Go.ChangeShapes Go.WideShapes Go.ChangeAt Go.RowKit Ab
set_option linter.unusedSimpArgs false
set_option linter.unusedVariables false
set_option maxHeartbeats 10000000
set_option maxRecDepth 100000 in
theorem cellsWidth_contract (H : Type) (enc : TypeId × Value → H) (Wo : World) (base : Nat) (args : Array Value) (ds gs : List (DataW H)) (before : List MemPlace)
    (hval : ∀ (j : Nat) t v, Tryz.f3.params[j]? = some t → args[j]? = some v → Value.okWide Tryz.prog Wo .any base t v)
    (hW : DataW.Whole enc Tryz.prog Tryz.f3.params.toList Rows.cellsWidthSpec.vars false Wo args.toList ds gs before) (hk : Rows.uptoSmall H (ds ++ gs) = true) (hL : laidMetH Tryz.prog Rows.cellsWidthUptoRow.laid Wo) :
    Calls Tryz.prog 3 args Wo fun e W' => ∃ v, e = .returned v ∧ Rows.cellsWidthSpec.post enc Tryz.prog Tryz.f3 false true false false Wo args v W' := by
  have hL' : laidMet Tryz.prog Rows.cellsWidthUptoRow.laid Wo := hL
  refine law_contract (J := J0) (fun _ => trivial) (tj_laid hL' (by first | exact List.mem_cons_self | exact List.mem_cons_of_mem _ List.mem_cons_self | exact List.mem_cons_of_mem _ (List.mem_cons_of_mem _ List.mem_cons_self))) laid rfl (by decide +kernel) rfl Tryz.underlying4 [(27, true, QRat)] rfl ⟨⟨opens_rat, rfl⟩, trivial⟩ (fun ds h => match ds, h with | [_], _ => rfl) hval hW fun av n hq hn => ?_
  obtain ⟨a0, av0, x0, n0, m0, rfl, h0, e0, hq, rfl⟩ := hq
  replace e0 : a0 = .g x0 := e0
  subst e0
  obtain ⟨rfl, rfl⟩ := hq
  have hsm : Rows.uptoBulkAll (ds ++ gs) ≤ 1048576 := by simpa only [Rows.uptoSmall, decide_eq_true_eq] using hk
  obtain ⟨t, b, d, e1, wb, wd, lb, ld⟩ := QRat_L h0
  subst e1
  exact cellsWidth_spec t b d wb wd (by omega) (by omega)
noncomputable def cellsWidth_world (os : Os) : World :=
  { World.holding Tryz.prog os ⟨#[], #[], []⟩ with heap := ((World.holding Tryz.prog os ⟨#[], #[], []⟩).heap.modify 0 fun
      | .cells _ t frozen => .cells (tabi_0.map fun n => Value.int .u8 n).toArray t frozen
      | o => o) }
theorem cellsWidth_met (os : Os) : laidMet Tryz.prog Rows.cellsWidthUptoRow.laid ((cellsWidth_world os).forCall (fun _ _ => 0) ⟨#[], #[.agg #[.bool false, .slice none 0 0, .slice none 0 0]], []⟩).memory :=
  laidMet_of_run' 8 (by kernel_rfl) (by kernel_rfl)
theorem cellsWidth_reads (os : Os) {H : Type} (enc : TypeId × Value → H) : ∃ places, DataW.whole enc Tryz.prog ((cellsWidth_world os).forCall (fun _ _ => 0) ⟨#[], #[.agg #[.bool false, .slice none 0 0, .slice none 0 0]], []⟩).memory Tryz.f3.params.toList Rows.cellsWidthSpec.vars false (#[.agg #[.bool false, .slice none 0 0, .slice none 0 0]] : Array Value).toList 8 = some ([.agg [.agg [.lit (.bool false), .nil], .nil]], [], places) :=
  ⟨[], by kernel_rfl⟩
set_option maxRecDepth 100000 in
theorem cellsWidth_lifted (os : Os) (started : os.Started) (H : Type) (enc : TypeId × Value → H) (F : Stop.Interp) :
    ReturnsInHanded {} Tryz.checked os 3 .any ((Rows.OpenSpec.upto Rows.cellsWidthSpec).preRow enc Tryz.prog Tryz.f3 Rows.cellsWidthUptoRow.domain false Rows.cellsWidthUptoRow.laid) (((Rows.OpenSpec.upto Rows.cellsWidthSpec).at F).post enc Tryz.prog Tryz.f3 false true false false) := by
  obtain ⟨places, hx⟩ := cellsWidth_reads os enc
  refine returnsInHanded_of_row (C := Tryz.checked) (s := Rows.OpenSpec.upto Rows.cellsWidthSpec) own started (by kernel_rfl) Tryz.func3
    (witness_row_at (enc := enc) (C := Tryz.checked) false (cellsWidth_world os) #[.agg #[.bool false, .slice none 0 0, .slice none 0 0]] rfl (by kernel_rfl) (by kernel_rfl) (by kernel_rfl)
      (OpenSpec.preRow_of_cond 8 hx (by kernel_rfl) (fun k hk => by cases hk; kernel_rfl) (by kernel_rfl) (cellsWidth_met os))) ?_
  intro W base args ds gs before hval hW _ hcond _ hL _ _
  exact cellsWidth_contract H enc W base args ds gs before hval hW (hcond _ rfl) hL
theorem cellsWidth_said : Rows.CellsWidthUptoSaid :=
  OpenClaim.holds_of_cond 3 Tryz.f3 rfl rfl rfl rfl rfl rfl rfl ⟨rfl, rfl, rfl, rfl, rfl⟩ rfl rfl rfl rfl rfl (by kernel_rfl) Tryz.func3 (by kernel_rfl)
    (of_decide_eq_true (by kernel_rfl)) (by unfold Func.isWrapper; first | (rw [if_pos (by decide +kernel)]; kernel_rfl) | (rw [if_neg (by decide +kernel)]; exact ⟨rfl, rfl⟩))
    (fun os started H enc _ F => by rw [OpenClaim.pre_eq_preRow]; exact cellsWidth_lifted os started H enc F)
theorem cellsWidth_plain (f : FuncId) (fn : Func) (hf : Tryz.pinned.checked.prog.funcNamed "surd/surdlaw19.CellsWidth" = some f) (hfn : Tryz.pinned.checked.prog.funcs[f]? = some fn) :
    false = Tryz.pinned.checked.prog.looks [] ∧ ∀ (j : Nat) t, fn.params[j]? = some t → Tryz.pinned.checked.prog.wantsStandIn t = false := by
  obtain rfl : f = 3 := Option.some.inj ((show Tryz.prog.funcNamed "surd/surdlaw19.CellsWidth" = some 3 by kernel_rfl).symm.trans hf) |>.symm
  obtain rfl : fn = Tryz.f3 := (Option.some.inj (Tryz.func3.symm.trans hfn)).symm
  refine ⟨by kernel_rfl, fun j t ht => ?_⟩
  rw [Tryz.params3] at ht
  have hm : t ∈ ([27] : List TypeId) := by simpa using Array.mem_of_getElem? ht
  have h : ([27].all fun t => !Tryz.prog.wantsStandIn t) = true := by kernel_rfl
  show Tryz.prog.wantsStandIn t = false
  simpa using List.all_eq_true.1 h t hm
theorem cellsWidth_proved : Rows.CellsWidthUptoCardSaid :=
  Claim7.holds_tied_plain_at .later [] _ _ _ _ cellsWidth_said (fun _ h => by cases h) (by kernel_rfl) (fun _ h => by cases h) cellsWidthUpto_row_tie rfl ⟨rfl, rfl⟩ (by kernel_rfl) rfl cellsWidth_plain (by kernel_rfl)
end Go.Proofs.YtfcpigjmagbnkaaGreatDoor
