/-
  QqGrids: the statement.
-/
import Derived.Test.YtbicpbaciplfcaaGreatDoorLQGrids
import Derived.Test.YtbicpbaciplfcaaGreatDoorQCase
import Derived.WalkKit
namespace Go.Proofs.YtbicpbaciplfcaaGreatDoor
open Go Go.ChangeShapes Go.WideShapes Go.ChangeAt Go.RowKit Ab
set_option linter.unusedSimpArgs false
set_option linter.unusedVariables false
set_option maxHeartbeats 10000000
set_option maxRecDepth 100000 in
theorem qqGrids_contract (H : Type) (enc : TypeId × Value → H) (Wo : World) (base : Nat) (args : Array Value) (ds gs : List (DataW H)) (before : List MemPlace)
    (hval : ∀ (j : Nat) t v, Tryz.f3.params[j]? = some t → args[j]? = some v → Value.okWide Tryz.prog Wo .any base t v)
    (hW : DataW.Whole enc Tryz.prog Tryz.f3.params.toList Rows.qqGridsSpec.vars false Wo args.toList ds gs before) (hL : laidMetH Tryz.prog Rows.qqGridsRow.laid Wo) :
    Calls Tryz.prog 3 args Wo fun e W' => ∃ v, e = .returned v ∧ Rows.qqGridsSpec.post enc Tryz.prog Tryz.f3 false true false false Wo args v W' := by
  have hL' : laidMet Tryz.prog Rows.qqGridsRow.laid Wo := hL
  refine law_contract (J := J0) (fun _ => trivial) (tj_laid hL' (by first | exact List.mem_cons_self | exact List.mem_cons_of_mem _ List.mem_cons_self | exact List.mem_cons_of_mem _ (List.mem_cons_of_mem _ List.mem_cons_self)) (by first | exact List.mem_cons_self | exact List.mem_cons_of_mem _ List.mem_cons_self | exact List.mem_cons_of_mem _ (List.mem_cons_of_mem _ List.mem_cons_self))) laid rfl (by decide +kernel) rfl Tryz.underlying4 [(30, true, QCase)] rfl ⟨⟨opens_case, rfl⟩, trivial⟩ (fun ds h => match ds, h with | [_], _ => rfl) hval hW fun av n hq hn => ?_
  obtain ⟨a0, av0, x0, n0, m0, rfl, h0, e0, hq, rfl⟩ := hq
  replace e0 : a0 = .g x0 := e0
  subst e0
  obtain ⟨rfl, rfl⟩ := hq
  obtain ⟨s0, s1, s2, s3, s4, a0, d0, a1, d1, a2, d2, a3, a4, i, m, k, l, st, e, w⟩ := QCase_L h0
  rw [e]
  exact qqGrids_spec s0 s1 s2 s3 s4 a0 d0 a1 d1 a2 d2 a3 a4 i m k l st w.a0 w.d0 w.a1 w.d1 w.k1 w.k2
noncomputable def qqGrids_world (os : Os) : World :=
  { World.holding Tryz.prog os ⟨#[], #[], []⟩ with heap := (((World.holding Tryz.prog os ⟨#[], #[], []⟩).heap.modify 0 fun
      | .cells _ t frozen => .cells (tabi_0.map fun n => Value.int .u8 n).toArray t frozen
      | o => o).modify 1 fun
      | .cells _ t frozen => .cells (tabi_1.map fun n => Value.int .u8 n).toArray t frozen
      | o => o) }
theorem qqGrids_met (os : Os) : laidMet Tryz.prog Rows.qqGridsRow.laid ((qqGrids_world os).forCall (fun _ _ => 0) ⟨#[], #[.agg #[.bool false, .slice none 0 0, .slice none 0 0, .bool false, .slice none 0 0, .slice none 0 0, .bool false, .slice none 0 0, .slice none 0 0, .bool false, .slice none 0 0, .bool false, .slice none 0 0, .int .i64 0, .int .i64 0, .int .i64 0, .slice none 0 0, .string ⟨#[]⟩]], []⟩).memory :=
  laidMet_of_run' 8 (by kernel_rfl) (by kernel_rfl)
theorem qqGrids_reads (os : Os) {H : Type} (enc : TypeId × Value → H) : ∃ places, DataW.whole enc Tryz.prog ((qqGrids_world os).forCall (fun _ _ => 0) ⟨#[], #[.agg #[.bool false, .slice none 0 0, .slice none 0 0, .bool false, .slice none 0 0, .slice none 0 0, .bool false, .slice none 0 0, .slice none 0 0, .bool false, .slice none 0 0, .bool false, .slice none 0 0, .int .i64 0, .int .i64 0, .int .i64 0, .slice none 0 0, .string ⟨#[]⟩]], []⟩).memory Tryz.f3.params.toList Rows.qqGridsSpec.vars false (#[.agg #[.bool false, .slice none 0 0, .slice none 0 0, .bool false, .slice none 0 0, .slice none 0 0, .bool false, .slice none 0 0, .slice none 0 0, .bool false, .slice none 0 0, .bool false, .slice none 0 0, .int .i64 0, .int .i64 0, .int .i64 0, .slice none 0 0, .string ⟨#[]⟩]] : Array Value).toList 8 = some ([.agg [.agg [.agg [.lit (.bool false), .nil], .nil], .agg [.agg [.lit (.bool false), .nil], .nil], .agg [.agg [.lit (.bool false), .nil], .nil], .agg [.lit (.bool false), .nil], .agg [.lit (.bool false), .nil], .lit (.int .i64 0), .lit (.int .i64 0), .lit (.int .i64 0), .nil, .lit (.string [])]], [], places) :=
  ⟨[], by kernel_rfl⟩
set_option maxRecDepth 100000 in
theorem qqGrids_lifted (os : Os) (started : os.Started) (H : Type) (enc : TypeId × Value → H) (F : Stop.Interp) :
    ReturnsInHanded {} Tryz.checked os 3 .any ((OpenSpec.ofChange Rows.qqGridsSpec).preRow enc Tryz.prog Tryz.f3 Rows.qqGridsRow.domain false Rows.qqGridsRow.laid) (((OpenSpec.ofChange Rows.qqGridsSpec).at F).post enc Tryz.prog Tryz.f3 false true false false) := by
  obtain ⟨places, hx⟩ := qqGrids_reads os enc
  refine returnsInHanded_of_row (C := Tryz.checked) (s := OpenSpec.ofChange Rows.qqGridsSpec) own started (by kernel_rfl) Tryz.func3
    (witness_row_at (enc := enc) (C := Tryz.checked) false (qqGrids_world os) #[.agg #[.bool false, .slice none 0 0, .slice none 0 0, .bool false, .slice none 0 0, .slice none 0 0, .bool false, .slice none 0 0, .slice none 0 0, .bool false, .slice none 0 0, .bool false, .slice none 0 0, .int .i64 0, .int .i64 0, .int .i64 0, .slice none 0 0, .string ⟨#[]⟩]] rfl (by kernel_rfl) (by kernel_rfl) (by kernel_rfl)
      (OpenSpec.preRow_of_cond 8 hx (by kernel_rfl) (fun k hk => by cases hk) (by kernel_rfl) (qqGrids_met os))) ?_
  intro W base args ds gs before hval hW _ hcond _ hL _ _
  exact qqGrids_contract H enc W base args ds gs before hval hW hL
theorem qqGrids_said : Rows.QqGridsSaid :=
  OpenClaim.holds_of_cond 3 Tryz.f3 rfl rfl rfl rfl rfl rfl rfl ⟨rfl, rfl, rfl, rfl, rfl⟩ rfl rfl rfl rfl rfl (by kernel_rfl) Tryz.func3 (by kernel_rfl)
    (of_decide_eq_true (by kernel_rfl)) (by unfold Func.isWrapper; first | (rw [if_pos (by decide +kernel)]; kernel_rfl) | (rw [if_neg (by decide +kernel)]; exact ⟨rfl, rfl⟩))
    (fun os started H enc _ F => by rw [OpenClaim.pre_eq_preRow]; exact qqGrids_lifted os started H enc F)
theorem qqGrids_plain (f : FuncId) (fn : Func) (hf : Tryz.pinned.checked.prog.funcNamed "surd/surdlaw08.QqGrids" = some f) (hfn : Tryz.pinned.checked.prog.funcs[f]? = some fn) :
    false = Tryz.pinned.checked.prog.looks [] ∧ ∀ (j : Nat) t, fn.params[j]? = some t → Tryz.pinned.checked.prog.wantsStandIn t = false := by
  obtain rfl : f = 3 := Option.some.inj ((show Tryz.prog.funcNamed "surd/surdlaw08.QqGrids" = some 3 by kernel_rfl).symm.trans hf) |>.symm
  obtain rfl : fn = Tryz.f3 := (Option.some.inj (Tryz.func3.symm.trans hfn)).symm
  refine ⟨by kernel_rfl, fun j t ht => ?_⟩
  rw [Tryz.params3] at ht
  have hm : t ∈ ([30] : List TypeId) := by simpa using Array.mem_of_getElem? ht
  have h : ([30].all fun t => !Tryz.prog.wantsStandIn t) = true := by kernel_rfl
  show Tryz.prog.wantsStandIn t = false
  simpa using List.all_eq_true.1 h t hm
theorem qqGrids_proved : Rows.QqGridsCardSaid :=
  Claim7.holds_tied_plain_at .later [] _ _ _ _ qqGrids_said (fun _ h => by cases h) (by kernel_rfl) (fun _ h => by cases h) qqGrids_row_tie rfl ⟨rfl, rfl⟩ (by kernel_rfl) rfl qqGrids_plain (by kernel_rfl)
end Go.Proofs.YtbicpbaciplfcaaGreatDoor
