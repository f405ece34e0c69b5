/-
  ZzDivides: the statement (where what is handed in is of bulk at most 1048576).
-/
import Derived.Test.YtnjjeephbeoakaaDoorLZDivides
import Derived.Test.YtnjjeephbeoakaaDoorZArgs
import Derived.Test.YtnjjeephbeoakaaDoorDoor
import Derived.WalkKit
namespace Go.Proofs.YtnjjeephbeoakaaDoor
open Go Go.ChangeShapes Go.WideShapes Go.ChangeAt Go.RowKit Ab
set_option linter.unusedSimpArgs false
set_option linter.unusedVariables false
set_option maxHeartbeats 10000000
set_option maxRecDepth 100000 in
theorem zzDivides_contract (H : Type) (enc : TypeId × Value → H) (Wo : World) (base : Nat) (args : Array Value) (ds gs : List (DataW H)) (before : List MemPlace)
    (hval : ∀ (j : Nat) t v, Tryd.f4.params[j]? = some t → args[j]? = some v → Value.okWide Tryd.prog Wo .any base t v)
    (hW : DataW.Whole enc Tryd.prog Tryd.f4.params.toList Rows.zzDividesSpec.vars false Wo args.toList ds gs before) (hk : Rows.uptoSmall H (ds ++ gs) = true) (hL : laidMetH Tryd.prog Rows.zzDividesUptoRow.laid Wo) :
    Calls Tryd.prog 4 args Wo fun e W' => ∃ v, e = .returned v ∧ Rows.zzDividesSpec.post enc Tryd.prog Tryd.f4 false true false false Wo args v W' := by
  have hL' : laidMet Tryd.prog Rows.zzDividesUptoRow.laid Wo := hL
  refine law_contract (J := J0) (fun _ => trivial) (tj_laid hL' (by first | exact List.mem_cons_self | exact List.mem_cons_of_mem _ List.mem_cons_self | exact List.mem_cons_of_mem _ (List.mem_cons_of_mem _ List.mem_cons_self))) laid rfl (by decide +kernel) rfl Tryd.underlying4 [(25, true, QZ), (25, true, QZ), (3, false, QInt .i64)] rfl ⟨⟨opens_z, rfl⟩, ⟨opens_z, rfl⟩, ⟨opens_int Tryd.underlying3, rfl⟩, trivial⟩ (fun ds h => match ds, h with | [_, _, _], _ => rfl) hval hW fun av n hq hn => ?_
  obtain ⟨a0, av0, x0, n0, m0, rfl, h0, e0, hq, rfl⟩ := hq
  replace e0 : a0 = .g x0 := e0
  subst e0
  obtain ⟨a1, av1, x1, n1, m1, rfl, h1, e1, hq, rfl⟩ := hq
  replace e1 : a1 = .g x1 := e1
  subst e1
  obtain ⟨a2, av2, x2, n2, m2, rfl, h2, e2, hq, rfl⟩ := hq
  replace e2 : x2 = [a2] := e2
  subst e2
  obtain ⟨rfl, rfl⟩ := hq
  have hsm : Rows.uptoBulkAll (ds ++ gs) ≤ 1048576 := by simpa only [Rows.uptoSmall, decide_eq_true_eq] using hk
  obtain ⟨s, a, e0, wa, la⟩ := QZ_L h0
  obtain ⟨t, b, e1, wb, lb⟩ := QZ_L h1
  obtain ⟨i, e2, wi1, _⟩ := h2
  cases e2
  have hi := wf64 wi1
  rw [e0, e1]
  exact zzDivides_spec s t a b i 1048577 (by decide) (by decide) wa wb (by omega) (by omega) hi.1 hi.2
/-- A world for the witness: the settled one, its tables laid. -/
noncomputable def zzDivides_world (os : Os) : World :=
  { World.holding Tryd.prog os ⟨#[], #[], []⟩ with heap := ((World.holding Tryd.prog os ⟨#[], #[], []⟩).heap.modify 0 fun
      | .cells _ t frozen => .cells (tabi_0.map fun n => Value.int .u8 n).toArray t frozen
      | o => o) }
theorem zzDivides_met (os : Os) : laidMet Tryd.prog Rows.zzDividesUptoRow.laid ((zzDivides_world os).forCall (fun _ _ => 0) ⟨#[], #[.agg #[.bool false, .slice none 0 0], .agg #[.bool false, .slice none 0 0], .int .i64 0], []⟩).memory :=
  laidMet_of_run' 8 (by kernel_rfl) (by kernel_rfl)
theorem zzDivides_reads (os : Os) {H : Type} (enc : TypeId × Value → H) : ∃ places, DataW.whole enc Tryd.prog ((zzDivides_world os).forCall (fun _ _ => 0) ⟨#[], #[.agg #[.bool false, .slice none 0 0], .agg #[.bool false, .slice none 0 0], .int .i64 0], []⟩).memory Tryd.f4.params.toList Rows.zzDividesSpec.vars false (#[.agg #[.bool false, .slice none 0 0], .agg #[.bool false, .slice none 0 0], .int .i64 0] : Array Value).toList 8 = some ([.agg [.lit (.bool false), .nil], .agg [.lit (.bool false), .nil], .lit (.int .i64 0)], [], places) :=
  ⟨[], by kernel_rfl⟩
set_option maxRecDepth 100000 in
theorem zzDivides_lifted (os : Os) (started : os.Started) (H : Type) (enc : TypeId × Value → H) (F : Stop.Interp) :
    ReturnsInHanded {} Tryd.checked os 4 .any ((Rows.OpenSpec.upto Rows.zzDividesSpec).preRow enc Tryd.prog Tryd.f4 Rows.zzDividesUptoRow.domain false Rows.zzDividesUptoRow.laid) (((Rows.OpenSpec.upto Rows.zzDividesSpec).at F).post enc Tryd.prog Tryd.f4 false true false false) := by
  obtain ⟨places, hx⟩ := zzDivides_reads os enc
  refine returnsInHanded_of_row (C := Tryd.checked) (s := Rows.OpenSpec.upto Rows.zzDividesSpec) own started (by kernel_rfl) Tryd.func4
    (witness_row_at (enc := enc) (C := Tryd.checked) false (zzDivides_world os) #[.agg #[.bool false, .slice none 0 0], .agg #[.bool false, .slice none 0 0], .int .i64 0] rfl (by kernel_rfl) (by kernel_rfl) (by kernel_rfl)
      (OpenSpec.preRow_of_cond 8 hx (by kernel_rfl) (fun k hk => by cases hk; kernel_rfl) (by kernel_rfl) (zzDivides_met os))) ?_
  intro W base args ds gs before hval hW _ hcond _ hL _ _
  exact zzDivides_contract H enc W base args ds gs before hval hW (hcond _ rfl) hL
theorem zzDivides_said : Rows.ZzDividesUptoSaid :=
  OpenClaim.holds_of_cond 4 Tryd.f4 rfl rfl rfl rfl rfl rfl rfl ⟨rfl, rfl, rfl, rfl, rfl⟩ rfl rfl rfl rfl rfl (by kernel_rfl) Tryd.func4 (by kernel_rfl)
    (of_decide_eq_true (by kernel_rfl)) (by unfold Func.isWrapper; first | (rw [if_pos (by decide +kernel)]; kernel_rfl) | (rw [if_neg (by decide +kernel)]; exact ⟨rfl, rfl⟩))
    (fun os started H enc _ F => by rw [OpenClaim.pre_eq_preRow]; exact zzDivides_lifted os started H enc F)
theorem zzDivides_plain (f : FuncId) (fn : Func) (hf : Tryd.pinned.checked.prog.funcNamed "surd/surdlaw07.ZzDivides" = some f) (hfn : Tryd.pinned.checked.prog.funcs[f]? = some fn) :
    false = Tryd.pinned.checked.prog.looks [] ∧ ∀ (j : Nat) t, fn.params[j]? = some t → Tryd.pinned.checked.prog.wantsStandIn t = false := by
  obtain rfl : f = 4 := Option.some.inj ((show Tryd.prog.funcNamed "surd/surdlaw07.ZzDivides" = some 4 by kernel_rfl).symm.trans hf) |>.symm
  obtain rfl : fn = Tryd.f4 := (Option.some.inj (Tryd.func4.symm.trans hfn)).symm
  refine ⟨by kernel_rfl, fun j t ht => ?_⟩
  rw [Tryd.params4] at ht
  have hm : t ∈ ([25, 25, 3] : List TypeId) := by simpa using Array.mem_of_getElem? ht
  have h : ([25, 25, 3].all fun t => !Tryd.prog.wantsStandIn t) = true := by kernel_rfl
  show Tryd.prog.wantsStandIn t = false
  simpa using List.all_eq_true.1 h t hm
theorem zzDivides_proved : Rows.ZzDividesUptoCardSaid :=
  Claim7.holds_tied_plain_at .later [] _ _ _ _ zzDivides_said (fun _ h => by cases h) (by kernel_rfl) (fun _ h => by cases h) zzDividesUpto_row_tie rfl ⟨rfl, rfl⟩ (by kernel_rfl) rfl zzDivides_plain (by kernel_rfl)
end Go.Proofs.YtnjjeephbeoakaaDoor
