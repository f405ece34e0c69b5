/-
  NatForms: the statement (where what is handed in is of bulk at most 1048576).
-/
import Derived.Test.YtjcmhoiabakclaaDoorLNF
import Derived.Test.YtjcmhoiabakclaaDoorDoor
import Derived.Test.YtjcmhoiabakclaaDoorGI
import Derived.WalkKit
namespace Go.Proofs.YtjcmhoiabakclaaDoor
open Go Go.ChangeShapes Go.WideShapes Go.ChangeAt Go.RowKit Ab
set_option linter.unusedSimpArgs false
set_option linter.unusedVariables false
set_option maxHeartbeats 10000000
set_option maxRecDepth 100000 in
theorem natForms_contract (H : Type) (enc : TypeId × Value → H) (Wo : World) (base : Nat) (args : Array Value) (ds gs : List (DataW H)) (before : List MemPlace)
    (hval : ∀ (j : Nat) t v, Tryd.f3.params[j]? = some t → args[j]? = some v → Value.okWide Tryd.prog Wo .any base t v)
    (hW : DataW.Whole enc Tryd.prog Tryd.f3.params.toList Rows.natFormsSpec.vars false Wo args.toList ds gs before) (hk : Rows.uptoSmall H (ds ++ gs) = true) (hL : laidMetH Tryd.prog Rows.natFormsUptoRow.laid Wo) :
    Calls Tryd.prog 3 args Wo fun e W' => ∃ v, e = .returned v ∧ Rows.natFormsSpec.post enc Tryd.prog Tryd.f3 false true false false Wo args v W' := by
  have hL' : laidMet Tryd.prog Rows.natFormsUptoRow.laid Wo := hL
  refine law_contract (J := J0) (fun _ => trivial) (tj_laid hL' (by first | exact List.mem_cons_self | exact List.mem_cons_of_mem _ List.mem_cons_self | exact List.mem_cons_of_mem _ (List.mem_cons_of_mem _ List.mem_cons_self))) laid rfl (by decide +kernel) rfl Tryd.underlying4 [(23, false, QNat), (3, false, QInt .i64), (24, false, QInt .u64)] rfl ⟨⟨opens_nat, rfl⟩, ⟨opens_int Tryd.underlying3, rfl⟩, ⟨opens_int Tryd.underlying24, rfl⟩, trivial⟩ (fun ds h => match ds, h with | [_, _, _], _ => rfl) hval hW fun av n hq hn => ?_
  obtain ⟨a0, av0, x0, n0, m0, rfl, h0, e0, hq, rfl⟩ := hq
  replace e0 : x0 = [a0] := e0
  subst e0
  obtain ⟨a1, av1, x1, n1, m1, rfl, h1, e1, hq, rfl⟩ := hq
  replace e1 : x1 = [a1] := e1
  subst e1
  obtain ⟨a2, av2, x2, n2, m2, rfl, h2, e2, hq, rfl⟩ := hq
  replace e2 : x2 = [a2] := e2
  subst e2
  obtain ⟨rfl, rfl⟩ := hq
  have hsm : Rows.uptoBulkAll (ds ++ gs) ≤ 1048576 := by simpa only [Rows.uptoSmall, decide_eq_true_eq] using hk
  obtain ⟨a, e0, wa, la⟩ := QNat_W h0
  cases e0
  obtain ⟨i, e1, wi1, _⟩ := h1
  cases e1
  obtain ⟨w, e2, ww, _⟩ := h2
  cases e2
  have hw : 0 ≤ w ∧ w < 18446744073709551616 := by
    simp [Lit.wf, IntKind.min, IntKind.max, IntKind.signed, IntKind.bits] at ww; omega
  have hi : i < 9223372036854775808 := by
    simp [Lit.wf, IntKind.min, IntKind.max, IntKind.signed, IntKind.bits] at wi1; omega
  have := natForms_spec a i w.toNat wa hi (by omega) (by omega)
  rwa [Int.toNat_of_nonneg hw.1] at this
/-- A world for the witness: the settled one, its tables laid. -/
noncomputable def natForms_world (os : Os) : World :=
  { World.holding Tryd.prog os ⟨#[], #[], []⟩ with heap := ((World.holding Tryd.prog os ⟨#[], #[], []⟩).heap.modify 0 fun
      | .cells _ t frozen => .cells (tabi_0.map fun n => Value.int .u8 n).toArray t frozen
      | o => o) }
theorem natForms_met (os : Os) : laidMet Tryd.prog Rows.natFormsUptoRow.laid ((natForms_world os).forCall (fun _ _ => 0) ⟨#[], #[.slice none 0 0, .int .i64 0, .int .u64 0], []⟩).memory :=
  laidMet_of_run' 8 (by kernel_rfl) (by kernel_rfl)
theorem natForms_reads (os : Os) {H : Type} (enc : TypeId × Value → H) : ∃ places, DataW.whole enc Tryd.prog ((natForms_world os).forCall (fun _ _ => 0) ⟨#[], #[.slice none 0 0, .int .i64 0, .int .u64 0], []⟩).memory Tryd.f3.params.toList Rows.natFormsSpec.vars false (#[.slice none 0 0, .int .i64 0, .int .u64 0] : Array Value).toList 8 = some ([.nil, .lit (.int .i64 0), .lit (.int .u64 0)], [], places) :=
  ⟨[], by kernel_rfl⟩
set_option maxRecDepth 100000 in
theorem natForms_lifted (os : Os) (started : os.Started) (H : Type) (enc : TypeId × Value → H) (F : Stop.Interp) :
    ReturnsInHanded {} Tryd.checked os 3 .any ((Rows.OpenSpec.upto Rows.natFormsSpec).preRow enc Tryd.prog Tryd.f3 Rows.natFormsUptoRow.domain false Rows.natFormsUptoRow.laid) (((Rows.OpenSpec.upto Rows.natFormsSpec).at F).post enc Tryd.prog Tryd.f3 false true false false) := by
  obtain ⟨places, hx⟩ := natForms_reads os enc
  refine returnsInHanded_of_row (C := Tryd.checked) (s := Rows.OpenSpec.upto Rows.natFormsSpec) own started (by kernel_rfl) Tryd.func3
    (witness_row_at (enc := enc) (C := Tryd.checked) false (natForms_world os) #[.slice none 0 0, .int .i64 0, .int .u64 0] rfl (by kernel_rfl) (by kernel_rfl) (by kernel_rfl)
      (OpenSpec.preRow_of_cond 8 hx (by kernel_rfl) (fun k hk => by cases hk; kernel_rfl) (by kernel_rfl) (natForms_met os))) ?_
  intro W base args ds gs before hval hW _ hcond _ hL _ _
  exact natForms_contract H enc W base args ds gs before hval hW (hcond _ rfl) hL
theorem natForms_said : Rows.NatFormsUptoSaid :=
  OpenClaim.holds_of_cond 3 Tryd.f3 rfl rfl rfl rfl rfl rfl rfl ⟨rfl, rfl, rfl, rfl, rfl⟩ rfl rfl rfl rfl rfl (by kernel_rfl) Tryd.func3 (by kernel_rfl)
    (of_decide_eq_true (by kernel_rfl)) (by unfold Func.isWrapper; first | (rw [if_pos (by decide +kernel)]; kernel_rfl) | (rw [if_neg (by decide +kernel)]; exact ⟨rfl, rfl⟩))
    (fun os started H enc _ F => by rw [OpenClaim.pre_eq_preRow]; exact natForms_lifted os started H enc F)
theorem natForms_plain (f : FuncId) (fn : Func) (hf : Tryd.pinned.checked.prog.funcNamed "surd/surdlaw02.NatForms" = some f) (hfn : Tryd.pinned.checked.prog.funcs[f]? = some fn) :
    false = Tryd.pinned.checked.prog.looks [] ∧ ∀ (j : Nat) t, fn.params[j]? = some t → Tryd.pinned.checked.prog.wantsStandIn t = false := by
  obtain rfl : f = 3 := Option.some.inj ((show Tryd.prog.funcNamed "surd/surdlaw02.NatForms" = some 3 by kernel_rfl).symm.trans hf) |>.symm
  obtain rfl : fn = Tryd.f3 := (Option.some.inj (Tryd.func3.symm.trans hfn)).symm
  refine ⟨by kernel_rfl, fun j t ht => ?_⟩
  rw [Tryd.params3] at ht
  have hm : t ∈ ([23, 3, 24] : List TypeId) := by simpa using Array.mem_of_getElem? ht
  have h : ([23, 3, 24].all fun t => !Tryd.prog.wantsStandIn t) = true := by kernel_rfl
  show Tryd.prog.wantsStandIn t = false
  simpa using List.all_eq_true.1 h t hm
theorem natForms_proved : Rows.NatFormsUptoCardSaid :=
  Claim7.holds_tied_plain_at .later [] _ _ _ _ natForms_said (fun _ h => by cases h) (by kernel_rfl) (fun _ h => by cases h) natFormsUpto_row_tie rfl ⟨rfl, rfl⟩ (by kernel_rfl) rfl natForms_plain (by kernel_rfl)
end Go.Proofs.YtjcmhoiabakclaaDoor
