/-
  ZzTexts: the statement (where what is handed in is of bulk at most 1048576).
-/
import Derived.Test.YtgbcjikcgckhbaaDoorZT3
import Derived.Test.YtgbcjikcgckhbaaDoorZArgs
import Derived.Test.YtgbcjikcgckhbaaDoorDoor
import Derived.WalkKit
namespace Go.Proofs.YtgbcjikcgckhbaaDoor
open Go Go.ChangeShapes Go.WideShapes Go.ChangeAt Go.RowKit Ab
set_option linter.unusedSimpArgs false
set_option linter.unusedVariables false
set_option maxHeartbeats 10000000
theorem opens_strZ {H : Type} {enc : TypeId × Value → H} {w : World} : Opens enc Tryd.prog w 9 QStr := opens_string Tryd.underlying9
set_option maxRecDepth 100000 in
theorem zzTexts_contract (H : Type) (enc : TypeId × Value → H) (Wo : World) (base : Nat) (args : Array Value) (ds gs : List (DataW H)) (before : List MemPlace)
    (hval : ∀ (j : Nat) t v, Tryd.f3.params[j]? = some t → args[j]? = some v → Value.okWide Tryd.prog Wo .any base t v)
    (hW : DataW.Whole enc Tryd.prog Tryd.f3.params.toList Rows.zzTextsSpec.vars false Wo args.toList ds gs before) (hk : Rows.uptoSmall H (ds ++ gs) = true) (hL : laidMetH Tryd.prog Rows.zzTextsUptoRow.laid Wo) :
    Calls Tryd.prog 3 args Wo fun e W' => ∃ v, e = .returned v ∧ Rows.zzTextsSpec.post enc Tryd.prog Tryd.f3 false true false false Wo args v W' := by
  have hL' : laidMet Tryd.prog Rows.zzTextsUptoRow.laid Wo := hL
  refine law_contract (J := J0) (fun _ => trivial) (tj_laid hL' (by first | exact List.mem_cons_self | exact List.mem_cons_of_mem _ List.mem_cons_self | exact List.mem_cons_of_mem _ (List.mem_cons_of_mem _ List.mem_cons_self))) laid rfl (by decide +kernel) rfl Tryd.underlying4 [(25, true, QZ), (9, false, QStr)] rfl ⟨⟨opens_z, rfl⟩, ⟨opens_strZ, rfl⟩, trivial⟩ (fun ds h => match ds, h with | [_, _], _ => rfl) hval hW fun av n hq hn => ?_
  obtain ⟨a0, av0, x0, n0, m0, rfl, h0, e0, hq, rfl⟩ := hq
  replace e0 : a0 = .g x0 := e0
  subst e0
  obtain ⟨a1, av1, x1, n1, m1, rfl, h1, e1, hq, rfl⟩ := hq
  replace e1 : x1 = [a1] := e1
  subst e1
  obtain ⟨rfl, rfl⟩ := hq
  have hsm : Rows.uptoBulkAll (ds ++ gs) ≤ 1048576 := by simpa only [Rows.uptoSmall, decide_eq_true_eq] using hk
  obtain ⟨s, a, e0, wa, la⟩ := QZ_L h0
  obtain ⟨tx, e1, _, hn⟩ := h1
  cases e1
  rw [e0]
  exact zzTexts_spec s a tx 1048577 (by decide) wa (by omega) (by omega)
noncomputable def zzTexts_world (os : Os) : World :=
  { World.holding Tryd.prog os ⟨#[], #[], []⟩ with heap := ((World.holding Tryd.prog os ⟨#[], #[], []⟩).heap.modify 0 fun
      | .cells _ t frozen => .cells (tabi_0.map fun n => Value.int .u8 n).toArray t frozen
      | o => o) }
theorem zzTexts_met (os : Os) : laidMet Tryd.prog Rows.zzTextsUptoRow.laid ((zzTexts_world os).forCall (fun _ _ => 0) ⟨#[], #[.agg #[.bool false, .slice none 0 0], .string ⟨#[]⟩], []⟩).memory :=
  laidMet_of_run' 8 (by kernel_rfl) (by kernel_rfl)
theorem zzTexts_reads (os : Os) {H : Type} (enc : TypeId × Value → H) : ∃ places, DataW.whole enc Tryd.prog ((zzTexts_world os).forCall (fun _ _ => 0) ⟨#[], #[.agg #[.bool false, .slice none 0 0], .string ⟨#[]⟩], []⟩).memory Tryd.f3.params.toList Rows.zzTextsSpec.vars false (#[.agg #[.bool false, .slice none 0 0], .string ⟨#[]⟩] : Array Value).toList 8 = some ([.agg [.lit (.bool false), .nil], .lit (.string [])], [], places) :=
  ⟨[], by kernel_rfl⟩
set_option maxRecDepth 100000 in
theorem zzTexts_lifted (os : Os) (started : os.Started) (H : Type) (enc : TypeId × Value → H) (F : Stop.Interp) :
    ReturnsInHanded {} Tryd.checked os 3 .any ((Rows.OpenSpec.upto Rows.zzTextsSpec).preRow enc Tryd.prog Tryd.f3 Rows.zzTextsUptoRow.domain false Rows.zzTextsUptoRow.laid) (((Rows.OpenSpec.upto Rows.zzTextsSpec).at F).post enc Tryd.prog Tryd.f3 false true false false) := by
  obtain ⟨places, hx⟩ := zzTexts_reads os enc
  refine returnsInHanded_of_row (C := Tryd.checked) (s := Rows.OpenSpec.upto Rows.zzTextsSpec) own started (by kernel_rfl) Tryd.func3
    (witness_row_at (enc := enc) (C := Tryd.checked) false (zzTexts_world os) #[.agg #[.bool false, .slice none 0 0], .string ⟨#[]⟩] rfl (by kernel_rfl) (by kernel_rfl) (by kernel_rfl)
      (OpenSpec.preRow_of_cond 8 hx (by kernel_rfl) (fun k hk => by cases hk; kernel_rfl) (by kernel_rfl) (zzTexts_met os))) ?_
  intro W base args ds gs before hval hW _ hcond _ hL _ _
  exact zzTexts_contract H enc W base args ds gs before hval hW (hcond _ rfl) hL
theorem zzTexts_said : Rows.ZzTextsUptoSaid :=
  OpenClaim.holds_of_cond 3 Tryd.f3 rfl rfl rfl rfl rfl rfl rfl ⟨rfl, rfl, rfl, rfl, rfl⟩ rfl rfl rfl rfl rfl (by kernel_rfl) Tryd.func3 (by kernel_rfl)
    (of_decide_eq_true (by kernel_rfl)) (by unfold Func.isWrapper; first | (rw [if_pos (by decide +kernel)]; kernel_rfl) | (rw [if_neg (by decide +kernel)]; exact ⟨rfl, rfl⟩))
    (fun os started H enc _ F => by rw [OpenClaim.pre_eq_preRow]; exact zzTexts_lifted os started H enc F)
theorem zzTexts_plain (f : FuncId) (fn : Func) (hf : Tryd.pinned.checked.prog.funcNamed "surd/surdlaw07.ZzTexts" = some f) (hfn : Tryd.pinned.checked.prog.funcs[f]? = some fn) :
    false = Tryd.pinned.checked.prog.looks [] ∧ ∀ (j : Nat) t, fn.params[j]? = some t → Tryd.pinned.checked.prog.wantsStandIn t = false := by
  obtain rfl : f = 3 := Option.some.inj ((show Tryd.prog.funcNamed "surd/surdlaw07.ZzTexts" = some 3 by kernel_rfl).symm.trans hf) |>.symm
  obtain rfl : fn = Tryd.f3 := (Option.some.inj (Tryd.func3.symm.trans hfn)).symm
  refine ⟨by kernel_rfl, fun j t ht => ?_⟩
  rw [Tryd.params3] at ht
  have hm : t ∈ ([25, 9] : List TypeId) := by simpa using Array.mem_of_getElem? ht
  have h : ([25, 9].all fun t => !Tryd.prog.wantsStandIn t) = true := by kernel_rfl
  show Tryd.prog.wantsStandIn t = false
  simpa using List.all_eq_true.1 h t hm
theorem zzTexts_proved : Rows.ZzTextsUptoCardSaid :=
  Claim7.holds_tied_plain_at .later [] _ _ _ _ zzTexts_said (fun _ h => by cases h) (by kernel_rfl) (fun _ h => by cases h) zzTextsUpto_row_tie rfl ⟨rfl, rfl⟩ (by kernel_rfl) rfl zzTexts_plain (by kernel_rfl)
end Go.Proofs.YtgbcjikcgckhbaaDoor
