/-
  SurdField: the statement (where what is handed in is of bulk at most 1048576).
-/
import Derived.Test.YtgejbndgakgfnaaGreatDoorSF1
import Derived.Test.YtgejbndgakgfnaaGreatDoorQArgs
import Derived.Test.YtgejbndgakgfnaaGreatDoorDoor
import Derived.WalkKit
namespace Go.Proofs.YtgejbndgakgfnaaGreatDoor
open Go Go.ChangeShapes Go.WideShapes Go.ChangeAt Go.RowKit Ab
set_option linter.unusedSimpArgs false
set_option linter.unusedVariables false
set_option maxHeartbeats 10000000
set_option maxRecDepth 100000 in
theorem surdField_contract (H : Type) (enc : TypeId × Value → H) (Wo : World) (base : Nat) (args : Array Value) (ds gs : List (DataW H)) (before : List MemPlace)
    (hval : ∀ (j : Nat) t v, Tryz.f3.params[j]? = some t → args[j]? = some v → Value.okWide Tryz.prog Wo .any base t v)
    (hW : DataW.Whole enc Tryz.prog Tryz.f3.params.toList Rows.surdFieldSpec.vars false Wo args.toList ds gs before) (hk : Rows.uptoSmall H (ds ++ gs) = true) (hL : laidMetH Tryz.prog Rows.surdFieldUptoRow.laid Wo) :
    Calls Tryz.prog 3 args Wo fun e W' => ∃ v, e = .returned v ∧ Rows.surdFieldSpec.post enc Tryz.prog Tryz.f3 false true false false Wo args v W' := by
  have hL' : laidMet Tryz.prog Rows.surdFieldUptoRow.laid Wo := hL
  refine law_contract (J := J0) (fun _ => trivial) (tj_laid hL' (by first | exact List.mem_cons_self | exact List.mem_cons_of_mem _ List.mem_cons_self | exact List.mem_cons_of_mem _ (List.mem_cons_of_mem _ List.mem_cons_self))) laid rfl (by decide +kernel) rfl Tryz.underlying4 [(27, true, QRat), (27, true, QRat), (27, true, QRat)] rfl ⟨⟨opens_rat, rfl⟩, ⟨opens_rat, rfl⟩, ⟨opens_rat, rfl⟩, trivial⟩ (fun ds h => match ds, h with | [_, _, _], _ => rfl) hval hW fun av n hq hn => ?_
  obtain ⟨a0, av0, x0, n0, m0, rfl, h0, e0, hq, rfl⟩ := hq
  replace e0 : a0 = .g x0 := e0
  subst e0
  obtain ⟨a1, av1, x1, n1, m1, rfl, h1, e1, hq, rfl⟩ := hq
  replace e1 : a1 = .g x1 := e1
  subst e1
  obtain ⟨a2, av2, x2, n2, m2, rfl, h2, e2, hq, rfl⟩ := hq
  replace e2 : a2 = .g x2 := e2
  subst e2
  obtain ⟨rfl, rfl⟩ := hq
  have hsm : Rows.uptoBulkAll (ds ++ gs) ≤ 1048576 := by simpa only [Rows.uptoSmall, decide_eq_true_eq] using hk
  obtain ⟨s, a, d, e0, wa, wd, la, ld⟩ := QRat_L h0
  obtain ⟨t, b, e, e1, wb, we, lb, le⟩ := QRat_L h1
  obtain ⟨r, c, f, e2, wc, wf, lc, lf⟩ := QRat_L h2
  subst e0 e1 e2
  exact surdField_spec s t r a b c d e f 1048577 (by decide) (by decide) wa wb wc wd we wf (by omega) (by omega) (by omega) (by omega) (by omega) (by omega)
def wtab_4 : List Int := Go.Pinned.utf8FirstZ.map fun n : Nat => (n : Int)
def wtab_5 : List Int := [128, 191, 160, 191, 128, 159, 144, 191, 128, 143, 0, 0, 0, 0, 0, 0, 0, 0, 0, 0, 0, 0, 0, 0, 0, 0, 0, 0, 0, 0, 0, 0]
noncomputable def surdField_world (os : Os) : World :=
  { World.holding Tryz.prog os ⟨#[], #[], []⟩ with heap := ((((World.holding Tryz.prog os ⟨#[], #[], []⟩).heap.modify 0 fun
      | .cells _ t frozen => .cells (tabi_0.map fun n => Value.int .u8 n).toArray t frozen
      | o => o).modify 4 fun
      | .cells _ t frozen => .cells (wtab_4.map fun n => Value.int .u8 n).toArray t frozen
      | o => o).modify 5 fun
      | .cells _ t frozen => .cells (wtab_5.map fun n => Value.int .u8 n).toArray t frozen
      | o => o) }
theorem surdField_met (os : Os) : laidMet Tryz.prog Rows.surdFieldUptoRow.laid ((surdField_world os).forCall (fun _ _ => 0) ⟨#[], #[.agg #[.bool false, .slice none 0 0, .slice none 0 0], .agg #[.bool false, .slice none 0 0, .slice none 0 0], .agg #[.bool false, .slice none 0 0, .slice none 0 0]], []⟩).memory :=
  laidMet_of_run' 8 (by kernel_rfl) (by kernel_rfl)
theorem surdField_reads (os : Os) {H : Type} (enc : TypeId × Value → H) : ∃ places, DataW.whole enc Tryz.prog ((surdField_world os).forCall (fun _ _ => 0) ⟨#[], #[.agg #[.bool false, .slice none 0 0, .slice none 0 0], .agg #[.bool false, .slice none 0 0, .slice none 0 0], .agg #[.bool false, .slice none 0 0, .slice none 0 0]], []⟩).memory Tryz.f3.params.toList Rows.surdFieldSpec.vars false (#[.agg #[.bool false, .slice none 0 0, .slice none 0 0], .agg #[.bool false, .slice none 0 0, .slice none 0 0], .agg #[.bool false, .slice none 0 0, .slice none 0 0]] : Array Value).toList 8 = some ([.agg [.agg [.lit (.bool false), .nil], .nil], .agg [.agg [.lit (.bool false), .nil], .nil], .agg [.agg [.lit (.bool false), .nil], .nil]], [], places) :=
  ⟨[], by kernel_rfl⟩
set_option maxRecDepth 100000 in
theorem surdField_lifted (os : Os) (started : os.Started) (H : Type) (enc : TypeId × Value → H) (F : Stop.Interp) :
    ReturnsInHanded {} Tryz.checked os 3 .any ((Rows.OpenSpec.upto Rows.surdFieldSpec).preRow enc Tryz.prog Tryz.f3 Rows.surdFieldUptoRow.domain false Rows.surdFieldUptoRow.laid) (((Rows.OpenSpec.upto Rows.surdFieldSpec).at F).post enc Tryz.prog Tryz.f3 false true false false) := by
  obtain ⟨places, hx⟩ := surdField_reads os enc
  refine returnsInHanded_of_row (C := Tryz.checked) (s := Rows.OpenSpec.upto Rows.surdFieldSpec) own started (by kernel_rfl) Tryz.func3
    (witness_row_at (enc := enc) (C := Tryz.checked) false (surdField_world os) #[.agg #[.bool false, .slice none 0 0, .slice none 0 0], .agg #[.bool false, .slice none 0 0, .slice none 0 0], .agg #[.bool false, .slice none 0 0, .slice none 0 0]] rfl (by kernel_rfl) (by kernel_rfl) (by kernel_rfl)
      (OpenSpec.preRow_of_cond 8 hx (by kernel_rfl) (fun k hk => by cases hk; kernel_rfl) (by kernel_rfl) (surdField_met os))) ?_
  intro W base args ds gs before hval hW _ hcond _ hL _ _
  exact surdField_contract H enc W base args ds gs before hval hW (hcond _ rfl) hL
theorem surdField_said : Rows.SurdFieldUptoSaid :=
  OpenClaim.holds_of_cond 3 Tryz.f3 rfl rfl rfl rfl rfl rfl rfl ⟨rfl, rfl, rfl, rfl, rfl⟩ rfl rfl rfl rfl rfl (by kernel_rfl) Tryz.func3 (by kernel_rfl)
    (of_decide_eq_true (by kernel_rfl)) (by unfold Func.isWrapper; first | (rw [if_pos (by decide +kernel)]; kernel_rfl) | (rw [if_neg (by decide +kernel)]; exact ⟨rfl, rfl⟩))
    (fun os started H enc _ F => by rw [OpenClaim.pre_eq_preRow]; exact surdField_lifted os started H enc F)
theorem surdField_plain (f : FuncId) (fn : Func) (hf : Tryz.pinned.checked.prog.funcNamed "surd/surdtop.SurdField" = some f) (hfn : Tryz.pinned.checked.prog.funcs[f]? = some fn) :
    false = Tryz.pinned.checked.prog.looks [] ∧ ∀ (j : Nat) t, fn.params[j]? = some t → Tryz.pinned.checked.prog.wantsStandIn t = false := by
  obtain rfl : f = 3 := Option.some.inj ((show Tryz.prog.funcNamed "surd/surdtop.SurdField" = some 3 by kernel_rfl).symm.trans hf) |>.symm
  obtain rfl : fn = Tryz.f3 := (Option.some.inj (Tryz.func3.symm.trans hfn)).symm
  refine ⟨by kernel_rfl, fun j t ht => ?_⟩
  rw [Tryz.params3] at ht
  have hm : t ∈ ([27, 27, 27] : List TypeId) := by simpa using Array.mem_of_getElem? ht
  have h : ([27, 27, 27].all fun t => !Tryz.prog.wantsStandIn t) = true := by kernel_rfl
  show Tryz.prog.wantsStandIn t = false
  simpa using List.all_eq_true.1 h t hm
theorem surdField_proved : Rows.SurdFieldUptoCardSaid :=
  Claim7.holds_tied_plain_at .later [] _ _ _ _ surdField_said (fun _ h => by cases h) (by kernel_rfl) (fun _ h => by cases h) surdFieldUpto_row_tie rfl ⟨rfl, rfl⟩ (by kernel_rfl) rfl surdField_plain (by kernel_rfl)
end Go.Proofs.YtgejbndgakgfnaaGreatDoor
