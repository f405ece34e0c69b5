/-
  QqTexts: the statement (where what is handed in is of bulk at most 1048576).
-/
import Derived.Test.YthldhonccnajoaaGreatDoorLQTexts
import Derived.Test.YthldhonccnajoaaGreatDoorQCase
import Derived.WalkKit
namespace Go.Proofs.YthldhonccnajoaaGreatDoor
open Go Go.ChangeShapes Go.WideShapes Go.ChangeAt Go.RowKit Ab
set_option linter.unusedSimpArgs false
set_option linter.unusedVariables false
set_option maxHeartbeats 10000000
theorem QCase_LS {xs : List V} {n : Nat} (h : QCase xs n) : ∃ (s0 s1 s2 s3 s4 : Bool) (a0 d0 a1 d1 a2 d2 a3 a4 : List Nat) (i m k : Int) (l : List (Bool × List Nat × List Nat)) (st : List UInt8),
    V.g xs = caseV s0 s1 s2 s3 s4 a0 d0 a1 d1 a2 d2 a3 a4 i m k l st ∧ Wd a0 ∧ Wd d0 ∧ Wd a1 ∧ Wd d1 ∧ st.length ≤ n := by
  obtain ⟨x1, x2, x3, x4, x5, x6, x7, x8, x9, x10, n1, n2, n3, n4, n5, n6, n7, n8, n9, n10, rfl, q1, q2, q3, q4, q5, ⟨i, rfl, wi1, _⟩, ⟨m, rfl, wm1, _⟩, ⟨k, rfl, wk1, _⟩, q9, ⟨st, rfl, _, hn⟩, hs⟩ := h
  obtain ⟨s0, a0, d0, rfl, wa0, wd0, _⟩ := QRat_L q1
  obtain ⟨s1, a1, d1, rfl, wa1, wd1, _⟩ := QRat_L q2
  obtain ⟨s2, a2, d2, rfl, wa2, wd2, _⟩ := QRat_L q3
  obtain ⟨s3, a3, e3, wa3, _⟩ := QZ_L q4
  obtain ⟨s4, a4, e4, wa4, _⟩ := QZ_L q5
  obtain ⟨l, rfl, _, hl⟩ := QRats_L q9
  injection e3 with e3
  injection e4 with e4
  subst e3 e4
  exact ⟨s0, s1, s2, s3, s4, a0, d0, a1, d1, a2, d2, a3, a4, i, m, k, l, st, rfl, wa0, wd0, wa1, wd1, by omega⟩
set_option maxRecDepth 100000 in
theorem qqTexts_contract (H : Type) (enc : TypeId × Value → H) (Wo : World) (base : Nat) (args : Array Value) (ds gs : List (DataW H)) (before : List MemPlace)
    (hval : ∀ (j : Nat) t v, Tryz.f3.params[j]? = some t → args[j]? = some v → Value.okWide Tryz.prog Wo .any base t v)
    (hW : DataW.Whole enc Tryz.prog Tryz.f3.params.toList Rows.qqTextsSpec.vars false Wo args.toList ds gs before) (hk : Rows.uptoSmall H (ds ++ gs) = true) (hL : laidMetH Tryz.prog Rows.qqTextsUptoRow.laid Wo) :
    Calls Tryz.prog 3 args Wo fun e W' => ∃ v, e = .returned v ∧ Rows.qqTextsSpec.post enc Tryz.prog Tryz.f3 false true false false Wo args v W' := by
  have hL' : laidMet Tryz.prog Rows.qqTextsUptoRow.laid Wo := hL
  refine law_contract (J := J0) (fun _ => trivial) (tj_laid hL' (by first | exact List.mem_cons_self | exact List.mem_cons_of_mem _ List.mem_cons_self | exact List.mem_cons_of_mem _ (List.mem_cons_of_mem _ List.mem_cons_self))) laid rfl (by decide +kernel) rfl Tryz.underlying4 [(30, true, QCase)] rfl ⟨⟨opens_case, rfl⟩, trivial⟩ (fun ds h => match ds, h with | [_], _ => rfl) hval hW fun av n hq hn => ?_
  obtain ⟨a0, av0, x0, n0, m0, rfl, h0, e0, hq, rfl⟩ := hq
  replace e0 : a0 = .g x0 := e0
  subst e0
  obtain ⟨rfl, rfl⟩ := hq
  have hsm : Rows.uptoBulkAll (ds ++ gs) ≤ 1048576 := by simpa only [Rows.uptoSmall, decide_eq_true_eq] using hk
  obtain ⟨s0, s1, s2, s3, s4, a0, d0, a1, d1, a2, d2, a3, a4, i, m, k, l, st, e, wa0, wd0, wa1, wd1, hst⟩ := QCase_LS h0
  rw [e]
  exact qqTexts_spec s0 s1 s2 s3 s4 a0 d0 a1 d1 a2 d2 a3 a4 i m k l st wa0 wd0 wa1 wd1 (by omega)
def wtab_2 : List Int := Go.Pinned.utf8FirstZ.map fun n : Nat => (n : Int)
def wtab_3 : List Int := [128, 191, 160, 191, 128, 159, 144, 191, 128, 143, 0, 0, 0, 0, 0, 0, 0, 0, 0, 0, 0, 0, 0, 0, 0, 0, 0, 0, 0, 0, 0, 0]
noncomputable def qqTexts_world (os : Os) : World :=
  { World.holding Tryz.prog os ⟨#[], #[], []⟩ with heap := ((((World.holding Tryz.prog os ⟨#[], #[], []⟩).heap.modify 0 fun
      | .cells _ t frozen => .cells (tabi_0.map fun n => Value.int .u8 n).toArray t frozen
      | o => o).modify 2 fun
      | .cells _ t frozen => .cells (wtab_2.map fun n => Value.int .u8 n).toArray t frozen
      | o => o).modify 3 fun
      | .cells _ t frozen => .cells (wtab_3.map fun n => Value.int .u8 n).toArray t frozen
      | o => o) }
theorem qqTexts_met (os : Os) : laidMet Tryz.prog Rows.qqTextsUptoRow.laid ((qqTexts_world os).forCall (fun _ _ => 0) ⟨#[], #[.agg #[.bool false, .slice none 0 0, .slice none 0 0, .bool false, .slice none 0 0, .slice none 0 0, .bool false, .slice none 0 0, .slice none 0 0, .bool false, .slice none 0 0, .bool false, .slice none 0 0, .int .i64 0, .int .i64 0, .int .i64 0, .slice none 0 0, .string ⟨#[]⟩]], []⟩).memory :=
  laidMet_of_run' 8 (by kernel_rfl) (by kernel_rfl)
theorem qqTexts_reads (os : Os) {H : Type} (enc : TypeId × Value → H) : ∃ places, DataW.whole enc Tryz.prog ((qqTexts_world os).forCall (fun _ _ => 0) ⟨#[], #[.agg #[.bool false, .slice none 0 0, .slice none 0 0, .bool false, .slice none 0 0, .slice none 0 0, .bool false, .slice none 0 0, .slice none 0 0, .bool false, .slice none 0 0, .bool false, .slice none 0 0, .int .i64 0, .int .i64 0, .int .i64 0, .slice none 0 0, .string ⟨#[]⟩]], []⟩).memory Tryz.f3.params.toList Rows.qqTextsSpec.vars false (#[.agg #[.bool false, .slice none 0 0, .slice none 0 0, .bool false, .slice none 0 0, .slice none 0 0, .bool false, .slice none 0 0, .slice none 0 0, .bool false, .slice none 0 0, .bool false, .slice none 0 0, .int .i64 0, .int .i64 0, .int .i64 0, .slice none 0 0, .string ⟨#[]⟩]] : Array Value).toList 8 = some ([.agg [.agg [.agg [.lit (.bool false), .nil], .nil], .agg [.agg [.lit (.bool false), .nil], .nil], .agg [.agg [.lit (.bool false), .nil], .nil], .agg [.lit (.bool false), .nil], .agg [.lit (.bool false), .nil], .lit (.int .i64 0), .lit (.int .i64 0), .lit (.int .i64 0), .nil, .lit (.string [])]], [], places) :=
  ⟨[], by kernel_rfl⟩
set_option maxRecDepth 100000 in
theorem qqTexts_lifted (os : Os) (started : os.Started) (H : Type) (enc : TypeId × Value → H) (F : Stop.Interp) :
    ReturnsInHanded {} Tryz.checked os 3 .any ((Rows.OpenSpec.upto Rows.qqTextsSpec).preRow enc Tryz.prog Tryz.f3 Rows.qqTextsUptoRow.domain false Rows.qqTextsUptoRow.laid) (((Rows.OpenSpec.upto Rows.qqTextsSpec).at F).post enc Tryz.prog Tryz.f3 false true false false) := by
  obtain ⟨places, hx⟩ := qqTexts_reads os enc
  refine returnsInHanded_of_row (C := Tryz.checked) (s := Rows.OpenSpec.upto Rows.qqTextsSpec) own started (by kernel_rfl) Tryz.func3
    (witness_row_at (enc := enc) (C := Tryz.checked) false (qqTexts_world os) #[.agg #[.bool false, .slice none 0 0, .slice none 0 0, .bool false, .slice none 0 0, .slice none 0 0, .bool false, .slice none 0 0, .slice none 0 0, .bool false, .slice none 0 0, .bool false, .slice none 0 0, .int .i64 0, .int .i64 0, .int .i64 0, .slice none 0 0, .string ⟨#[]⟩]] rfl (by kernel_rfl) (by kernel_rfl) (by kernel_rfl)
      (OpenSpec.preRow_of_cond 8 hx (by kernel_rfl) (fun k hk => by cases hk; kernel_rfl) (by kernel_rfl) (qqTexts_met os))) ?_
  intro W base args ds gs before hval hW _ hcond _ hL _ _
  exact qqTexts_contract H enc W base args ds gs before hval hW (hcond _ rfl) hL
theorem qqTexts_said : Rows.QqTextsUptoSaid :=
  OpenClaim.holds_of_cond 3 Tryz.f3 rfl rfl rfl rfl rfl rfl rfl ⟨rfl, rfl, rfl, rfl, rfl⟩ rfl rfl rfl rfl rfl (by kernel_rfl) Tryz.func3 (by kernel_rfl)
    (of_decide_eq_true (by kernel_rfl)) (by unfold Func.isWrapper; first | (rw [if_pos (by decide +kernel)]; kernel_rfl) | (rw [if_neg (by decide +kernel)]; exact ⟨rfl, rfl⟩))
    (fun os started H enc _ F => by rw [OpenClaim.pre_eq_preRow]; exact qqTexts_lifted os started H enc F)
theorem qqTexts_plain (f : FuncId) (fn : Func) (hf : Tryz.pinned.checked.prog.funcNamed "surd/surdlaw08.QqTexts" = some f) (hfn : Tryz.pinned.checked.prog.funcs[f]? = some fn) :
    false = Tryz.pinned.checked.prog.looks [] ∧ ∀ (j : Nat) t, fn.params[j]? = some t → Tryz.pinned.checked.prog.wantsStandIn t = false := by
  obtain rfl : f = 3 := Option.some.inj ((show Tryz.prog.funcNamed "surd/surdlaw08.QqTexts" = some 3 by kernel_rfl).symm.trans hf) |>.symm
  obtain rfl : fn = Tryz.f3 := (Option.some.inj (Tryz.func3.symm.trans hfn)).symm
  refine ⟨by kernel_rfl, fun j t ht => ?_⟩
  rw [Tryz.params3] at ht
  have hm : t ∈ ([30] : List TypeId) := by simpa using Array.mem_of_getElem? ht
  have h : ([30].all fun t => !Tryz.prog.wantsStandIn t) = true := by kernel_rfl
  show Tryz.prog.wantsStandIn t = false
  simpa using List.all_eq_true.1 h t hm
theorem qqTexts_proved : Rows.QqTextsUptoCardSaid :=
  Claim7.holds_tied_plain_at .later [] _ _ _ _ qqTexts_said (fun _ h => by cases h) (by kernel_rfl) (fun _ h => by cases h) qqTextsUpto_row_tie rfl ⟨rfl, rfl⟩ (by kernel_rfl) rfl qqTexts_plain (by kernel_rfl)
end Go.Proofs.YthldhonccnajoaaGreatDoor
