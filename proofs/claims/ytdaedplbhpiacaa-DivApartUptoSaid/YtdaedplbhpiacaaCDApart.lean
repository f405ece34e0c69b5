/-
  DivApart: the statement (where what is handed in is of bulk at most 1048576).
-/
import Derived.Test.YtdaedplbhpiacaaDQ13
import Derived.Test.YtdaedplbhpiacaaGI
import Derived.WalkKit
namespace Go.Proofs.Ytdaedplbhpiacaa
open Go Go.ChangeShapes Go.WideShapes Go.ChangeAt Go.RowKit Ab
set_option linter.unusedSimpArgs false
set_option linter.unusedVariables false
set_option maxHeartbeats 10000000
set_option maxRecDepth 100000 in
theorem divApart_contract (H : Type) (enc : TypeId × Value → H) (Wo : World) (base : Nat) (args : Array Value) (ds gs : List (DataW H)) (before : List MemPlace)
    (hval : ∀ (j : Nat) t v, Try.f3.params[j]? = some t → args[j]? = some v → Value.okWide Try.prog Wo .any base t v)
    (hW : DataW.Whole enc Try.prog Try.f3.params.toList Rows.divApartSpec.vars false Wo args.toList ds gs before) (hk : Rows.uptoSmall H (ds ++ gs) = true) :
    Calls Try.prog 3 args Wo fun e W' => ∃ v, e = .returned v ∧ Rows.divApartSpec.post enc Try.prog Try.f3 false true false false Wo args v W' := by
  refine law_contract (J := J0) (fun _ => trivial) (tj_none fun _ => rfl) laid rfl (by decide +kernel) rfl Try.underlying4 [(23, false, QNat), (23, false, QNat), (24, false, QInt .u64)] rfl ⟨⟨opens_nat, rfl⟩, ⟨opens_nat, rfl⟩, ⟨opens_int Try.underlying24, rfl⟩, trivial⟩ (fun ds h => match ds, h with | [_, _, _], _ => rfl) hval hW fun av n hq hn => ?_
  obtain ⟨a0, av0, x0, n0, m0, rfl, h0, e0, hq, rfl⟩ := hq
  replace e0 : x0 = [a0] := e0
  subst e0
  obtain ⟨a1, av1, x1, n1, m1, rfl, h1, e1, hq, rfl⟩ := hq
  replace e1 : x1 = [a1] := e1
  subst e1
  obtain ⟨a2, av2, x2, n2, m2, rfl, h2, e2, hq, rfl⟩ := hq
  replace e2 : x2 = [a2] := e2
  subst e2
  obtain ⟨rfl, rfl⟩ := hq
  have hsm : Rows.uptoBulkAll (ds ++ gs) ≤ 1048576 := by simpa only [Rows.uptoSmall, decide_eq_true_eq] using hk
  obtain ⟨a, e0, wa, la⟩ := QNat_W h0
  obtain ⟨b, e1, wb, lb⟩ := QNat_W h1
  obtain ⟨n, e2, hn, _⟩ := h2
  cases e0; cases e1; cases e2
  obtain ⟨k1, k2⟩ := wfu64 hn
  obtain ⟨w, rfl⟩ : ∃ w : Nat, n = (w : Int) := ⟨n.toNat, by omega⟩
  exact divApart_spec a b w wa wb (by omega) (by omega) (by omega)
set_option maxRecDepth 100000 in
theorem divApart_lifted (os : Os) (started : os.Started) (H : Type) (enc : TypeId × Value → H) (F : Stop.Interp) :
    ReturnsInHanded {} Try.checked os 3 .any ((Rows.OpenSpec.upto Rows.divApartSpec).pre6 enc Try.prog Try.f3 Rows.divApartUptoRow.domain false) (((Rows.OpenSpec.upto Rows.divApartSpec).at F).post enc Try.prog Try.f3 false true false false) := by
  refine returnsInHanded_of_cond (C := Try.checked) (s := Rows.OpenSpec.upto Rows.divApartSpec) (k := Rows.uptoSmall) rfl own started (by kernel_rfl) Try.func3
    (OpenSpec.witness (enc := enc) (C := Try.checked) (s := Rows.OpenSpec.upto Rows.divApartSpec) (k := Rows.uptoSmall) rfl false ⟨#[], #[.slice none 0 0, .slice none 0 0, .int .u64 0], []⟩ 8 (by kernel_rfl) (by kernel_rfl) (by kernel_rfl)
      (x := ([.nil, .nil, .lit (.int .u64 0)], [], [])) (by kernel_rfl) rfl (by kernel_rfl)) ?_
  intro Wo base args ds gs before hval hW _ hk _
  exact divApart_contract H enc Wo base args ds gs before hval hW hk
theorem divApart_over : Rows.divApartUptoRow.holds Try.pinned (Rows.OpenSpec.upto Rows.divApartSpec) :=
  OpenClaim.holds_of_cond 3 Try.f3 rfl rfl rfl rfl rfl rfl rfl ⟨rfl, rfl, rfl, rfl, rfl⟩ rfl rfl rfl rfl rfl (by kernel_rfl) Try.func3 (by kernel_rfl)
    (of_decide_eq_true (by kernel_rfl)) (by unfold Func.isWrapper; first | (rw [if_pos (by decide +kernel)]; kernel_rfl) | (rw [if_neg (by decide +kernel)]; exact ⟨rfl, rfl⟩))
    (fun os started H enc _ F => divApart_lifted os started H enc F)
theorem divApart_proved : Rows.DivApartUptoSaid := divApart_over
end Go.Proofs.Ytdaedplbhpiacaa
