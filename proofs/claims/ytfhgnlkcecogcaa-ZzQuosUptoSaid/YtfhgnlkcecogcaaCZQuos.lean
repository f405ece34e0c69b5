/-
  ZzQuos: the statement (where what is handed in is of bulk at most 1048576).
-/
import Derived.Test.YtfhgnlkcecogcaaLZQuos
import Derived.Test.YtfhgnlkcecogcaaZArgs
import Derived.WalkKit
namespace Go.Proofs.Ytfhgnlkcecogcaa
open Go Go.ChangeShapes Go.WideShapes Go.ChangeAt Go.RowKit Ab
set_option linter.unusedSimpArgs false
set_option linter.unusedVariables false
set_option maxHeartbeats 10000000
set_option maxRecDepth 100000 in
theorem zzQuos_contract (H : Type) (enc : TypeId × Value → H) (Wo : World) (base : Nat) (args : Array Value) (ds gs : List (DataW H)) (before : List MemPlace)
    (hval : ∀ (j : Nat) t v, Try.f4.params[j]? = some t → args[j]? = some v → Value.okWide Try.prog Wo .any base t v)
    (hW : DataW.Whole enc Try.prog Try.f4.params.toList Rows.zzQuosSpec.vars false Wo args.toList ds gs before) (hk : Rows.uptoSmall H (ds ++ gs) = true) :
    Calls Try.prog 4 args Wo fun e W' => ∃ v, e = .returned v ∧ Rows.zzQuosSpec.post enc Try.prog Try.f4 false true false false Wo args v W' := by
  refine law_contract (J := J0) (fun _ => trivial) (tj_none fun _ => rfl) laid rfl (by decide +kernel) rfl Try.underlying4 [(30, true, QZ), (30, true, QZ)] rfl ⟨⟨opens_z, rfl⟩, ⟨opens_z, rfl⟩, trivial⟩ (fun ds h => match ds, h with | [_, _], _ => rfl) hval hW fun av n hq hn => ?_
  obtain ⟨a0, av0, x0, n0, m0, rfl, h0, e0, hq, rfl⟩ := hq
  replace e0 : a0 = .g x0 := e0
  subst e0
  obtain ⟨a1, av1, x1, n1, m1, rfl, h1, e1, hq, rfl⟩ := hq
  replace e1 : a1 = .g x1 := e1
  subst e1
  obtain ⟨rfl, rfl⟩ := hq
  have hsm : Rows.uptoBulkAll (ds ++ gs) ≤ 1048576 := by simpa only [Rows.uptoSmall, decide_eq_true_eq] using hk
  obtain ⟨s, a, e0, wa, la⟩ := QZ_L h0
  obtain ⟨t, b, e1, wb, lb⟩ := QZ_L h1
  rw [e0, e1]
  exact zzQuos_spec s t a b 1048576 (by decide) wa wb (by omega) (by omega)
set_option maxRecDepth 100000 in
theorem zzQuos_lifted (os : Os) (started : os.Started) (H : Type) (enc : TypeId × Value → H) (F : Stop.Interp) :
    ReturnsInHanded {} Try.checked os 4 .any ((Rows.OpenSpec.upto Rows.zzQuosSpec).pre6 enc Try.prog Try.f4 Rows.zzQuosUptoRow.domain false) (((Rows.OpenSpec.upto Rows.zzQuosSpec).at F).post enc Try.prog Try.f4 false true false false) := by
  refine returnsInHanded_of_cond (C := Try.checked) (s := Rows.OpenSpec.upto Rows.zzQuosSpec) (k := Rows.uptoSmall) rfl own started (by kernel_rfl) Try.func4
    (OpenSpec.witness (enc := enc) (C := Try.checked) (s := Rows.OpenSpec.upto Rows.zzQuosSpec) (k := Rows.uptoSmall) rfl false ⟨#[], #[.agg #[.bool false, .slice none 0 0], .agg #[.bool false, .slice none 0 0]], []⟩ 8 (by kernel_rfl) (by kernel_rfl) (by kernel_rfl)
      (x := ([.agg [.lit (.bool false), .nil], .agg [.lit (.bool false), .nil]], [], [])) (by kernel_rfl) rfl (by kernel_rfl)) ?_
  intro Wo base args ds gs before hval hW _ hk _
  exact zzQuos_contract H enc Wo base args ds gs before hval hW hk
theorem zzQuos_over : Rows.zzQuosUptoRow.holds Try.pinned (Rows.OpenSpec.upto Rows.zzQuosSpec) :=
  OpenClaim.holds_of_cond 4 Try.f4 rfl rfl rfl rfl rfl rfl rfl ⟨rfl, rfl, rfl, rfl, rfl⟩ rfl rfl rfl rfl rfl (by kernel_rfl) Try.func4 (by kernel_rfl)
    (of_decide_eq_true (by kernel_rfl)) (by unfold Func.isWrapper; first | (rw [if_pos (by decide +kernel)]; kernel_rfl) | (rw [if_neg (by decide +kernel)]; exact ⟨rfl, rfl⟩))
    (fun os started H enc _ F => zzQuos_lifted os started H enc F)
theorem zzQuos_proved : Rows.ZzQuosUptoSaid := zzQuos_over
end Go.Proofs.Ytfhgnlkcecogcaa
