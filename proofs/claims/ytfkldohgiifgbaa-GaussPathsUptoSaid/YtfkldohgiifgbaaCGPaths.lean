/-
  GaussPaths: the statement (where what is handed in is of bulk at most 1048576).
-/
import Derived.Test.YtfkldohgiifgbaaLGPaths
import Derived.Test.YtfkldohgiifgbaaGArgs
import Derived.WalkKit
namespace Go.Proofs.Ytfkldohgiifgbaa
open Go Go.ChangeShapes Go.WideShapes Go.ChangeAt Go.RowKit Ab
set_option linter.unusedSimpArgs false
set_option linter.unusedVariables false
set_option maxHeartbeats 10000000
set_option maxRecDepth 100000 in
theorem gaussPaths_contract (H : Type) (enc : TypeId × Value → H) (Wo : World) (base : Nat) (args : Array Value) (ds gs : List (DataW H)) (before : List MemPlace)
    (hval : ∀ (j : Nat) t v, Try.f6.params[j]? = some t → args[j]? = some v → Value.okWide Try.prog Wo .any base t v)
    (hW : DataW.Whole enc Try.prog Try.f6.params.toList Rows.gaussPathsSpec.vars false Wo args.toList ds gs before) (hk : Rows.uptoSmall H (ds ++ gs) = true) :
    Calls Try.prog 6 args Wo fun e W' => ∃ v, e = .returned v ∧ Rows.gaussPathsSpec.post enc Try.prog Try.f6 false true false false Wo args v W' := by
  refine law_contract (J := J0) (fun _ => trivial) laid rfl (by decide +kernel) rfl Try.underlying4 [(24, false, QNs), (3, false, QInt .i64)] rfl ⟨⟨opens_ns, rfl⟩, ⟨opens_int Try.underlying3, rfl⟩, trivial⟩ (fun ds h => match ds, h with | [_, _], _ => rfl) hval hW fun av n hq hn => ?_
  obtain ⟨a0, av0, x0, n0, m0, rfl, h0, e0, hq, rfl⟩ := hq
  replace e0 : x0 = [a0] := e0
  subst e0
  obtain ⟨a1, av1, x1, n1, m1, rfl, h1, e1, hq, rfl⟩ := hq
  replace e1 : x1 = [a1] := e1
  subst e1
  obtain ⟨rfl, rfl⟩ := hq
  have hsm : Rows.uptoBulkAll (ds ++ gs) ≤ 1048576 := by simpa only [Rows.uptoSmall, decide_eq_true_eq] using hk
  obtain ⟨zs, e0, lz, hz⟩ := QNs_L h0
  cases e0
  obtain ⟨k, e1, hk, _⟩ := h1
  cases e1
  exact gaussPaths_spec zs k (by omega) (wf64 hk)
set_option maxRecDepth 100000 in
theorem gaussPaths_lifted (os : Os) (started : os.Started) (H : Type) (enc : TypeId × Value → H) (F : Stop.Interp) :
    ReturnsInHanded {} Try.checked os 6 .any ((Rows.OpenSpec.upto Rows.gaussPathsSpec).pre6 enc Try.prog Try.f6 Rows.gaussPathsUptoRow.domain false) (((Rows.OpenSpec.upto Rows.gaussPathsSpec).at F).post enc Try.prog Try.f6 false true false false) := by
  refine returnsInHanded_of_cond (C := Try.checked) (s := Rows.OpenSpec.upto Rows.gaussPathsSpec) (k := Rows.uptoSmall) rfl own started (by kernel_rfl) Try.func6
    (OpenSpec.witness (enc := enc) (C := Try.checked) (s := Rows.OpenSpec.upto Rows.gaussPathsSpec) (k := Rows.uptoSmall) rfl false ⟨#[], #[.slice none 0 0, .int .i64 0], []⟩ 8 (by kernel_rfl) (by kernel_rfl) (by kernel_rfl)
      (x := ([.nil, .lit (.int .i64 0)], [], [])) (by kernel_rfl) rfl (by kernel_rfl)) ?_
  intro Wo base args ds gs before hval hW _ hk _
  exact gaussPaths_contract H enc Wo base args ds gs before hval hW hk
theorem gaussPaths_over : Rows.gaussPathsUptoRow.holds Try.pinned (Rows.OpenSpec.upto Rows.gaussPathsSpec) :=
  OpenClaim.holds_of_cond 6 Try.f6 rfl rfl rfl rfl rfl rfl rfl ⟨rfl, rfl, rfl, rfl, rfl⟩ rfl rfl rfl rfl rfl (by kernel_rfl) Try.func6 (by kernel_rfl)
    (of_decide_eq_true (by kernel_rfl)) (by unfold Func.isWrapper; first | (rw [if_pos (by decide +kernel)]; kernel_rfl) | (rw [if_neg (by decide +kernel)]; exact ⟨rfl, rfl⟩))
    (fun os started H enc _ F => gaussPaths_lifted os started H enc F)
theorem gaussPaths_proved : Rows.GaussPathsUptoSaid := gaussPaths_over
end Go.Proofs.Ytfkldohgiifgbaa
