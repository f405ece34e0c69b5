/-
  GaussNums: the statement.
-/
import Derived.Test.YtfkldohgiifgbaaLGFour
import Derived.Test.YtfkldohgiifgbaaGArgs
import Derived.WalkKit
namespace Go.Proofs.Ytfkldohgiifgbaa
open Go Go.ChangeShapes Go.WideShapes Go.ChangeAt Go.RowKit Ab
set_option linter.unusedSimpArgs false
set_option linter.unusedVariables false
set_option maxHeartbeats 10000000
set_option maxRecDepth 100000 in
theorem gaussNums_contract (H : Type) (enc : TypeId × Value → H) (Wo : World) (base : Nat) (args : Array Value) (ds gs : List (DataW H)) (before : List MemPlace)
    (hval : ∀ (j : Nat) t v, Try.f9.params[j]? = some t → args[j]? = some v → Value.okWide Try.prog Wo .any base t v)
    (hW : DataW.Whole enc Try.prog Try.f9.params.toList Rows.gaussNumsSpec.vars false Wo args.toList ds gs before) :
    Calls Try.prog 9 args Wo fun e W' => ∃ v, e = .returned v ∧ Rows.gaussNumsSpec.post enc Try.prog Try.f9 false true false false Wo args v W' := by
  refine law_contract (J := J0) (fun _ => trivial) laid rfl (by decide +kernel) rfl Try.underlying4 [(27, true, QN), (27, true, QN), (3, false, QInt .i64)] rfl ⟨⟨opens_n, rfl⟩, ⟨opens_n, rfl⟩, ⟨opens_int Try.underlying3, rfl⟩, trivial⟩ (fun ds h => match ds, h with | [_, _, _], _ => rfl) hval hW fun av n hq hn => ?_
  obtain ⟨a0, av0, x0, n0, m0, rfl, h0, e0, hq, rfl⟩ := hq
  replace e0 : a0 = .g x0 := e0
  subst e0
  obtain ⟨a1, av1, x1, n1, m1, rfl, h1, e1, hq, rfl⟩ := hq
  replace e1 : a1 = .g x1 := e1
  subst e1
  obtain ⟨a2, av2, x2, n2, m2, rfl, h2, e2, hq, rfl⟩ := hq
  replace e2 : x2 = [a2] := e2
  subst e2
  obtain ⟨rfl, rfl⟩ := hq
  obtain ⟨a, e0, ha⟩ := QN_N h0
  obtain ⟨b, e1, hb⟩ := QN_N h1
  obtain ⟨n, e2, hn, _⟩ := h2
  cases e2
  rw [e0, e1]
  exact gaussNums_spec a b n ha hb (wf64 hn)
set_option maxRecDepth 100000 in
theorem gaussNums_lifted (os : Os) (started : os.Started) (H : Type) (enc : TypeId × Value → H) :
    ReturnsInHanded {} Try.checked os 9 .any (Rows.gaussNumsSpec.pre6 enc Try.prog Try.f9 Rows.gaussNumsRow.domain false) (Rows.gaussNumsSpec.post enc Try.prog Try.f9 false true false false) := by
  refine returnsInHanded_of_change (C := Try.checked) own started (by kernel_rfl) Try.func9
    (ChangeSpec.witness6 (enc := enc) (C := Try.checked) false ⟨#[], #[.agg #[.int .i64 0, .int .i64 0], .agg #[.int .i64 0, .int .i64 0], .int .i64 0], []⟩ 8 (by kernel_rfl) (by kernel_rfl) (by kernel_rfl) (by kernel_rfl)) ?_
  intro Wo base args ds gs before hval hW _ _
  exact gaussNums_contract H enc Wo base args ds gs before hval hW
theorem gaussNums_over : Rows.gaussNumsRow.holds Try.pinned (OpenSpec.ofChange Rows.gaussNumsSpec) :=
  OpenClaim.holds_of_wide 9 Try.f9 rfl rfl rfl rfl rfl rfl rfl ⟨rfl, rfl, rfl, rfl, rfl⟩ rfl rfl rfl rfl rfl (by kernel_rfl) Try.func9 (by kernel_rfl)
    (of_decide_eq_true (by kernel_rfl)) (by unfold Func.isWrapper; first | (rw [if_pos (by decide +kernel)]; kernel_rfl) | (rw [if_neg (by decide +kernel)]; exact ⟨rfl, rfl⟩))
    (fun os started H enc _ => gaussNums_lifted os started H enc)
theorem gaussNums_proved : Rows.GaussNumsSaid := gaussNums_over
end Go.Proofs.Ytfkldohgiifgbaa
