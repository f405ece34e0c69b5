/-
  GaussHomo: the statement.
-/
import Derived.Test.YtfkldohgiifgbaaLGHomo
import Derived.Test.YtfkldohgiifgbaaGArgs3
import Derived.WalkKit
namespace Go.Proofs.Ytfkldohgiifgbaa
open Go Go.ChangeShapes Go.WideShapes Go.ChangeAt Go.RowKit Ab
set_option linter.unusedSimpArgs false
set_option linter.unusedVariables false
set_option maxHeartbeats 10000000
set_option maxRecDepth 100000 in
theorem gaussHomo_contract (H : Type) (enc : TypeId × Value → H) (Wo : World) (base : Nat) (args : Array Value) (ds gs : List (DataW H)) (before : List MemPlace)
    (hval : ∀ (j : Nat) t v, Try.f11.params[j]? = some t → args[j]? = some v → Value.okWide Try.prog Wo .any base t v)
    (hW : DataW.Whole enc Try.prog Try.f11.params.toList Rows.gaussHomoSpec.vars false Wo args.toList ds gs before) :
    Calls Try.prog 11 args Wo fun e W' => ∃ v, e = .returned v ∧ Rows.gaussHomoSpec.post enc Try.prog Try.f11 false true false false Wo args v W' := by
  refine law_contract (J := J0) (fun _ => trivial) laid rfl (by decide +kernel) rfl Try.underlying4 [(23, false, QZs), (23, false, QZs), (27, true, QN)] rfl ⟨⟨opens_zs, rfl⟩, ⟨opens_zs, rfl⟩, ⟨opens_n, rfl⟩, trivial⟩ (fun ds h => match ds, h with | [_, _, _], _ => rfl) hval hW fun av n hq hn => ?_
  obtain ⟨a0, av0, x0, n0, m0, rfl, h0, e0, hq, rfl⟩ := hq
  replace e0 : x0 = [a0] := e0
  subst e0
  obtain ⟨a1, av1, x1, n1, m1, rfl, h1, e1, hq, rfl⟩ := hq
  replace e1 : x1 = [a1] := e1
  subst e1
  obtain ⟨a2, av2, x2, n2, m2, rfl, h2, e2, hq, rfl⟩ := hq
  replace e2 : a2 = .g x2 := e2
  subst e2
  obtain ⟨rfl, rfl⟩ := hq
  obtain ⟨l1, e0, hl1⟩ := QZs_M h0
  cases e0
  obtain ⟨l2, e1, hl2⟩ := QZs_M h1
  cases e1
  obtain ⟨u, e2, hu⟩ := QN_N h2
  rw [e2]
  exact gaussHomo_spec l1 l2 u 9223372036854775807 (Nat.le_refl _) hl1 hl2
set_option maxRecDepth 100000 in
theorem gaussHomo_lifted (os : Os) (started : os.Started) (H : Type) (enc : TypeId × Value → H) :
    ReturnsInHanded {} Try.checked os 11 .any (Rows.gaussHomoSpec.pre6 enc Try.prog Try.f11 Rows.gaussHomoRow.domain false) (Rows.gaussHomoSpec.post enc Try.prog Try.f11 false true false false) := by
  refine returnsInHanded_of_change (C := Try.checked) own started (by kernel_rfl) Try.func11
    (ChangeSpec.witness6 (enc := enc) (C := Try.checked) false ⟨#[], #[.slice none 0 0, .slice none 0 0, .agg #[.int .i64 0, .int .i64 0]], []⟩ 8 (by kernel_rfl) (by kernel_rfl) (by kernel_rfl) (by kernel_rfl)) ?_
  intro Wo base args ds gs before hval hW _ _
  exact gaussHomo_contract H enc Wo base args ds gs before hval hW
theorem gaussHomo_over : Rows.gaussHomoRow.holds Try.pinned (OpenSpec.ofChange Rows.gaussHomoSpec) :=
  OpenClaim.holds_of_wide 11 Try.f11 rfl rfl rfl rfl rfl rfl rfl ⟨rfl, rfl, rfl, rfl, rfl⟩ rfl rfl rfl rfl rfl (by kernel_rfl) Try.func11 (by kernel_rfl)
    (of_decide_eq_true (by kernel_rfl)) (by unfold Func.isWrapper; first | (rw [if_pos (by decide +kernel)]; kernel_rfl) | (rw [if_neg (by decide +kernel)]; exact ⟨rfl, rfl⟩))
    (fun os started H enc _ => gaussHomo_lifted os started H enc)
theorem gaussHomo_proved : Rows.GaussHomoSaid := gaussHomo_over
end Go.Proofs.Ytfkldohgiifgbaa
