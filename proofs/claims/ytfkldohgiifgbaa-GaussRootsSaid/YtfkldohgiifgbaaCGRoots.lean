/-
  GaussRoots: the statement.
-/
import Derived.Test.YtfkldohgiifgbaaLGRoots
import Derived.Test.YtfkldohgiifgbaaGArgs2
import Derived.WalkKit
namespace Go.Proofs.Ytfkldohgiifgbaa
open Go Go.ChangeShapes Go.WideShapes Go.ChangeAt Go.RowKit Ab
set_option linter.unusedSimpArgs false
set_option linter.unusedVariables false
set_option maxHeartbeats 10000000
set_option maxRecDepth 100000 in
theorem gaussRoots_contract (H : Type) (enc : TypeId × Value → H) (Wo : World) (base : Nat) (args : Array Value) (ds gs : List (DataW H)) (before : List MemPlace)
    (hval : ∀ (j : Nat) t v, Try.f7.params[j]? = some t → args[j]? = some v → Value.okWide Try.prog Wo .any base t v)
    (hW : DataW.Whole enc Try.prog Try.f7.params.toList Rows.gaussRootsSpec.vars false Wo args.toList ds gs before) :
    Calls Try.prog 7 args Wo fun e W' => ∃ v, e = .returned v ∧ Rows.gaussRootsSpec.post enc Try.prog Try.f7 false true false false Wo args v W' := by
  refine law_contract (J := J0) (fun _ => trivial) laid rfl (by decide +kernel) rfl Try.underlying4 [(58, false, QIs), (3, false, QInt .i64), (3, false, QInt .i64)] rfl ⟨⟨opens_is, rfl⟩, ⟨opens_int Try.underlying3, rfl⟩, ⟨opens_int Try.underlying3, rfl⟩, trivial⟩ (fun ds h => match ds, h with | [_, _, _], _ => rfl) hval hW fun av n hq hn => ?_
  obtain ⟨a0, av0, x0, n0, m0, rfl, h0, e0, hq, rfl⟩ := hq
  replace e0 : x0 = [a0] := e0
  subst e0
  obtain ⟨a1, av1, x1, n1, m1, rfl, h1, e1, hq, rfl⟩ := hq
  replace e1 : x1 = [a1] := e1
  subst e1
  obtain ⟨a2, av2, x2, n2, m2, rfl, h2, e2, hq, rfl⟩ := hq
  replace e2 : x2 = [a2] := e2
  subst e2
  obtain ⟨rfl, rfl⟩ := hq
  obtain ⟨cs, e0, lz⟩ := QIs_M h0
  cases e0
  obtain ⟨m, e1, hm, _⟩ := h1
  cases e1
  obtain ⟨r, e2, hr, _⟩ := h2
  cases e2
  exact gaussRoots_spec cs m r lz
set_option maxRecDepth 100000 in
theorem gaussRoots_lifted (os : Os) (started : os.Started) (H : Type) (enc : TypeId × Value → H) :
    ReturnsInHanded {} Try.checked os 7 .any (Rows.gaussRootsSpec.pre6 enc Try.prog Try.f7 Rows.gaussRootsRow.domain false) (Rows.gaussRootsSpec.post enc Try.prog Try.f7 false true false false) := by
  refine returnsInHanded_of_change (C := Try.checked) own started (by kernel_rfl) Try.func7
    (ChangeSpec.witness6 (enc := enc) (C := Try.checked) false ⟨#[], #[.slice none 0 0, .int .i64 0, .int .i64 0], []⟩ 8 (by kernel_rfl) (by kernel_rfl) (by kernel_rfl) (by kernel_rfl)) ?_
  intro Wo base args ds gs before hval hW _ _
  exact gaussRoots_contract H enc Wo base args ds gs before hval hW
theorem gaussRoots_over : Rows.gaussRootsRow.holds Try.pinned (OpenSpec.ofChange Rows.gaussRootsSpec) :=
  OpenClaim.holds_of_wide 7 Try.f7 rfl rfl rfl rfl rfl rfl rfl ⟨rfl, rfl, rfl, rfl, rfl⟩ rfl rfl rfl rfl rfl (by kernel_rfl) Try.func7 (by kernel_rfl)
    (of_decide_eq_true (by kernel_rfl)) (by unfold Func.isWrapper; first | (rw [if_pos (by decide +kernel)]; kernel_rfl) | (rw [if_neg (by decide +kernel)]; exact ⟨rfl, rfl⟩))
    (fun os started H enc _ => gaussRoots_lifted os started H enc)
theorem gaussRoots_proved : Rows.GaussRootsSaid := gaussRoots_over
end Go.Proofs.Ytfkldohgiifgbaa
