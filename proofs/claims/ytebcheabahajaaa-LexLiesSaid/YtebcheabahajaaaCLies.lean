/-
  LexLies: the statement: it answers true for every line.
-/
import Derived.Test.YtebcheabahajaaaL7
import Derived.Test.YtebcheabahajaaaLArgs
import Derived.WalkKit
namespace Go.Proofs.Ytebcheabahajaaa
open Go Go.ChangeShapes Go.WideShapes Go.ChangeAt Go.RowKit Ab
set_option linter.unusedSimpArgs false
set_option linter.unusedVariables false
set_option maxHeartbeats 10000000
theorem lexLies_contract (H : Type) (enc : TypeId × Value → H) (Wo : World) (base : Nat) (args : Array Value) (ds gs : List (DataW H)) (before : List MemPlace)
    (hval : ∀ (j : Nat) t v, Try.f3.params[j]? = some t → args[j]? = some v → Value.okWide Try.prog Wo .any base t v)
    (hW : DataW.Whole enc Try.prog Try.f3.params.toList Rows.lexLiesSpec.vars false Wo args.toList ds gs before) :
    Calls Try.prog 3 args Wo fun e W' => ∃ v, e = .returned v ∧ Rows.lexLiesSpec.post enc Try.prog Try.f3 false true false false Wo args v W' := by
  refine law_contract (J := J0) (fun _ => trivial) laid rfl (by decide +kernel) rfl Try.underlying4 [(9, false, QStr)] rfl ⟨⟨opens_str, rfl⟩, trivial⟩ (fun ds h => match ds, h with | [_], _ => rfl) hval hW fun av n hq hn => ?_
  obtain ⟨a0, av0, x0, n0, m0, rfl, h0, e0, hq, rfl⟩ := hq
  replace e0 : x0 = [a0] := e0
  subst e0
  obtain ⟨rfl, rfl⟩ := hq
  obtain ⟨l, e0, hl, _⟩ := h0
  cases e0
  exact lexLies_spec l (by unfold maxLen at hl; omega)
set_option maxRecDepth 100000 in
theorem lexLies_lifted (os : Os) (started : os.Started) (H : Type) (enc : TypeId × Value → H) :
    ReturnsInHanded {} Try.checked os 3 .any (Rows.lexLiesSpec.pre6 enc Try.prog Try.f3 Rows.lexLiesRow.domain false) (Rows.lexLiesSpec.post enc Try.prog Try.f3 false true false false) := by
  refine returnsInHanded_of_change (C := Try.checked) own started (by kernel_rfl) Try.func3
    (ChangeSpec.witness6 (enc := enc) (C := Try.checked) false ⟨#[], #[.string ⟨#[]⟩], []⟩ 8 (by kernel_rfl) (by kernel_rfl) (by kernel_rfl) (by kernel_rfl)) ?_
  intro Wo base args ds gs before hval hW _ _
  exact lexLies_contract H enc Wo base args ds gs before hval hW
theorem lexLies_over : Rows.lexLiesRow.holds Try.pinned (OpenSpec.ofChange Rows.lexLiesSpec) :=
  OpenClaim.holds_of_wide 3 Try.f3 rfl rfl rfl rfl rfl rfl rfl ⟨rfl, rfl, rfl, rfl, rfl⟩ rfl rfl rfl rfl rfl (by kernel_rfl) Try.func3 (by kernel_rfl)
    (of_decide_eq_true (by kernel_rfl)) (by unfold Func.isWrapper; first | (rw [if_pos (by decide +kernel)]; kernel_rfl) | (rw [if_neg (by decide +kernel)]; exact ⟨rfl, rfl⟩))
    (fun os started H enc _ => lexLies_lifted os started H enc)
theorem lexLies_proved : Rows.LexLiesSaid := lexLies_over
end Go.Proofs.Ytebcheabahajaaa
