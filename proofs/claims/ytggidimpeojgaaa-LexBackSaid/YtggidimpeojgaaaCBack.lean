/-
  LexBack: the statement: it answers true for every line.
-/
import Derived.Test.YtggidimpeojgaaaLBW
import Derived.Test.YtggidimpeojgaaaLArgs
import Derived.WalkKit
namespace Go.Proofs.Ytggidimpeojgaaa
open Go Go.ChangeShapes Go.WideShapes Go.ChangeAt Go.RowKit Ab
set_option linter.unusedSimpArgs false
set_option linter.unusedVariables false
set_option maxHeartbeats 10000000
set_option maxRecDepth 100000 in
theorem lexBack_contract (H : Type) (enc : TypeId × Value → H) (Wo : World) (base : Nat) (args : Array Value) (ds gs : List (DataW H)) (before : List MemPlace)
    (hval : ∀ (j : Nat) t v, Try.f4.params[j]? = some t → args[j]? = some v → Value.okWide Try.prog Wo .any base t v)
    (hW : DataW.Whole enc Try.prog Try.f4.params.toList Rows.lexBackSpec.vars false Wo args.toList ds gs before) :
    Calls Try.prog 4 args Wo fun e W' => ∃ v, e = .returned v ∧ Rows.lexBackSpec.post enc Try.prog Try.f4 false true false false Wo args v W' := by
  refine law_contract (J := J0) (fun _ => trivial) (tj_none fun _ => rfl) laid rfl (by decide +kernel) rfl Try.underlying4 [(9, false, QStr)] rfl ⟨⟨opens_str, rfl⟩, trivial⟩ (fun ds h => match ds, h with | [_], _ => rfl) hval hW fun av n hq hn => ?_
  obtain ⟨a0, av0, x0, n0, m0, rfl, h0, e0, hq, rfl⟩ := hq
  replace e0 : x0 = [a0] := e0
  subst e0
  obtain ⟨rfl, rfl⟩ := hq
  obtain ⟨l, e0, hl, _⟩ := h0
  cases e0
  exact lexBack_spec l (by unfold maxLen at hl; omega)
set_option maxRecDepth 100000 in
theorem lexBack_lifted (os : Os) (started : os.Started) (H : Type) (enc : TypeId × Value → H) :
    ReturnsInHanded {} Try.checked os 4 .any (Rows.lexBackSpec.pre6 enc Try.prog Try.f4 Rows.lexBackRow.domain false) (Rows.lexBackSpec.post enc Try.prog Try.f4 false true false false) := by
  refine returnsInHanded_of_change (C := Try.checked) own started (by kernel_rfl) Try.func4
    (ChangeSpec.witness6 (enc := enc) (C := Try.checked) false ⟨#[], #[.string ⟨#[]⟩], []⟩ 8 (by kernel_rfl) (by kernel_rfl) (by kernel_rfl) (by kernel_rfl)) ?_
  intro Wo base args ds gs before hval hW _ _
  exact lexBack_contract H enc Wo base args ds gs before hval hW
theorem lexBack_over : Rows.lexBackRow.holds Try.pinned (OpenSpec.ofChange Rows.lexBackSpec) :=
  OpenClaim.holds_of_wide 4 Try.f4 rfl rfl rfl rfl rfl rfl rfl ⟨rfl, rfl, rfl, rfl, rfl⟩ rfl rfl rfl rfl rfl (by kernel_rfl) Try.func4 (by kernel_rfl)
    (of_decide_eq_true (by kernel_rfl)) (by unfold Func.isWrapper; first | (rw [if_pos (by decide +kernel)]; kernel_rfl) | (rw [if_neg (by decide +kernel)]; exact ⟨rfl, rfl⟩))
    (fun os started H enc _ => lexBack_lifted os started H enc)
theorem lexBack_proved : Rows.LexBackSaid := lexBack_over
end Go.Proofs.Ytggidimpeojgaaa
