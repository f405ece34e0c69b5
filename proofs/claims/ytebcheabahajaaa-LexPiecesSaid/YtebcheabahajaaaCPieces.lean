/-
  LexPieces: the statement.
-/
import Derived.Test.YtebcheabahajaaaL12
import Derived.Test.YtebcheabahajaaaLArgs
import Derived.WalkKit
namespace Go.Proofs.Ytebcheabahajaaa
open Go Go.ChangeShapes Go.WideShapes Go.ChangeAt Go.RowKit Ab
set_option linter.unusedSimpArgs false
set_option linter.unusedVariables false
set_option maxHeartbeats 10000000
theorem lexPieces_contract (H : Type) (enc : TypeId × Value → H) (Wo : World) (base : Nat) (args : Array Value) (ds gs : List (DataW H)) (before : List MemPlace)
    (hval : ∀ (j : Nat) t v, Try.f8.params[j]? = some t → args[j]? = some v → Value.okWide Try.prog Wo .any base t v)
    (hW : DataW.Whole enc Try.prog Try.f8.params.toList Rows.lexPiecesSpec.vars false Wo args.toList ds gs before) :
    Calls Try.prog 8 args Wo fun e W' => ∃ v, e = .returned v ∧ Rows.lexPiecesSpec.post enc Try.prog Try.f8 false true false false Wo args v W' := by
  refine law_contract (J := J0) (fun _ => trivial) laid rfl (by decide +kernel) rfl Try.underlying4 [(9, false, QStr), (9, false, QStr)] rfl ⟨⟨opens_str, rfl⟩, ⟨opens_str, rfl⟩, trivial⟩ (fun ds h => match ds, h with | [_, _], _ => rfl) hval hW fun av n hq hn => ?_
  obtain ⟨a0, av0, x0, n0, m0, rfl, h0, e0, hq, rfl⟩ := hq
  replace e0 : x0 = [a0] := e0
  subst e0
  obtain ⟨a1, av1, x1, n1, m1, rfl, h1, e1, hq, rfl⟩ := hq
  replace e1 : x1 = [a1] := e1
  subst e1
  obtain ⟨rfl, rfl⟩ := hq
  obtain ⟨l, e0, hl, _⟩ := h0
  obtain ⟨s, e1, hs, _⟩ := h1
  cases e0; cases e1
  exact lexPieces_spec l s (by unfold maxLen at hs; omega)
set_option maxRecDepth 100000 in
theorem lexPieces_lifted (os : Os) (started : os.Started) (H : Type) (enc : TypeId × Value → H) :
    ReturnsInHanded {} Try.checked os 8 .any (Rows.lexPiecesSpec.pre6 enc Try.prog Try.f8 Rows.lexPiecesRow.domain false) (Rows.lexPiecesSpec.post enc Try.prog Try.f8 false true false false) := by
  refine returnsInHanded_of_change (C := Try.checked) own started (by kernel_rfl) Try.func8
    (ChangeSpec.witness6 (enc := enc) (C := Try.checked) false ⟨#[], #[.string ⟨#[]⟩, .string ⟨#[]⟩], []⟩ 8 (by kernel_rfl) (by kernel_rfl) (by kernel_rfl) (by kernel_rfl)) ?_
  intro Wo base args ds gs before hval hW _ _
  exact lexPieces_contract H enc Wo base args ds gs before hval hW
theorem lexPieces_over : Rows.lexPiecesRow.holds Try.pinned (OpenSpec.ofChange Rows.lexPiecesSpec) :=
  OpenClaim.holds_of_wide 8 Try.f8 rfl rfl rfl rfl rfl rfl rfl ⟨rfl, rfl, rfl, rfl, rfl⟩ rfl rfl rfl rfl rfl (by kernel_rfl) Try.func8 (by kernel_rfl)
    (of_decide_eq_true (by kernel_rfl)) (by unfold Func.isWrapper; first | (rw [if_pos (by decide +kernel)]; kernel_rfl) | (rw [if_neg (by decide +kernel)]; exact ⟨rfl, rfl⟩))
    (fun os started H enc _ => lexPieces_lifted os started H enc)
theorem lexPieces_proved : Rows.LexPiecesSaid := lexPieces_over
end Go.Proofs.Ytebcheabahajaaa
