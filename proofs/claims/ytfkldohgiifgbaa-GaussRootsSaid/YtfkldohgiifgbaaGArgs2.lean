/-
  gauss: rows of plain ints of any length.
-/
import Derived.Test.YtfkldohgiifgbaaGArgs
namespace Go.Proofs.Ytfkldohgiifgbaa
open Go Go.ChangeShapes Go.WideShapes Go.ChangeAt Go.RowKit Ab
set_option linter.unusedSimpArgs false
set_option linter.unusedVariables false
set_option maxHeartbeats 10000000
theorem QIs_M {xs : List V} {n : Nat} (h : QIs xs n) : ∃ zs : List Int, xs = [.l 1 (I64 zs)] ∧ zs.length ≤ 9223372036854775807 := by
  obtain ⟨es, rfl, he, hmx, rfl⟩ := h
  have key : ∀ es : List (List V × Nat), (∀ p, p ∈ es → QInt .i64 p.1 p.2 ∧ p.1.length = 1) → ∃ zs : List Int, (es.map (·.1)).flatten = I64 zs ∧ zs.length = es.length := by
    intro es
    induction es with
    | nil => intro _; exact ⟨[], rfl, rfl⟩
    | cons p r ih =>
      intro h
      obtain ⟨zs, e, la⟩ := ih fun q hq => h q (List.mem_cons_of_mem _ hq)
      obtain ⟨a, hx, ha, hn⟩ := (h p List.mem_cons_self).1
      refine ⟨a :: zs, ?_, ?_⟩
      · rw [List.map_cons, List.flatten_cons, e, hx]; rfl
      · simp only [List.length_cons, la]
  obtain ⟨zs, e, la⟩ := key es he
  exact ⟨zs, by rw [e], by rw [la]; exact hmx⟩
end Go.Proofs.Ytfkldohgiifgbaa
