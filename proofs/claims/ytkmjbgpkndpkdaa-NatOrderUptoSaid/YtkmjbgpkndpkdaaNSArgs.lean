/-
  Lists of numbers that the laws are handed.
-/
import Derived.Test.YtkmjbgpkndpkdaaGI
import Derived.Test.YtkmjbgpkndpkdaaNS6
namespace Go.Proofs.Ytkmjbgpkndpkdaa
open Go Go.ChangeShapes Go.WideShapes Go.ChangeAt Go.RowKit Ab
set_option linter.unusedSimpArgs false
set_option linter.unusedVariables false
set_option maxHeartbeats 10000000
abbrev QNs : List V → Nat → Prop := QSl 1 QNat
theorem opens_ns {H : Type} {enc : TypeId × Value → H} {w : World} : Opens enc Try.prog w 22 QNs := opens_slice Try.underlying22 (by kernel_rfl) (by decide) opens_nat
theorem QNs_L {xs : List V} {n : Nat} (h : QNs xs n) : ∃ l : List (List Nat), xs = [.l 1 (RV l)] ∧ NOk l n := by
  obtain ⟨es, rfl, he, _, rfl⟩ := h
  have key : ∀ es : List (List V × Nat), (∀ p, p ∈ es → QNat p.1 p.2 ∧ p.1.length = 1) → ∃ l : List (List Nat), (es.map (·.1)).flatten = RV l ∧ NOk l (es.map (·.2)).sum := by
    intro es
    induction es with
    | nil => intro _; exact ⟨[], rfl, Nat.zero_le _, fun z hz => by cases hz⟩
    | cons p r ih =>
      intro h
      obtain ⟨l, e, la, hp⟩ := ih fun q hq => h q (List.mem_cons_of_mem _ hq)
      have hq := (h p List.mem_cons_self).1
      have hn0 : 1 ≤ p.2 := by obtain ⟨_, _, _, _, hn⟩ := hq; omega
      obtain ⟨a, e0, wa, lla⟩ := QNat_W hq
      refine ⟨a :: l, ?_, ?_, fun z hz => ?_⟩
      · rw [List.map_cons, List.flatten_cons, e, e0]; rfl
      · simp only [List.length_cons, List.map_cons, List.sum_cons]; omega
      · simp only [List.map_cons, List.sum_cons]
        rcases List.mem_cons.1 hz with rfl | hz
        · exact ⟨wa, by omega⟩
        · exact ⟨(hp z hz).1, by have := (hp z hz).2; omega⟩
  obtain ⟨l, e, la, hp⟩ := key es he
  exact ⟨l, by rw [e], Nat.le_succ_of_le la, fun p h => ⟨(hp p h).1, Nat.le_succ_of_le (hp p h).2⟩⟩
end Go.Proofs.Ytkmjbgpkndpkdaa
