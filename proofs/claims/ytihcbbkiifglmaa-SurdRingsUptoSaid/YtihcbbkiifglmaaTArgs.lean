/-
  surdtop: polynomials that the laws are handed.
-/
import Derived.Test.YtihcbbkiifglmaaZArgs
import Derived.Test.YtihcbbkiifglmaaT1
namespace Go.Proofs.Ytihcbbkiifglmaa
open Go Go.ChangeShapes Go.WideShapes Go.ChangeAt Go.RowKit Ab
set_option linter.unusedSimpArgs false
set_option linter.unusedVariables false
set_option maxHeartbeats 10000000
abbrev QZp : List V → Nat → Prop := QSl 2 QZ
theorem opens_zp {H : Type} {enc : TypeId × Value → H} {w : World} : Opens enc Try.prog w 23 QZp := opens_slice Try.underlying23 (by kernel_rfl) (by decide) opens_z
theorem QZp_L {xs : List V} {n : Nat} (h : QZp xs n) : ∃ l : List (Bool × List Nat), xs = [.l 2 (ZC l)] ∧ l.length ≤ n ∧ Zk l n := by
  obtain ⟨es, rfl, he, _, rfl⟩ := h
  have key : ∀ es : List (List V × Nat), (∀ p, p ∈ es → QZ p.1 p.2 ∧ p.1.length = 2) → ∃ l : List (Bool × List Nat), (es.map (·.1)).flatten = ZC l ∧ l.length ≤ (es.map (·.2)).sum ∧ Zk l (es.map (·.2)).sum := by
    intro es
    induction es with
    | nil => intro _; exact ⟨[], rfl, Nat.zero_le _, fun z hz => by cases hz⟩
    | cons p r ih =>
      intro h
      obtain ⟨l, e, la, hp⟩ := ih fun q hq => h q (List.mem_cons_of_mem _ hq)
      have hq := (h p List.mem_cons_self).1
      have hn0 : 1 ≤ p.2 := by obtain ⟨_, _, _, _, _, _, _, hn⟩ := hq; omega
      obtain ⟨s, a, e0, wa, lla⟩ := QZ_L hq
      have e1 : p.1 = [.b s, .l 1 (W a)] := by injection e0
      refine ⟨(s, a) :: l, ?_, ?_, fun z hz => ?_⟩
      · rw [List.map_cons, List.flatten_cons, e, e1]; rfl
      · simp only [List.length_cons, List.map_cons, List.sum_cons]; omega
      · simp only [List.map_cons, List.sum_cons]
        rcases List.mem_cons.1 hz with rfl | hz
        · exact ⟨wa, by simp only; omega⟩
        · exact ⟨(hp z hz).1, by have := (hp z hz).2; omega⟩
  obtain ⟨l, e, la, hp⟩ := key es he
  exact ⟨l, by rw [e], Nat.le_succ_of_le la, fun p h => ⟨(hp p h).1, Nat.le_succ_of_le (hp p h).2⟩⟩
end Go.Proofs.Ytihcbbkiifglmaa
