/-
  surdtop: polynomials over the rationals that the laws are handed.
-/
import Derived.Test.YtbkpaeejjepnpaaGreatQArgs
import Derived.Test.YtbkpaeejjepnpaaGreatQP1
namespace Go.Proofs.YtbkpaeejjepnpaaGreat
open Go Go.ChangeShapes Go.WideShapes Go.ChangeAt Go.RowKit Ab
set_option linter.unusedSimpArgs false
set_option linter.unusedVariables false
set_option maxHeartbeats 10000000
theorem opens_qp {H : Type} {enc : TypeId × Value → H} {w : World} : Opens enc Tryz.prog w 23 QRats := opens_slice Tryz.underlying23 (by kernel_rfl) (by decide) opens_rat
theorem QRat_L2 {xs : List V} {n : Nat} (h : QRat xs n) : ∃ (s : Bool) (a d : List Nat), xs = [.b s, .l 1 (W a), .l 1 (W d)] ∧ Wd a ∧ Wd d ∧ a.length + d.length + 1 ≤ n := by
  obtain ⟨x1, x2, n1, n2, rfl, q1, q2, rfl⟩ := h
  obtain ⟨s, a, e1, wa, la⟩ := QZ_L q1
  obtain ⟨d, rfl, wd, ld⟩ := QNat_W q2
  have e : x1 = [.b s, .l 1 (W a)] := by injection e1
  exact ⟨s, a, d, by rw [e]; rfl, wa, wd, by omega⟩
theorem QPs_L {xs : List V} {n : Nat} (h : QRats xs n) : ∃ l : List (Bool × List Nat × List Nat), xs = [.l 3 (RC l)] ∧ wt l + l.length ≤ n ∧ ∀ p, p ∈ l → Wd p.2.1 ∧ Wd p.2.2 ∧ p.2.1.length ≤ n ∧ p.2.2.length ≤ n := by
  obtain ⟨es, rfl, he, _, rfl⟩ := h
  have key : ∀ es : List (List V × Nat), (∀ p, p ∈ es → QRat p.1 p.2 ∧ p.1.length = 3) → ∃ l : List (Bool × List Nat × List Nat), (es.map (·.1)).flatten = RC l ∧ wt l + l.length ≤ (es.map (·.2)).sum ∧ ∀ p, p ∈ l → Wd p.2.1 ∧ Wd p.2.2 ∧ p.2.1.length ≤ (es.map (·.2)).sum ∧ p.2.2.length ≤ (es.map (·.2)).sum := by
    intro es
    induction es with
    | nil => intro _; exact ⟨[], rfl, Nat.zero_le _, fun z hz => by cases hz⟩
    | cons p r ih =>
      intro h
      obtain ⟨l, e, la, hp⟩ := ih fun q hq => h q (List.mem_cons_of_mem _ hq)
      obtain ⟨s, a, d, e0, wa, wd, l1⟩ := QRat_L2 (h p List.mem_cons_self).1
      refine ⟨(s, a, d) :: l, ?_, ?_, fun z hz => ?_⟩
      · rw [List.map_cons, List.flatten_cons, e, e0]; rfl
      · simp only [List.length_cons, List.map_cons, List.sum_cons, wt]; omega
      · simp only [List.map_cons, List.sum_cons]
        rcases List.mem_cons.1 hz with rfl | hz
        · exact ⟨wa, wd, by simp only; omega, by simp only; omega⟩
        · obtain ⟨h1, h2, h3, h4⟩ := hp z hz
          exact ⟨h1, h2, by omega, by omega⟩
  obtain ⟨l, e, la, hp⟩ := key es he
  exact ⟨l, by rw [e], Nat.le_succ_of_le la, fun p h => by obtain ⟨h1, h2, h3, h4⟩ := hp p h; exact ⟨h1, h2, Nat.le_succ_of_le h3, Nat.le_succ_of_le h4⟩⟩
end Go.Proofs.YtbkpaeejjepnpaaGreat
