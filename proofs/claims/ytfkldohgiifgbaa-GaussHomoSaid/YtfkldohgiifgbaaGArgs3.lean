/-
  gauss: polynomials of any length.
-/
import Derived.Test.YtfkldohgiifgbaaGArgs
namespace Go.Proofs.Ytfkldohgiifgbaa
open Go Go.ChangeShapes Go.WideShapes Go.ChangeAt Go.RowKit Ab
set_option linter.unusedSimpArgs false
set_option linter.unusedVariables false
set_option maxHeartbeats 10000000
theorem QNat_M {xs : List V} {n : Nat} (h : QNat xs n) : ∃ a : List Nat, xs = [.l 1 (W a)] ∧ Wd a ∧ a.length ≤ 9223372036854775807 := by
  obtain ⟨es, rfl, he, hmx, rfl⟩ := h
  have key : ∀ es : List (List V × Nat), (∀ p, p ∈ es → QInt .u64 p.1 p.2 ∧ p.1.length = 1) → ∃ a : List Nat, (es.map (·.1)).flatten = W a ∧ Wd a ∧ a.length = es.length := by
    intro es
    induction es with
    | nil => intro _; exact ⟨[], rfl, Wd_nil, rfl⟩
    | cons p r ih =>
      intro h
      obtain ⟨a, e, wa, la⟩ := ih fun q hq => h q (List.mem_cons_of_mem _ hq)
      obtain ⟨m, hm, hw, hn⟩ := (h p List.mem_cons_self).1
      have hb := wfu64 hw
      refine ⟨m.toNat :: a, ?_, fun x hx => ?_, ?_⟩
      · rw [List.map_cons, List.flatten_cons, e, hm]
        simp only [W, List.map_cons, List.singleton_append]
        rw [Int.toNat_of_nonneg hb.1]
      · rcases List.mem_cons.1 hx with rfl | hx
        · show m.toNat < 18446744073709551616; omega
        · exact wa x hx
      · simp only [List.length_cons, la]
  obtain ⟨a, e, wa, la⟩ := key es he
  exact ⟨a, by rw [e], wa, by rw [la]; exact hmx⟩
theorem QZ_M {xs : List V} {n : Nat} (h : QZ xs n) : ∃ (s : Bool) (a : List Nat), V.g xs = zL s a ∧ Wd a ∧ a.length ≤ 9223372036854775807 := by
  obtain ⟨x1, x2, n1, n2, rfl, ⟨s, rfl, rfl⟩, h2, hn⟩ := h
  obtain ⟨a, rfl, wa, la⟩ := QNat_M h2
  exact ⟨s, a, rfl, wa, la⟩
theorem QZs_M {xs : List V} {n : Nat} (h : QZs xs n) : ∃ l : List (Bool × List Nat), xs = [.l 2 (ZC l)] ∧ ZOk l 9223372036854775807 := by
  obtain ⟨es, rfl, he, hmx, rfl⟩ := h
  have key : ∀ es : List (List V × Nat), (∀ p, p ∈ es → QZ p.1 p.2 ∧ p.1.length = 2) → ∃ l : List (Bool × List Nat), (es.map (·.1)).flatten = ZC l ∧ l.length = es.length ∧ ∀ p, p ∈ l → Wd p.2 ∧ p.2.length ≤ 9223372036854775807 := by
    intro es
    induction es with
    | nil => intro _; exact ⟨[], rfl, rfl, fun z hz => by cases hz⟩
    | cons p r ih =>
      intro h
      obtain ⟨l, e, la, hp⟩ := ih fun q hq => h q (List.mem_cons_of_mem _ hq)
      obtain ⟨s, a, e0, wa, lla⟩ := QZ_M (h p List.mem_cons_self).1
      have e1 : p.1 = [.b s, .l 1 (W a)] := by injection e0
      refine ⟨(s, a) :: l, ?_, ?_, fun z hz => ?_⟩
      · rw [List.map_cons, List.flatten_cons, e, e1]; rfl
      · simp only [List.length_cons, la]
      · rcases List.mem_cons.1 hz with rfl | hz
        · exact ⟨wa, lla⟩
        · exact hp z hz
  obtain ⟨l, e, la, hp⟩ := key es he
  exact ⟨l, by rw [e], by rw [la]; exact hmx, hp⟩
end Go.Proofs.Ytfkldohgiifgbaa
