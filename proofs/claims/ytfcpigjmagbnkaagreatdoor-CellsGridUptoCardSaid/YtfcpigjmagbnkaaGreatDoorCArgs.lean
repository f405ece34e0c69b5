/-
  surdlaw19: what the laws are handed.
-/
import Derived.Test.YtfcpigjmagbnkaaGreatDoorQArgs
import Derived.Test.YtfcpigjmagbnkaaGreatDoorC1
namespace Go.Proofs.YtfcpigjmagbnkaaGreatDoor
open Go Go.ChangeShapes Go.WideShapes Go.ChangeAt Go.RowKit Ab
set_option linter.unusedSimpArgs false
set_option linter.unusedVariables false
set_option maxHeartbeats 10000000
abbrev QCell : List V → Nat → Prop := QSt3 QZ (QInt .i64) QBool
theorem opens_cell {H : Type} {enc : TypeId × Value → H} {w : World} : Opens enc Tryz.prog w 37 QCell :=
  opens_struct3 (s1 := 2) (s2 := 1) (s3 := 1) Tryz.underlying37 rfl rfl rfl (by kernel_rfl) (by kernel_rfl) (by kernel_rfl) (by kernel_rfl) opens_z (opens_int Tryz.underlying3) opens_zb
theorem QCell_L {xs : List V} {n : Nat} (h : QCell xs n) : ∃ (s : Bool) (a : List Nat) (k : Int) (p : Bool), V.g xs = cL s a k p ∧ Wd a ∧ a.length ≤ n ∧ -9223372036854775808 ≤ k ∧ k < 9223372036854775808 := by
  obtain ⟨x1, x2, x3, n1, n2, n3, rfl, q1, ⟨k, rfl, wk, _⟩, ⟨p, rfl, _⟩, rfl⟩ := h
  obtain ⟨s, a, e1, wa, la⟩ := QZ_L q1
  injection e1 with e1
  subst e1
  have hk := wf64 wk
  exact ⟨s, a, k, p, rfl, wa, by omega, hk.1, hk.2⟩
abbrev QCells : List V → Nat → Prop := QSl 4 QCell
theorem opens_cells {H : Type} {enc : TypeId × Value → H} {w : World} : Opens enc Tryz.prog w 60 QCells := opens_slice Tryz.underlying60 (by kernel_rfl) (by decide) opens_cell
theorem QCells_L {xs : List V} {n : Nat} (h : QCells xs n) : ∃ l : List (Bool × List Nat × Int × Bool), xs = [.l 4 (CC l)] ∧ l.length ≤ n ∧ ∀ p, p ∈ l → Wd p.2.1 ∧ p.2.1.length ≤ n ∧ -9223372036854775808 ≤ p.2.2.1 ∧ p.2.2.1 < 9223372036854775808 := by
  obtain ⟨es, rfl, he, _, rfl⟩ := h
  have key : ∀ es : List (List V × Nat), (∀ p, p ∈ es → QCell p.1 p.2 ∧ p.1.length = 4) → ∃ l : List (Bool × List Nat × Int × Bool), (es.map (·.1)).flatten = CC l ∧ l.length ≤ (es.map (·.2)).sum ∧ ∀ p, p ∈ l → Wd p.2.1 ∧ p.2.1.length ≤ (es.map (·.2)).sum ∧ -9223372036854775808 ≤ p.2.2.1 ∧ p.2.2.1 < 9223372036854775808 := by
    intro es
    induction es with
    | nil => intro _; exact ⟨[], rfl, Nat.zero_le _, fun z hz => by cases hz⟩
    | cons p r ih =>
      intro h
      obtain ⟨l, e, la, hp⟩ := ih fun q hq => h q (List.mem_cons_of_mem _ hq)
      have hq := (h p List.mem_cons_self).1
      have hn0 : 1 ≤ p.2 := by obtain ⟨_, _, _, _, _, _, _, _, _, _, hn⟩ := hq; omega
      obtain ⟨s, a, k, q, e0, wa, l1, k1, k2⟩ := QCell_L hq
      have e1 : p.1 = [.b s, .l 1 (W a), .i .i64 k, .b q] := by injection e0
      refine ⟨(s, a, k, q) :: l, ?_, ?_, fun z hz => ?_⟩
      · rw [List.map_cons, List.flatten_cons, e, e1]; rfl
      · simp only [List.length_cons, List.map_cons, List.sum_cons]; omega
      · simp only [List.map_cons, List.sum_cons]
        rcases List.mem_cons.1 hz with rfl | hz
        · exact ⟨wa, by simp only; omega, k1, k2⟩
        · obtain ⟨h1, h2, h3⟩ := hp z hz
          exact ⟨h1, by omega, h3⟩
  obtain ⟨l, e, la, hp⟩ := key es he
  exact ⟨l, by rw [e], Nat.le_succ_of_le la, fun p h => by obtain ⟨h1, h2, h3⟩ := hp p h; exact ⟨h1, Nat.le_succ_of_le h2, h3⟩⟩
end Go.Proofs.YtfcpigjmagbnkaaGreatDoor
