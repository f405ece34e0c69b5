/-
  gauss: what the laws are handed.
-/
import Derived.Test.YteaiegppmbcibaaZArgs
import Derived.Test.YteaiegppmbcibaaG8
namespace Go.Proofs.Yteaiegppmbcibaa
open Go Go.ChangeShapes Go.WideShapes Go.ChangeAt Go.RowKit Ab
set_option linter.unusedSimpArgs false
set_option linter.unusedVariables false
set_option maxHeartbeats 10000000
abbrev QN : List V → Nat → Prop := QSt2 (QInt .i64) (QInt .i64)
theorem opens_i64 {H : Type} {enc : TypeId × Value → H} {w : World} : Opens enc Try.prog w 3 (QInt .i64) := opens_int Try.underlying3
theorem opens_n {H : Type} {enc : TypeId × Value → H} {w : World} : Opens enc Try.prog w 40 QN :=
  opens_struct2 (s1 := 1) (s2 := 1) Try.underlying40 rfl rfl (by kernel_rfl) (by kernel_rfl) (by kernel_rfl) opens_i64 opens_i64
abbrev QNs : List V → Nat → Prop := QSl 2 QN
theorem opens_ns {H : Type} {enc : TypeId × Value → H} {w : World} : Opens enc Try.prog w 24 QNs := opens_slice Try.underlying24 (by kernel_rfl) (by decide) opens_n
def Pis (zs : List GZ) : Prop := ∀ z, z ∈ zs → Pi z.1 ∧ Pi z.2
theorem QNs_L {xs : List V} {n : Nat} (h : QNs xs n) : ∃ zs : List GZ, xs = [.l 2 (NC zs)] ∧ zs.length ≤ n ∧ Pis zs := by
  obtain ⟨es, rfl, he, _, rfl⟩ := h
  have key : ∀ es : List (List V × Nat), (∀ p, p ∈ es → QN p.1 p.2 ∧ p.1.length = 2) → ∃ zs : List GZ, (es.map (·.1)).flatten = NC zs ∧ zs.length ≤ (es.map (·.2)).sum ∧ Pis zs := by
    intro es
    induction es with
    | nil => intro _; exact ⟨[], rfl, Nat.zero_le _, fun z hz => by cases hz⟩
    | cons p r ih =>
      intro h
      obtain ⟨zs, e, la, hp⟩ := ih fun q hq => h q (List.mem_cons_of_mem _ hq)
      obtain ⟨x1, x2, n1, n2, hx, ⟨a, rfl, ha, rfl⟩, ⟨b, rfl, hb, rfl⟩, hn⟩ := (h p List.mem_cons_self).1
      refine ⟨(a, b) :: zs, ?_, ?_, fun z hz => ?_⟩
      · rw [List.map_cons, List.flatten_cons, e, hx]; rfl
      · simp only [List.length_cons, List.map_cons, List.sum_cons, hn]; omega
      · rcases List.mem_cons.1 hz with rfl | hz
        · exact ⟨wf64 ha, wf64 hb⟩
        · exact hp z hz
  obtain ⟨zs, e, la, hp⟩ := key es he
  exact ⟨zs, by rw [e], Nat.le_succ_of_le la, hp⟩
abbrev QZs : List V → Nat → Prop := QSl 2 QZ
theorem opens_zs {H : Type} {enc : TypeId × Value → H} {w : World} : Opens enc Try.prog w 23 QZs := opens_slice Try.underlying23 (by kernel_rfl) (by decide) opens_z
theorem QZs_L {xs : List V} {n : Nat} (h : QZs xs n) : ∃ l : List (Bool × List Nat), xs = [.l 2 (ZC l)] ∧ ZOk l n := by
  obtain ⟨es, rfl, he, _, rfl⟩ := h
  have key : ∀ es : List (List V × Nat), (∀ p, p ∈ es → QZ p.1 p.2 ∧ p.1.length = 2) → ∃ l : List (Bool × List Nat), (es.map (·.1)).flatten = ZC l ∧ ZOk l (es.map (·.2)).sum := by
    intro es
    induction es with
    | nil => intro _; exact ⟨[], rfl, Nat.zero_le _, fun z hz => by cases hz⟩
    | cons p r ih =>
      intro h
      obtain ⟨l, e, la, hp⟩ := ih fun q hq => h q (List.mem_cons_of_mem _ hq)
      have hq := (h p List.mem_cons_self).1
      have hn0 : 1 ≤ p.2 := by obtain ⟨_, _, _, _, _, _, _, hn⟩ := hq; omega
      obtain ⟨s, a, e0, wa, lla⟩ := QZ_L hq
      have e1 : p.1 = [.b s, .l 1 (W a)] := by injection e0
      refine ⟨(s, a) :: l, ?_, ?_, fun z hz => ?_⟩
      · rw [List.map_cons, List.flatten_cons, e, e1]; rfl
      · simp only [List.length_cons, List.map_cons, List.sum_cons]; omega
      · simp only [List.map_cons, List.sum_cons]
        rcases List.mem_cons.1 hz with rfl | hz
        · exact ⟨wa, by simp only; omega⟩
        · exact ⟨(hp z hz).1, by have := (hp z hz).2; omega⟩
  obtain ⟨l, e, la, hp⟩ := key es he
  exact ⟨l, by rw [e], Nat.le_succ_of_le la, fun p h => ⟨(hp p h).1, Nat.le_succ_of_le (hp p h).2⟩⟩
end Go.Proofs.Yteaiegppmbcibaa
