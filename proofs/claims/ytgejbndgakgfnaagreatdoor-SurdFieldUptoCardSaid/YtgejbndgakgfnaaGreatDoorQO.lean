/-
  Rational numbers: the order, as rational numbers; the simplest number's law.
-/
import Derived.Test.YtgejbndgakgfnaaGreatDoorQV
namespace Go.Proofs.YtgejbndgakgfnaaGreatDoor
open Go Go.RowKit Ab
set_option linter.unusedSimpArgs false
set_option linter.unusedVariables false
set_option maxHeartbeats 10000000
theorem le_q {z w : Int} {d e : Nat} (hd : d ≠ 0) (he : e ≠ 0) : mkRat z d ≤ mkRat w e ↔ z * (e : Int) ≤ w * (d : Int) := by
  rw [Rat.le_iff, ← r_num hd, ← r_num he, ← r_den hd, ← r_den he]
  exact r_le hd he
theorem lt_q {z w : Int} {d e : Nat} (hd : d ≠ 0) (he : e ≠ 0) : mkRat z d < mkRat w e ↔ z * (e : Int) < w * (d : Int) := by
  rw [← Rat.not_le, le_q he hd]; omega
def cq (p q : Rat) : Int := if p < q then -1 else if p = q then 0 else 1
theorem cz_q {z w : Int} {d e : Nat} (hd : d ≠ 0) (he : e ≠ 0) : cz (z * (e : Int)) (w * (d : Int)) = cq (mkRat z d) (mkRat w e) := by
  unfold cz cq
  simp only [lt_q hd he, Rat.mkRat_eq_iff hd he]
theorem cq_le (p q : Rat) : (cq p q ≤ 0) = (p ≤ q) := by
  unfold cq
  by_cases h1 : p < q
  · rw [if_pos h1]
    exact propext ⟨fun _ => Rat.le_of_lt h1, fun _ => by decide⟩
  · by_cases h2 : p = q
    · rw [if_neg h1, if_pos h2]
      exact propext ⟨fun _ => by rw [h2]; exact Rat.le_refl, fun _ => by decide⟩
    · rw [if_neg h1, if_neg h2]
      exact propext ⟨fun h => absurd h (by decide), fun h => absurd (Rat.lt_of_le_of_ne h h2) h1⟩
theorem qcmpR {v w : V} {p q : Rat} {m : Nat} (hv : Rr v p m) (hw : Rr w q m) (hm : m ≤ 3000000) : AFun Tryz.prog J0 31 [v, w] (.t [.i .i64 (cq p q), .i .i64 0]) := by
  obtain ⟨s, a, d, rfl, ha, hd, la, ld, h0, rfl⟩ := hv
  obtain ⟨t, b, e, rfl, hb, he, lb, le, k0, rfl⟩ := hw
  have h := qcmp_spec s t a b d e m (by omega) ha hb hd he la lb ld le
  rw [if_neg (Nat.mul_ne_zero h0 k0), re_p (Nat.mul_ne_zero h0 k0), cz_q h0 k0] at h
  exact h
theorem rz_le (z x : Int) (y : Nat) {d : Nat} (h : d ≠ 0) : rz z d * (y : Int) ≤ x * (rden z d : Int) ↔ z * (y : Int) ≤ x * (d : Int) := by
  have h1 := rz_back (z := z) (d := d)
  have h2 := rden_back (z := z) (d := d)
  have p1 := rG_pos (z := z) h
  generalize rz z d = a at *
  generalize rden z d = b at *
  generalize rG z d = g at *
  subst h1 h2
  have e1 : a * (g : Int) * (y : Int) = a * (y : Int) * (g : Int) := Int.mul_right_comm _ _ _
  have e2 : x * ((b * g : Nat) : Int) = x * (b : Int) * (g : Int) := by rw [Int.natCast_mul, Int.mul_assoc]
  rw [e1, e2]
  have p3 : (0 : Int) < (g : Int) := by omega
  exact ⟨fun h => Int.mul_le_mul_of_nonneg_right h (by omega), fun h => Int.le_of_mul_le_mul_right h p3⟩
theorem rz_ge (z x : Int) (y : Nat) {d : Nat} (h : d ≠ 0) : x * (rden z d : Int) ≤ rz z d * (y : Int) ↔ x * (d : Int) ≤ z * (y : Int) := by
  have h1 := rz_back (z := z) (d := d)
  have h2 := rden_back (z := z) (d := d)
  have p1 := rG_pos (z := z) h
  generalize rz z d = a at *
  generalize rden z d = b at *
  generalize rG z d = g at *
  subst h1 h2
  have e1 : a * (g : Int) * (y : Int) = a * (y : Int) * (g : Int) := Int.mul_right_comm _ _ _
  have e2 : x * ((b * g : Nat) : Int) = x * (b : Int) * (g : Int) := by rw [Int.natCast_mul, Int.mul_assoc]
  rw [e1, e2]
  have p3 : (0 : Int) < (g : Int) := by omega
  exact ⟨fun h => Int.mul_le_mul_of_nonneg_right h (by omega), fun h => Int.le_of_mul_le_mul_right h p3⟩
structure Smp (z : Int) (d : Nat) (w : Int) (e : Nat) (t : Int × Nat) : Prop where
  n0 : t.2 ≠ 0
  co : Nat.gcd t.1.natAbs t.2 = 1
  lo : z * (t.2 : Int) ≤ t.1 * (d : Int)
  hi : t.1 * (e : Int) ≤ w * (t.2 : Int)
  mi : ∀ (x : Int) (y : Nat), 0 < y → z * (y : Int) ≤ x * (d : Int) → x * (e : Int) ≤ w * (y : Int) → t.2 ≤ y
  bn : t.1.natAbs ≤ z.natAbs
  bd : t.2 ≤ d
theorem smp_law {z w : Int} {d e : Nat} (hd : d ≠ 0) (he : e ≠ 0) (c1 : Nat.gcd z.natAbs d = 1) (c2 : Nat.gcd w.natAbs e = 1) (h : z * (e : Int) ≤ w * (d : Int)) : Smp z d w e (smp z d w e) := by
  unfold smp
  by_cases k1 : z ≤ 0 ∧ 0 ≤ w
  · rw [if_pos k1]
    refine ⟨by decide, Nat.gcd_one_right _, ?_, ?_, fun x y hy _ _ => hy, Nat.zero_le _, Nat.pos_of_ne_zero hd⟩
    · show z * ((1 : Nat) : Int) ≤ 0 * (d : Int)
      omega
    · show 0 * (e : Int) ≤ w * ((1 : Nat) : Int)
      omega
  · rw [if_neg k1]
    have pd : (0 : Int) < (d : Int) := by omega
    have pe : (0 : Int) < (e : Int) := by omega
    by_cases k2 : w < 0
    · rw [if_pos k2]
      have kz : z < 0 := by
        rcases (by omega : z < 0 ∨ 0 ≤ z) with h1 | h1
        · exact h1
        · exfalso
          have h3 : 0 ≤ z * (e : Int) := Int.mul_nonneg h1 (by omega)
          have h4 : w * (d : Int) < 0 := Int.mul_neg_of_neg_of_pos k2 pd
          omega
      have en := ends_neg kz k2 hd he c1 c2 h
      obtain ⟨o1, o2, o3, o4, o5, o6, o7⟩ := btw_ok (e + d) w.natAbs e z.natAbs d en (Nat.le_refl _)
      obtain ⟨l1, l2, l3⟩ := btw_law (e + d) w.natAbs e z.natAbs d en (Nat.le_refl _)
      generalize btw (e + d) w.natAbs e z.natAbs d = r at *
      obtain ⟨u, rfl⟩ : ∃ u : Nat, z = -(u : Int) := ⟨z.natAbs, by omega⟩
      obtain ⟨v, rfl⟩ : ∃ v : Nat, w = -(v : Int) := ⟨w.natAbs, by omega⟩
      simp only [Int.natAbs_neg, nat_abs] at *
      refine ⟨by simp only; omega, by simp only [Int.natAbs_neg, nat_abs]; exact o3, ?_, ?_, fun x y hy hx1 hx2 => ?_, by simp only [Int.natAbs_neg, nat_abs]; exact o6, o7⟩
      · show -(u : Int) * (r.2 : Int) ≤ -(r.1 : Int) * (d : Int)
        rw [Int.neg_mul, Int.neg_mul, ← Int.natCast_mul, ← Int.natCast_mul]; omega
      · show -(r.1 : Int) * (e : Int) ≤ -(v : Int) * (r.2 : Int)
        rw [Int.neg_mul, Int.neg_mul, ← Int.natCast_mul, ← Int.natCast_mul]; omega
      · show r.2 ≤ y
        have hxn : x < 0 := by
          rcases (by omega : x < 0 ∨ 0 ≤ x) with h1 | h1
          · exact h1
          · exfalso
            have h3 : 0 ≤ x * (e : Int) := Int.mul_nonneg h1 (by omega)
            have h4 : -(v : Int) * (y : Int) < 0 := Int.mul_neg_of_neg_of_pos k2 (by omega)
            omega
        obtain ⟨x', rfl⟩ : ∃ x' : Nat, x = -(x' : Int) := ⟨x.natAbs, by omega⟩
        rw [Int.neg_mul, Int.neg_mul, ← Int.natCast_mul, ← Int.natCast_mul] at hx1 hx2
        exact (l3 x' y hy (by omega) (by omega)).2
    · rw [if_neg k2]
      have kz : 0 < z := by omega
      have kw : 0 < w := by
        rcases (by omega : 0 < w ∨ w ≤ 0) with h1 | h1
        · exact h1
        · exfalso
          have h3 : 0 < z * (e : Int) := Int.mul_pos kz pe
          have h4 : w * (d : Int) ≤ 0 := Int.mul_nonpos_of_nonpos_of_nonneg h1 (by omega)
          omega
      have en := ends_pos kz kw hd he c1 c2 h
      obtain ⟨o1, o2, o3, o4, o5, o6, o7⟩ := btw_ok (d + e) z.natAbs d w.natAbs e en (Nat.le_refl _)
      obtain ⟨l1, l2, l3⟩ := btw_law (d + e) z.natAbs d w.natAbs e en (Nat.le_refl _)
      generalize btw (d + e) z.natAbs d w.natAbs e = r at *
      obtain ⟨u, rfl⟩ : ∃ u : Nat, z = (u : Int) := ⟨z.natAbs, by omega⟩
      obtain ⟨v, rfl⟩ : ∃ v : Nat, w = (v : Int) := ⟨w.natAbs, by omega⟩
      simp only [nat_abs] at *
      refine ⟨by simp only; omega, by simp only [nat_abs]; exact o3, ?_, ?_, fun x y hy hx1 hx2 => ?_, by simp only [nat_abs]; exact o4, o5⟩
      · show (u : Int) * (r.2 : Int) ≤ (r.1 : Int) * (d : Int)
        rw [← Int.natCast_mul, ← Int.natCast_mul]; omega
      · show (r.1 : Int) * (e : Int) ≤ (v : Int) * (r.2 : Int)
        rw [← Int.natCast_mul, ← Int.natCast_mul]; omega
      · show r.2 ≤ y
        have hxn : 0 < x := by
          rcases (by omega : 0 < x ∨ x ≤ 0) with h1 | h1
          · exact h1
          · exfalso
            have h3 : 0 < (u : Int) * (y : Int) := Int.mul_pos kz (by omega)
            have h4 : x * (d : Int) ≤ 0 := Int.mul_nonpos_of_nonpos_of_nonneg h1 (by omega)
            omega
        obtain ⟨x', rfl⟩ : ∃ x' : Nat, x = (x' : Int) := ⟨x.natAbs, by omega⟩
        rw [← Int.natCast_mul, ← Int.natCast_mul] at hx1 hx2
        exact (l3 x' y hy (by omega) (by omega)).2
end Go.Proofs.YtgejbndgakgfnaaGreatDoor
