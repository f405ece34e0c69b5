/-
  Rational numbers: middles, floors, signs, powers of two, as rational numbers.
-/
import Derived.Test.YtgejbndgakgfnaaGreatDoorQO
import Derived.Test.YtgejbndgakgfnaaGreatDoorQ21
namespace Go.Proofs.YtgejbndgakgfnaaGreatDoor
open Go Go.RowKit Ab
set_option linter.unusedSimpArgs false
set_option linter.unusedVariables false
set_option maxHeartbeats 10000000
theorem mk_mid (z w : Int) {d e : Nat} (hd : d ≠ 0) (he : e ≠ 0) : mkRat (z * (e : Int) + w * (d : Int)) (d * e * 2) = (mkRat z d + mkRat w e) / 2 := by
  have h2 : (2 : Rat) = mkRat 2 1 := rfl
  rw [Rat.mkRat_add_mkRat _ _ hd he]
  have h0 : d * e ≠ 0 := Nat.mul_ne_zero hd he
  have key : mkRat (z * (e : Int) + w * (d : Int)) (d * e * 2) * 2 = mkRat (z * (e : Int) + w * (d : Int)) (d * e) := by
    rw [h2, Rat.mkRat_mul_mkRat, Rat.mkRat_eq_iff (by omega) h0]
    rw [Nat.mul_one, Int.natCast_mul (d * e) 2]
    grind
  rw [← key]
  generalize mkRat (z * (e : Int) + w * (d : Int)) (d * e * 2) = x
  grind
theorem qmidR {v w : V} {p q : Rat} {m : Nat} (hv : Rr v p m) (hw : Rr w q m) (hm : m ≤ 3000000) : AFun Tryz.prog J0 35 [v, w] (.t [rN ((p + q) / 2).num ((p + q) / 2).den, .i .i64 0]) ∧ Rr (rN ((p + q) / 2).num ((p + q) / 2).den) ((p + q) / 2) (m + m + 1) := by
  obtain ⟨s, a, d, rfl, ha, hd, la, ld, h0, rfl⟩ := hv
  obtain ⟨t, b, e, rfl, hb, he, lb, le, k0, rfl⟩ := hw
  have h := qmid_spec s t a b d e m (by omega) ha hb hd he la lb ld le
  have hD : nv B d * nv B e * 2 ≠ 0 := by have := Nat.mul_ne_zero h0 k0; omega
  have bD := mulN_lt (nvlt hd ld) (nvlt he le)
  obtain ⟨e1, e2, e3⟩ := rv_q (m := m + m + 1) hD (mk_mid (zv s a) (zv t b) h0 k0) (Nat.lt_of_le_of_lt (Int.natAbs_add_le _ _) (padd (mul_lt (zv_lt ha la) (nvlt he le)) (mul_lt (zv_lt hb lb) (nvlt hd ld)))) (by rw [Nat.mul_two]; exact padd bD bD)
  rw [e1, e2] at h
  exact ⟨h, e3⟩
theorem cq_shift (p q r : Rat) : cq (p + r) (q + r) = cq p q := by unfold cq; grind
theorem cq_sub (p q : Rat) : cq (p - q) 0 = cq p q := by
  have h := cq_shift (p - q) 0 q
  rw [show p - q + q = p from by grind, show (0 : Rat) + q = q from by grind] at h
  exact h.symm
theorem lt_mid1 (p q : Rat) : (p < (p + q) / 2) = (p < q) := by
  refine propext ⟨fun h => ?_, fun h => ?_⟩ <;> grind
theorem lt_mid2 (p q : Rat) : ((p + q) / 2 < q) = (p < q) := by
  refine propext ⟨fun h => ?_, fun h => ?_⟩ <;> grind
theorem eq_mid1 (p q : Rat) : (p = (p + q) / 2) = (p = q) := by
  refine propext ⟨fun h => ?_, fun h => ?_⟩ <;> grind
theorem eq_mid2 (p q : Rat) : ((p + q) / 2 = q) = (p = q) := by
  refine propext ⟨fun h => ?_, fun h => ?_⟩ <;> grind
theorem cq_mid1 (p q : Rat) : cq p ((p + q) / 2) = cq p q := by unfold cq; simp only [lt_mid1, eq_mid1]
theorem cq_mid2 (p q : Rat) : cq ((p + q) / 2) q = cq p q := by unfold cq; simp only [lt_mid2, eq_mid2]
theorem sgz_q (z : Int) {d : Nat} (hd : d ≠ 0) : sgz z = cq (mkRat z d) 0 := by
  have h := cz_q (z := z) (w := 0) (d := d) (e := 1) hd (by decide)
  rw [Rat.zero_mkRat] at h
  rw [← h]
  unfold sgz cz
  split
  · rw [if_pos (by omega)]
  · split
    · rw [if_neg (by omega), if_neg (by omega)]
    · rw [if_neg (by omega), if_pos (by omega)]
theorem qsignR {v : V} {p : Rat} {m : Nat} (hv : Rr v p m) (hm : m ≤ 3000000) : AFun Tryz.prog J0 30 [v] (.t [.i .i64 (cq p 0), .i .i64 0]) := by
  obtain ⟨s, a, d, rfl, ha, hd, la, ld, h0, rfl⟩ := hv
  have h := qsign_spec s a d m (by omega) ha hd la ld
  rw [if_neg h0, re_p h0, sgz_q _ h0] at h
  exact h
end Go.Proofs.YtgejbndgakgfnaaGreatDoor
