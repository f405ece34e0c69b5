/-
  Rational numbers: middles, floors, signs, powers of two, as rational numbers.
-/
import Derived.Test.YtfcpigjmagbnkaaGreatDoorQO
import Derived.Test.YtfcpigjmagbnkaaGreatDoorQ21
namespace Go.Proofs.YtfcpigjmagbnkaaGreatDoor
open Go Go.RowKit Ab
set_option linter.unusedSimpArgs false
set_option linter.unusedVariables false
set_option maxHeartbeats 10000000
theorem mk_mid (z w : Int) {d e : Nat} (hd : d ≠ 0) (he : e ≠ 0) : mkRat (z * (e : Int) + w * (d : Int)) (d * e * 2) = (mkRat z d + mkRat w e) / 2 := by
  have h2 : (2 : Rat) = mkRat 2 1 := rfl
  rw [Rat.mkRat_add_mkRat _ _ hd he]
  have h0 : d * e ≠ 0 := Nat.mul_ne_zero hd he
  have key : mkRat (z * (e : Int) + w * (d : Int)) (d * e * 2) * 2 = mkRat (z * (e : Int) + w * (d : Int)) (d * e) := by
    rw [h2, Rat.mkRat_mul_mkRat, Rat.mkRat_eq_iff (by omega) h0]
    rw [Nat.mul_one, Int.natCast_mul (d * e) 2]
    grind
  rw [← key]
  generalize mkRat (z * (e : Int) + w * (d : Int)) (d * e * 2) = x
  grind
theorem qmidR {v w : V} {p q : Rat} {m : Nat} (hv : Rr v p m) (hw : Rr w q m) (hm : m ≤ 3000000) : AFun Tryz.prog J0 55 [v, w] (.t [rN ((p + q) / 2).num ((p + q) / 2).den, .i .i64 0]) ∧ Rr (rN ((p + q) / 2).num ((p + q) / 2).den) ((p + q) / 2) (m + m + 1) := by
  obtain ⟨s, a, d, rfl, ha, hd, la, ld, h0, rfl⟩ := hv
  obtain ⟨t, b, e, rfl, hb, he, lb, le, k0, rfl⟩ := hw
  have h := qmid_spec s t a b d e m (by omega) ha hb hd he la lb ld le
  have hD : nv B d * nv B e * 2 ≠ 0 := by have := Nat.mul_ne_zero h0 k0; omega
  have bD := mulN_lt (nvlt hd ld) (nvlt he le)
  obtain ⟨e1, e2, e3⟩ := rv_q (m := m + m + 1) hD (mk_mid (zv s a) (zv t b) h0 k0) (Nat.lt_of_le_of_lt (Int.natAbs_add_le _ _) (padd (mul_lt (zv_lt ha la) (nvlt he le)) (mul_lt (zv_lt hb lb) (nvlt hd ld)))) (by rw [Nat.mul_two]; exact padd bD bD)
  rw [e1, e2] at h
  exact ⟨h, e3⟩
end Go.Proofs.YtfcpigjmagbnkaaGreatDoor
