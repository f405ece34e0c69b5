/-
  Rational numbers: the order, as rational numbers; the simplest number's law.
-/
import Derived.Test.YtbkpaeejjepnpaaGreatQV
namespace Go.Proofs.YtbkpaeejjepnpaaGreat
open Go Go.RowKit Ab
set_option linter.unusedSimpArgs false
set_option linter.unusedVariables false
set_option maxHeartbeats 10000000
theorem le_q {z w : Int} {d e : Nat} (hd : d ≠ 0) (he : e ≠ 0) : mkRat z d ≤ mkRat w e ↔ z * (e : Int) ≤ w * (d : Int) := by
  rw [Rat.le_iff, ← r_num hd, ← r_num he, ← r_den hd, ← r_den he]
  exact r_le hd he
theorem lt_q {z w : Int} {d e : Nat} (hd : d ≠ 0) (he : e ≠ 0) : mkRat z d < mkRat w e ↔ z * (e : Int) < w * (d : Int) := by
  rw [← Rat.not_le, le_q he hd]; omega
def cq (p q : Rat) : Int := if p < q then -1 else if p = q then 0 else 1
theorem cz_q {z w : Int} {d e : Nat} (hd : d ≠ 0) (he : e ≠ 0) : cz (z * (e : Int)) (w * (d : Int)) = cq (mkRat z d) (mkRat w e) := by
  unfold cz cq
  simp only [lt_q hd he, Rat.mkRat_eq_iff hd he]
theorem qcmpR {v w : V} {p q : Rat} {m : Nat} (hv : Rr v p m) (hw : Rr w q m) (hm : m ≤ 3000000) : AFun Tryz.prog J0 27 [v, w] (.t [.i .i64 (cq p q), .i .i64 0]) := by
  obtain ⟨s, a, d, rfl, ha, hd, la, ld, h0, rfl⟩ := hv
  obtain ⟨t, b, e, rfl, hb, he, lb, le, k0, rfl⟩ := hw
  have h := qcmp_spec s t a b d e m (by omega) ha hb hd he la lb ld le
  rw [if_neg (Nat.mul_ne_zero h0 k0), re_p (Nat.mul_ne_zero h0 k0), cz_q h0 k0] at h
  exact h
structure Smp (z : Int) (d : Nat) (w : Int) (e : Nat) (t : Int × Nat) : Prop where
  n0 : t.2 ≠ 0
  co : Nat.gcd t.1.natAbs t.2 = 1
  lo : z * (t.2 : Int) ≤ t.1 * (d : Int)
  hi : t.1 * (e : Int) ≤ w * (t.2 : Int)
  mi : ∀ (x : Int) (y : Nat), 0 < y → z * (y : Int) ≤ x * (d : Int) → x * (e : Int) ≤ w * (y : Int) → t.2 ≤ y
  bn : t.1.natAbs ≤ z.natAbs
  bd : t.2 ≤ d
end Go.Proofs.YtbkpaeejjepnpaaGreat
