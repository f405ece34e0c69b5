/-
  Rational numbers: what the calls compute, as rational numbers.
-/
import Derived.Test.YtfcpigjmagbnkaaGreatDoorQE
namespace Go.Proofs.YtfcpigjmagbnkaaGreatDoor
open Go Go.RowKit Ab
set_option linter.unusedSimpArgs false
set_option linter.unusedVariables false
set_option maxHeartbeats 10000000
theorem r_num {z : Int} {d : Nat} (h : d ≠ 0) : rz z d = (mkRat z d).num := by
  rw [Rat.num_mkRat, if_neg h, Nat.gcd_comm]
  show z.tdiv (Nat.gcd z.natAbs d : Int) = _
  exact Int.tdiv_eq_ediv_of_dvd (Int.ofNat_dvd_left.2 (Nat.gcd_dvd_left _ _))
theorem r_den {z : Int} {d : Nat} (h : d ≠ 0) : rden z d = (mkRat z d).den := by
  rw [Rat.den_mkRat, if_neg h, Nat.gcd_comm]; rfl
def Rr (v : V) (p : Rat) (m : Nat) : Prop := ∃ (s : Bool) (a d : List Nat), v = rL s a d ∧ Wd a ∧ Wd d ∧ a.length ≤ m ∧ d.length ≤ m ∧ nv B d ≠ 0 ∧ mkRat (zv s a) (nv B d) = p
theorem Rr_raw {s : Bool} {a d : List Nat} {m : Nat} (ha : Wd a) (hd : Wd d) (la : a.length ≤ m) (ld : d.length ≤ m) (h : nv B d ≠ 0) : Rr (rL s a d) (mkRat (zv s a) (nv B d)) m := ⟨s, a, d, rfl, ha, hd, la, ld, h, rfl⟩
theorem Rr_c {p : Rat} {m : Nat} (h1 : p.num.natAbs < B ^ m) (h2 : p.den < B ^ m) : Rr (rN p.num p.den) p m :=
  ⟨_, _, _, rfl, Wd_dg _, Wd_dg _, dlen h1, dlen h2, by rw [nv_dgB]; exact p.den_nz, by rw [zv_N, nv_dgB]; exact Rat.mkRat_self p⟩
theorem Rr_up {v : V} {p : Rat} {m n : Nat} (h : Rr v p m) (k : m ≤ n) : Rr v p n := by
  obtain ⟨s, a, d, h1, h2, h3, h4, h5, h6⟩ := h
  exact ⟨s, a, d, h1, h2, h3, by omega, by omega, h6⟩
theorem rv_q {z : Int} {d m : Nat} {p : Rat} (h : d ≠ 0) (e : mkRat z d = p) (hz : z.natAbs < B ^ m) (hd : d < B ^ m) : rv z d = rN p.num p.den ∧ re d = 0 ∧ Rr (rN p.num p.den) p m := by
  subst e
  refine ⟨by rw [rv_p _ h, r_num h, r_den h], re_p h, Rr_c ?_ ?_⟩
  · rw [← r_num h, rz_abs]; exact Nat.lt_of_le_of_lt (Nat.div_le_self _ _) hz
  · rw [← r_den h]; exact Nat.lt_of_le_of_lt (Nat.div_le_self _ _) hd
theorem Rr_num {v : V} {p : Rat} {m : Nat} (hv : Rr v p m) : p.num.natAbs < B ^ m ∧ p.den < B ^ m := by
  obtain ⟨s, a, d, rfl, ha, hd, la, ld, h0, rfl⟩ := hv
  rw [← r_num h0, ← r_den h0, rz_abs]
  exact ⟨Nat.lt_of_le_of_lt (Nat.div_le_self _ _) (zv_lt ha la), Nat.lt_of_le_of_lt (Nat.div_le_self _ _) (nvlt hd ld)⟩
end Go.Proofs.YtfcpigjmagbnkaaGreatDoor
