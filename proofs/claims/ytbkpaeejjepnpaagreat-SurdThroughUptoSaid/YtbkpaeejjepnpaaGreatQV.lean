/-
  Rational numbers: what the calls compute, as rational numbers.
-/
import Derived.Test.YtbkpaeejjepnpaaGreatQE
namespace Go.Proofs.YtbkpaeejjepnpaaGreat
open Go Go.RowKit Ab
set_option linter.unusedSimpArgs false
set_option linter.unusedVariables false
set_option maxHeartbeats 10000000
theorem r_num {z : Int} {d : Nat} (h : d ≠ 0) : rz z d = (mkRat z d).num := by
  rw [Rat.num_mkRat, if_neg h, Nat.gcd_comm]
  show z.tdiv (Nat.gcd z.natAbs d : Int) = _
  exact Int.tdiv_eq_ediv_of_dvd (Int.ofNat_dvd_left.2 (Nat.gcd_dvd_left _ _))
theorem r_den {z : Int} {d : Nat} (h : d ≠ 0) : rden z d = (mkRat z d).den := by
  rw [Rat.den_mkRat, if_neg h, Nat.gcd_comm]; rfl
def Rr (v : V) (p : Rat) (m : Nat) : Prop := ∃ (s : Bool) (a d : List Nat), v = rL s a d ∧ Wd a ∧ Wd d ∧ a.length ≤ m ∧ d.length ≤ m ∧ nv B d ≠ 0 ∧ mkRat (zv s a) (nv B d) = p
theorem Rr_raw {s : Bool} {a d : List Nat} {m : Nat} (ha : Wd a) (hd : Wd d) (la : a.length ≤ m) (ld : d.length ≤ m) (h : nv B d ≠ 0) : Rr (rL s a d) (mkRat (zv s a) (nv B d)) m := ⟨s, a, d, rfl, ha, hd, la, ld, h, rfl⟩
theorem Rr_c {p : Rat} {m : Nat} (h1 : p.num.natAbs < B ^ m) (h2 : p.den < B ^ m) : Rr (rN p.num p.den) p m :=
  ⟨_, _, _, rfl, Wd_dg _, Wd_dg _, dlen h1, dlen h2, by rw [nv_dgB]; exact p.den_nz, by rw [zv_N, nv_dgB]; exact Rat.mkRat_self p⟩
theorem rv_q {z : Int} {d m : Nat} {p : Rat} (h : d ≠ 0) (e : mkRat z d = p) (hz : z.natAbs < B ^ m) (hd : d < B ^ m) : rv z d = rN p.num p.den ∧ re d = 0 ∧ Rr (rN p.num p.den) p m := by
  subst e
  refine ⟨by rw [rv_p _ h, r_num h, r_den h], re_p h, Rr_c ?_ ?_⟩
  · rw [← r_num h, rz_abs]; exact Nat.lt_of_le_of_lt (Nat.div_le_self _ _) hz
  · rw [← r_den h]; exact Nat.lt_of_le_of_lt (Nat.div_le_self _ _) hd
theorem mk_sub (z w : Int) {d e : Nat} (hd : d ≠ 0) (he : e ≠ 0) : mkRat z d - mkRat w e = mkRat (z * (e : Int) - w * (d : Int)) (d * e) := by
  rw [Rat.sub_eq_add_neg, Rat.neg_mkRat, Rat.mkRat_add_mkRat _ _ hd he, Int.neg_mul, ← Int.sub_eq_add_neg]
theorem qaddR {v w : V} {p q : Rat} {m : Nat} (hv : Rr v p m) (hw : Rr w q m) (hm : m ≤ 49000000) : AFun Tryz.prog J0 50 [v, w] (.t [rN (p + q).num (p + q).den, .i .i64 0]) ∧ Rr (rN (p + q).num (p + q).den) (p + q) (m + m + 1) := by
  obtain ⟨s, a, d, rfl, ha, hd, la, ld, h0, rfl⟩ := hv
  obtain ⟨t, b, e, rfl, hb, he, lb, le, k0, rfl⟩ := hw
  have h := qadd_spec s t a b d e m (by omega) ha hb hd he la lb ld le
  obtain ⟨e1, e2, e3⟩ := rv_q (m := m + m + 1) (Nat.mul_ne_zero h0 k0) (Rat.mkRat_add_mkRat (zv s a) (zv t b) h0 k0).symm (Nat.lt_of_le_of_lt (Int.natAbs_add_le _ _) (padd (mul_lt (zv_lt ha la) (nvlt he le)) (mul_lt (zv_lt hb lb) (nvlt hd ld)))) (pup (mulN_lt (nvlt hd ld) (nvlt he le)) (by omega))
  rw [e1, e2] at h
  exact ⟨h, e3⟩
theorem qsubR {v w : V} {p q : Rat} {m : Nat} (hv : Rr v p m) (hw : Rr w q m) (hm : m ≤ 49000000) : AFun Tryz.prog J0 49 [v, w] (.t [rN (p - q).num (p - q).den, .i .i64 0]) ∧ Rr (rN (p - q).num (p - q).den) (p - q) (m + m + 1) := by
  obtain ⟨s, a, d, rfl, ha, hd, la, ld, h0, rfl⟩ := hv
  obtain ⟨t, b, e, rfl, hb, he, lb, le, k0, rfl⟩ := hw
  have h := qsub_spec s t a b d e m (by omega) ha hb hd he la lb ld le
  obtain ⟨e1, e2, e3⟩ := rv_q (m := m + m + 1) (Nat.mul_ne_zero h0 k0) (mk_sub (zv s a) (zv t b) h0 k0).symm (Nat.lt_of_le_of_lt (Int.natAbs_sub_le _ _) (padd (mul_lt (zv_lt ha la) (nvlt he le)) (mul_lt (zv_lt hb lb) (nvlt hd ld)))) (pup (mulN_lt (nvlt hd ld) (nvlt he le)) (by omega))
  rw [e1, e2] at h
  exact ⟨h, e3⟩
theorem qmulR {v w : V} {p q : Rat} {m : Nat} (hv : Rr v p m) (hw : Rr w q m) (hm : m ≤ 49000000) : AFun Tryz.prog J0 44 [v, w] (.t [rN (p * q).num (p * q).den, .i .i64 0]) ∧ Rr (rN (p * q).num (p * q).den) (p * q) (m + m) := by
  obtain ⟨s, a, d, rfl, ha, hd, la, ld, h0, rfl⟩ := hv
  obtain ⟨t, b, e, rfl, hb, he, lb, le, k0, rfl⟩ := hw
  have h := qmul_spec s t a b d e m (by omega) ha hb hd he la lb ld le
  obtain ⟨e1, e2, e3⟩ := rv_q (m := m + m) (Nat.mul_ne_zero h0 k0) (Rat.mkRat_mul_mkRat (zv s a) (zv t b) (nv B d) (nv B e)).symm (mul_lt (zv_lt ha la) (zv_lt hb lb)) (mulN_lt (nvlt hd ld) (nvlt he le))
  rw [e1, e2] at h
  exact ⟨h, e3⟩
theorem mz_lt {x y : Int} {m : Nat} (h : x.natAbs < B ^ m) : (mz x y).natAbs < B ^ m := by unfold mz; split; (rw [Int.natAbs_neg]; exact h); exact h
theorem mk_quo {z w : Int} {d e : Nat} (hd : d ≠ 0) (he : e ≠ 0) (hw : w ≠ 0) : mkRat (mz (z * (e : Int)) (w * (d : Int))) (w * (d : Int)).natAbs = mkRat z d / mkRat w e := by
  have hwd : (w * (d : Int)).natAbs ≠ 0 := by rw [Int.natAbs_mul]; exact Nat.mul_ne_zero (by omega) (by simpa using hd)
  have hq : mkRat w e ≠ 0 := (Rat.mkRat_ne_zero he).2 hw
  have key : mkRat (mz (z * (e : Int)) (w * (d : Int))) (w * (d : Int)).natAbs * mkRat w e = mkRat z d := by
    rw [Rat.mkRat_mul_mkRat, Rat.mkRat_eq_iff (Nat.mul_ne_zero hwd he) hd, Int.natCast_mul]
    have hn : (((w * (d : Int)).natAbs : Nat) : Int) = if w * (d : Int) < 0 then -(w * (d : Int)) else w * (d : Int) := by split <;> omega
    rw [hn]
    unfold mz
    split
    · grind
    · grind
  rw [← key]
  generalize mkRat (mz (z * (e : Int)) (w * (d : Int))) (w * (d : Int)).natAbs = x at *
  generalize mkRat w e = y at *
  grind
theorem qquoR {v w : V} {p q : Rat} {m : Nat} (hv : Rr v p m) (hw : Rr w q m) (hm : m ≤ 49000000) (hq : q ≠ 0) : AFun Tryz.prog J0 48 [v, w] (.t [rN (p / q).num (p / q).den, .i .i64 0]) ∧ Rr (rN (p / q).num (p / q).den) (p / q) (m + m) := by
  obtain ⟨s, a, d, rfl, ha, hd, la, ld, h0, rfl⟩ := hv
  obtain ⟨t, b, e, rfl, hb, he, lb, le, k0, rfl⟩ := hw
  have hw0 : zv t b ≠ 0 := (Rat.mkRat_ne_zero k0).1 hq
  have h := qquo_spec s t a b d e m (by omega) ha hb hd he la lb ld le (Nat.mul_ne_zero h0 k0)
  have hwd : (zv t b * (nv B d : Int)).natAbs ≠ 0 := by rw [Int.natAbs_mul]; exact Nat.mul_ne_zero (by omega) (by simpa using h0)
  obtain ⟨e1, e2, e3⟩ := rv_q (m := m + m) hwd (mk_quo h0 k0 hw0) (mz_lt (mul_lt (zv_lt ha la) (nvlt he le))) (mul_lt (zv_lt hb lb) (nvlt hd ld))
  rw [e1, e2] at h
  exact ⟨h, e3⟩
theorem qnormR {v : V} {p : Rat} {m : Nat} (hv : Rr v p m) (hm : m ≤ 49000000) : AFun Tryz.prog J0 39 [v] (.t [rN p.num p.den, .i .i64 0]) ∧ Rr (rN p.num p.den) p m := by
  obtain ⟨s, a, d, rfl, ha, hd, la, ld, h0, rfl⟩ := hv
  have h := qnorm_spec s a d m (by omega) ha hd la ld
  obtain ⟨e1, e2, e3⟩ := rv_q (m := m) h0 rfl (zv_lt (s := s) ha la) (nvlt hd ld)
  rw [e1, e2] at h
  exact ⟨h, e3⟩
theorem Rr_num {v : V} {p : Rat} {m : Nat} (hv : Rr v p m) : p.num.natAbs < B ^ m ∧ p.den < B ^ m := by
  obtain ⟨s, a, d, rfl, ha, hd, la, ld, h0, rfl⟩ := hv
  rw [← r_num h0, ← r_den h0, rz_abs]
  exact ⟨Nat.lt_of_le_of_lt (Nat.div_le_self _ _) (zv_lt ha la), Nat.lt_of_le_of_lt (Nat.div_le_self _ _) (nvlt hd ld)⟩
end Go.Proofs.YtbkpaeejjepnpaaGreat
