/-
  Rational numbers: what the calls compute, as rational numbers.
-/
import Derived.Test.YtfcpigjmagbnkaaGreatDoorQE
namespace Go.Proofs.YtfcpigjmagbnkaaGreatDoor
open Go Go.RowKit Ab
set_option linter.unusedSimpArgs false
set_option linter.unusedVariables false
set_option maxHeartbeats 10000000
theorem bz_QV : type_of% (And.intro @W_len (And.intro @D_len (And.intro @Nat.div_one (And.intro @Nat.mul_one (And.intro @tn_nat (And.intro @W_nf (And.intro @D_nf (And.intro @W_nil (And.intro @D_nil (And.intro @wi (And.intro @nf_g (And.intro @Bool.false_and (@W_cell))))))))))))) := And.intro @W_len (And.intro @D_len (And.intro @Nat.div_one (And.intro @Nat.mul_one (And.intro @tn_nat (And.intro @W_nf (And.intro @D_nf (And.intro @W_nil (And.intro @D_nil (And.intro @wi (And.intro @nf_g (And.intro @Bool.false_and (@W_cell))))))))))))
theorem r_num {z : Int} {d : Nat} (h : d ≠ 0) : rz z d = (mkRat z d).num := by
  rw [Rat.num_mkRat, if_neg h, Nat.gcd_comm]
  show z.tdiv (Nat.gcd z.natAbs d : Int) = _
  exact Int.tdiv_eq_ediv_of_dvd (Int.ofNat_dvd_left.2 (Nat.gcd_dvd_left _ _))
theorem r_den {z : Int} {d : Nat} (h : d ≠ 0) : rden z d = (mkRat z d).den := by
  rw [Rat.den_mkRat, if_neg h, Nat.gcd_comm]; rfl
def Rr (v : V) (p : Rat) (m : Nat) : Prop := ∃ (s : Bool) (a d : List Nat), v = rL s a d ∧ Wd a ∧ Wd d ∧ a.length ≤ m ∧ d.length ≤ m ∧ nv B d ≠ 0 ∧ mkRat (zv s a) (nv B d) = p
theorem Rr_raw {s : Bool} {a d : List Nat} {m : Nat} (ha : Wd a) (hd : Wd d) (la : a.length ≤ m) (ld : d.length ≤ m) (h : nv B d ≠ 0) : Rr (rL s a d) (mkRat (zv s a) (nv B d)) m := ⟨s, a, d, rfl, ha, hd, la, ld, h, rfl⟩
theorem Rr_c {p : Rat} {m : Nat} (h1 : p.num.natAbs < B ^ m) (h2 : p.den < B ^ m) : Rr (rN p.num p.den) p m :=
  ⟨_, _, _, rfl, Wd_dg _, Wd_dg _, dlen h1, dlen h2, by rw [nv_dgB]; exact p.den_nz, by rw [zv_N, nv_dgB]; exact Rat.mkRat_self p⟩
theorem Rr_up {v : V} {p : Rat} {m n : Nat} (h : Rr v p m) (k : m ≤ n) : Rr v p n := by
  obtain ⟨s, a, d, h1, h2, h3, h4, h5, h6⟩ := h
  exact ⟨s, a, d, h1, h2, h3, by omega, by omega, h6⟩
theorem rv_q {z : Int} {d m : Nat} {p : Rat} (h : d ≠ 0) (e : mkRat z d = p) (hz : z.natAbs < B ^ m) (hd : d < B ^ m) : rv z d = rN p.num p.den ∧ re d = 0 ∧ Rr (rN p.num p.den) p m := by
  subst e
  refine ⟨by rw [rv_p _ h, r_num h, r_den h], re_p h, Rr_c ?_ ?_⟩
  · rw [← r_num h, rz_abs]; exact Nat.lt_of_le_of_lt (Nat.div_le_self _ _) hz
  · rw [← r_den h]; exact Nat.lt_of_le_of_lt (Nat.div_le_self _ _) hd
theorem mk_sub (z w : Int) {d e : Nat} (hd : d ≠ 0) (he : e ≠ 0) : mkRat z d - mkRat w e = mkRat (z * (e : Int) - w * (d : Int)) (d * e) := by
  rw [Rat.sub_eq_add_neg, Rat.neg_mkRat, Rat.mkRat_add_mkRat _ _ hd he, Int.neg_mul, ← Int.sub_eq_add_neg]
theorem qaddR {v w : V} {p q : Rat} {m : Nat} (hv : Rr v p m) (hw : Rr w q m) (hm : m ≤ 3000000) : AFun Tryz.prog J0 98 [v, w] (.t [rN (p + q).num (p + q).den, .i .i64 0]) ∧ Rr (rN (p + q).num (p + q).den) (p + q) (m + m + 1) := by
  obtain ⟨s, a, d, rfl, ha, hd, la, ld, h0, rfl⟩ := hv
  obtain ⟨t, b, e, rfl, hb, he, lb, le, k0, rfl⟩ := hw
  have h := qadd_spec s t a b d e m (by omega) ha hb hd he la lb ld le
  obtain ⟨e1, e2, e3⟩ := rv_q (m := m + m + 1) (Nat.mul_ne_zero h0 k0) (Rat.mkRat_add_mkRat (zv s a) (zv t b) h0 k0).symm (Nat.lt_of_le_of_lt (Int.natAbs_add_le _ _) (padd (mul_lt (zv_lt ha la) (nvlt he le)) (mul_lt (zv_lt hb lb) (nvlt hd ld)))) (pup (mulN_lt (nvlt hd ld) (nvlt he le)) (by omega))
  rw [e1, e2] at h
  exact ⟨h, e3⟩
theorem mz_lt {x y : Int} {m : Nat} (h : x.natAbs < B ^ m) : (mz x y).natAbs < B ^ m := by unfold mz; split; (rw [Int.natAbs_neg]; exact h); exact h
theorem mk_quo {z w : Int} {d e : Nat} (hd : d ≠ 0) (he : e ≠ 0) (hw : w ≠ 0) : mkRat (mz (z * (e : Int)) (w * (d : Int))) (w * (d : Int)).natAbs = mkRat z d / mkRat w e := by
  have hwd : (w * (d : Int)).natAbs ≠ 0 := by rw [Int.natAbs_mul]; exact Nat.mul_ne_zero (by omega) (by simpa using hd)
  have hq : mkRat w e ≠ 0 := (Rat.mkRat_ne_zero he).2 hw
  have key : mkRat (mz (z * (e : Int)) (w * (d : Int))) (w * (d : Int)).natAbs * mkRat w e = mkRat z d := by
    rw [Rat.mkRat_mul_mkRat, Rat.mkRat_eq_iff (Nat.mul_ne_zero hwd he) hd, Int.natCast_mul]
    have hn : (((w * (d : Int)).natAbs : Nat) : Int) = if w * (d : Int) < 0 then -(w * (d : Int)) else w * (d : Int) := by split <;> omega
    rw [hn]
    unfold mz
    split
    · grind
    · grind
  rw [← key]
  generalize mkRat (mz (z * (e : Int)) (w * (d : Int))) (w * (d : Int)).natAbs = x at *
  generalize mkRat w e = y at *
  grind
theorem qnormR {v : V} {p : Rat} {m : Nat} (hv : Rr v p m) (hm : m ≤ 3000000) : AFun Tryz.prog J0 116 [v] (.t [rN p.num p.den, .i .i64 0]) ∧ Rr (rN p.num p.den) p m := by
  obtain ⟨s, a, d, rfl, ha, hd, la, ld, h0, rfl⟩ := hv
  have h := qnorm_spec s a d m (by omega) ha hd la ld
  obtain ⟨e1, e2, e3⟩ := rv_q (m := m) h0 rfl (zv_lt (s := s) ha la) (nvlt hd ld)
  rw [e1, e2] at h
  exact ⟨h, e3⟩
theorem Rr_num {v : V} {p : Rat} {m : Nat} (hv : Rr v p m) : p.num.natAbs < B ^ m ∧ p.den < B ^ m := by
  obtain ⟨s, a, d, rfl, ha, hd, la, ld, h0, rfl⟩ := hv
  rw [← r_num h0, ← r_den h0, rz_abs]
  exact ⟨Nat.lt_of_le_of_lt (Nat.div_le_self _ _) (zv_lt ha la), Nat.lt_of_le_of_lt (Nat.div_le_self _ _) (nvlt hd ld)⟩
theorem mk_pow (p : Rat) (n : Nat) : mkRat (p.num ^ n) (p.den ^ n) = p ^ n := by
  rw [← Rat.num_pow, ← Rat.den_pow]; exact Rat.mkRat_self _
def sumQ (l : List (Bool × List Nat × List Nat)) : Nat → Rat
  | 0 => 0
  | i + 1 => sumQ l i + mkRat (zv (l.getD i nul3).1 (l.getD i nul3).2.1) (nv B (l.getD i nul3).2.2)
theorem sumZ_q {l : List (Bool × List Nat × List Nat)} (hc : ce l = 0) : ∀ i, i ≤ l.length → (sumZ l i).1 = (sumQ l i).num ∧ (sumZ l i).2 = (sumQ l i).den
  | 0, _ => ⟨rfl, rfl⟩
  | i + 1, hi => by
    obtain ⟨h1, h2⟩ := sumZ_q hc i (by omega)
    have h3 := ce_0 hc (i := i) (by omega)
    unfold sumZ sumQ
    rw [h1, h2]
    generalize l.getD i nul3 = x at *
    have hd : (sumQ l i).den * nv B x.2.2 ≠ 0 := Nat.mul_ne_zero (sumQ l i).den_nz h3
    have e := Rat.mkRat_add_mkRat (sumQ l i).num (zv x.1 x.2.1) (sumQ l i).den_nz h3
    rw [Rat.mkRat_self] at e
    rw [e]
    exact ⟨r_num hd, r_den hd⟩
end Go.Proofs.YtfcpigjmagbnkaaGreatDoor
