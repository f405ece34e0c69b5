/-
  Rational numbers: middles, floors, signs, powers of two, as rational numbers.
-/
import Derived.Test.YtfcpigjmagbnkaaGreatDoorQO
import Derived.Test.YtfcpigjmagbnkaaGreatDoorQ21
namespace Go.Proofs.YtfcpigjmagbnkaaGreatDoor
open Go Go.RowKit Ab
set_option linter.unusedSimpArgs false
set_option linter.unusedVariables false
set_option maxHeartbeats 10000000
theorem bz_Q23 : type_of% (And.intro @W_len (And.intro @D_len (And.intro @Nat.div_one (And.intro @Nat.mul_one (And.intro @tn_nat (And.intro @W_nf (And.intro @D_nf (And.intro @W_nil (And.intro @D_nil (And.intro @wi (And.intro @nf_g (And.intro @Bool.false_and (@W_cell))))))))))))) := And.intro @W_len (And.intro @D_len (And.intro @Nat.div_one (And.intro @Nat.mul_one (And.intro @tn_nat (And.intro @W_nf (And.intro @D_nf (And.intro @W_nil (And.intro @D_nil (And.intro @wi (And.intro @nf_g (And.intro @Bool.false_and (@W_cell))))))))))))
theorem mk_mid (z w : Int) {d e : Nat} (hd : d ≠ 0) (he : e ≠ 0) : mkRat (z * (e : Int) + w * (d : Int)) (d * e * 2) = (mkRat z d + mkRat w e) / 2 := by
  have h2 : (2 : Rat) = mkRat 2 1 := rfl
  rw [Rat.mkRat_add_mkRat _ _ hd he]
  have h0 : d * e ≠ 0 := Nat.mul_ne_zero hd he
  have key : mkRat (z * (e : Int) + w * (d : Int)) (d * e * 2) * 2 = mkRat (z * (e : Int) + w * (d : Int)) (d * e) := by
    rw [h2, Rat.mkRat_mul_mkRat, Rat.mkRat_eq_iff (by omega) h0]
    rw [Nat.mul_one, Int.natCast_mul (d * e) 2]
    grind
  rw [← key]
  generalize mkRat (z * (e : Int) + w * (d : Int)) (d * e * 2) = x
  grind
theorem qmidR {v w : V} {p q : Rat} {m : Nat} (hv : Rr v p m) (hw : Rr w q m) (hm : m ≤ 3000000) : AFun Tryz.prog J0 55 [v, w] (.t [rN ((p + q) / 2).num ((p + q) / 2).den, .i .i64 0]) ∧ Rr (rN ((p + q) / 2).num ((p + q) / 2).den) ((p + q) / 2) (m + m + 1) := by
  obtain ⟨s, a, d, rfl, ha, hd, la, ld, h0, rfl⟩ := hv
  obtain ⟨t, b, e, rfl, hb, he, lb, le, k0, rfl⟩ := hw
  have h := qmid_spec s t a b d e m (by omega) ha hb hd he la lb ld le
  have hD : nv B d * nv B e * 2 ≠ 0 := by have := Nat.mul_ne_zero h0 k0; omega
  have bD := mulN_lt (nvlt hd ld) (nvlt he le)
  obtain ⟨e1, e2, e3⟩ := rv_q (m := m + m + 1) hD (mk_mid (zv s a) (zv t b) h0 k0) (Nat.lt_of_le_of_lt (Int.natAbs_add_le _ _) (padd (mul_lt (zv_lt ha la) (nvlt he le)) (mul_lt (zv_lt hb lb) (nvlt hd ld)))) (by rw [Nat.mul_two]; exact padd bD bD)
  rw [e1, e2] at h
  exact ⟨h, e3⟩
theorem cq_anti (p q : Rat) : cq q p = -cq p q := by unfold cq; grind
theorem cq_shift (p q r : Rat) : cq (p + r) (q + r) = cq p q := by unfold cq; grind
theorem cq_sub (p q : Rat) : cq (p - q) 0 = cq p q := by
  have h := cq_shift (p - q) 0 q
  rw [show p - q + q = p from by grind, show (0 : Rat) + q = q from by grind] at h
  exact h.symm
theorem lt_mid1 (p q : Rat) : (p < (p + q) / 2) = (p < q) := by
  refine propext ⟨fun h => ?_, fun h => ?_⟩ <;> grind
theorem lt_mid2 (p q : Rat) : ((p + q) / 2 < q) = (p < q) := by
  refine propext ⟨fun h => ?_, fun h => ?_⟩ <;> grind
theorem eq_mid1 (p q : Rat) : (p = (p + q) / 2) = (p = q) := by
  refine propext ⟨fun h => ?_, fun h => ?_⟩ <;> grind
theorem eq_mid2 (p q : Rat) : ((p + q) / 2 = q) = (p = q) := by
  refine propext ⟨fun h => ?_, fun h => ?_⟩ <;> grind
theorem cq_mid1 (p q : Rat) : cq p ((p + q) / 2) = cq p q := by unfold cq; simp only [lt_mid1, eq_mid1]
theorem cq_mid2 (p q : Rat) : cq ((p + q) / 2) q = cq p q := by unfold cq; simp only [lt_mid2, eq_mid2]
theorem sgz_q (z : Int) {d : Nat} (hd : d ≠ 0) : sgz z = cq (mkRat z d) 0 := by
  have h := cz_q (z := z) (w := 0) (d := d) (e := 1) hd (by decide)
  rw [Rat.zero_mkRat] at h
  rw [← h]
  unfold sgz cz
  split
  · rw [if_pos (by omega)]
  · split
    · rw [if_neg (by omega), if_neg (by omega)]
    · rw [if_neg (by omega), if_pos (by omega)]
def twq (t : Int) : Rat := if t < 0 then mkRat 1 (2 ^ (-t).toNat) else mkRat (2 ^ t.toNat) 1
theorem one_B (m : Nat) (h : 1 ≤ m) : 1 < B ^ m := Nat.lt_of_lt_of_le (by decide : 1 < B ^ 1) (Nat.pow_le_pow_right B0 h)
theorem qdyR {t : Int} {m : Nat} (hm : m ≤ 3000000) (hm1 : 16385 ≤ m) (h1 : -1048576 ≤ t) (h2 : t ≤ 1048576) : AFun Tryz.prog J0 44 [zN 1, .i .i64 t] (.t [rN (twq t).num (twq t).den, .i .i64 0]) ∧ Rr (rN (twq t).num (twq t).den) (twq t) m := by
  have h := qdy_spec (decide ((1 : Int) < 0)) (dg B (1 : Int).natAbs) t m (by omega) hm1 (Wd_dg _) (Nat.le_trans (dlen (k := 1) (by decide)) (by omega))
  rw [zv_N] at h
  rw [show dyE t = 0 from if_neg (by omega)] at h
  by_cases h3 : t < 0
  · have hw : twq t = mkRat 1 (2 ^ (-t).toNat) := if_pos h3
    have hV : dyV 1 t = rN (rz 1 (2 ^ (-t).toNat)) (rden 1 (2 ^ (-t).toNat)) := by unfold dyV; rw [if_neg (by omega), if_pos h3]
    have hd : 2 ^ (-t).toNat ≠ 0 := Nat.pos_iff_ne_zero.1 (Nat.two_pow_pos _)
    obtain ⟨e1, e2, e3⟩ := rv_q (z := 1) (m := m) hd rfl (one_B m (by omega)) (pup (two_lt (-t).toNat) (by omega))
    rw [rv_p _ hd] at e1
    rw [hV, e1] at h
    rw [hw]
    exact ⟨h, e3⟩
  · have hw : twq t = mkRat (2 ^ t.toNat) 1 := if_neg h3
    have hV : dyV 1 t = rN (rz (2 ^ t.toNat) 1) (rden (2 ^ t.toNat) 1) := by unfold dyV; rw [if_neg (by omega), if_neg h3, Int.one_mul]
    obtain ⟨e1, e2, e3⟩ := rv_q (z := 2 ^ t.toNat) (m := m) (d := 1) (by decide) rfl (by rw [Int.natAbs_pow]; exact pup (two_lt t.toNat) (by omega)) (one_B m (by omega))
    rw [rv_p _ (by decide)] at e1
    rw [hV, e1] at h
    rw [hw]
    exact ⟨h, e3⟩
theorem fdiv_le {y : Int} {e : Nat} (he : e ≠ 0) : y.fdiv (e : Int) * (e : Int) ≤ y ∧ y < (y.fdiv (e : Int) + 1) * (e : Int) := by
  rw [Int.fdiv_eq_ediv_of_nonneg y (Int.natCast_nonneg e)]
  exact ⟨Int.ediv_mul_le y (by omega), Int.lt_ediv_add_one_mul_self y (by omega)⟩
theorem fl_q {y : Int} {e : Nat} (he : e ≠ 0) : mkRat (y.fdiv (e : Int)) 1 ≤ mkRat y e ∧ mkRat y e < mkRat (y.fdiv (e : Int) + 1) 1 := by
  obtain ⟨h1, h2⟩ := fdiv_le (y := y) he
  exact ⟨(le_q (by decide) he).2 (by omega), (lt_q he (by decide)).2 (by omega)⟩
theorem gl_q (z : Int) {d : Nat} {t : Int} (hd : d ≠ 0) (h1 : -1048576 ≤ t) (h2 : t ≤ 1048576) : mkRat (glV z d t) 1 ≤ mkRat z d * twq t ∧ mkRat z d * twq t < mkRat (glV z d t + 1) 1 := by
  unfold twq
  by_cases h3 : t < 0
  · obtain ⟨n, rfl⟩ : ∃ n : Nat, t = -(n : Int) := ⟨(-t).toNat, by omega⟩
    rw [if_pos h3, glV_n hd (by omega) (by omega), Rat.mkRat_mul_mkRat, Int.mul_one, show (-(-(n : Int))).toNat = n from by omega]
    exact fl_q (Nat.mul_ne_zero hd (Nat.pos_iff_ne_zero.1 (Nat.two_pow_pos _)))
  · obtain ⟨n, rfl⟩ : ∃ n : Nat, t = (n : Int) := ⟨t.toNat, by omega⟩
    rw [if_neg h3, glV_p hd (by omega), Rat.mkRat_mul_mkRat, Nat.mul_one, show ((n : Int)).toNat = n from rfl]
    exact fl_q hd
theorem fc_law {L M : Int} {r : Rat} (h1 : mkRat L 1 ≤ r) (h2 : r < mkRat (L + 1) 1) (h3 : mkRat M 1 ≤ -r) (h4 : -r < mkRat (M + 1) 1) :
    cq (mkRat L 1) r ≤ 0 ∧ cq r (mkRat (-M) 1) ≤ 0 ∧ (-M - L = 0 ∨ -M - L = 1) ∧ ((-M - L = 0) = (cq (mkRat L 1) r = 0)) ∧ ((cq (mkRat L 1) r = 0) = (cq r (mkRat (-M) 1) = 0)) := by
  have h3' : r ≤ mkRat (-M) 1 := by rw [← Rat.neg_mkRat]; grind
  have h4' : mkRat (-M - 1) 1 < r := by
    rw [show -M - 1 = -(M + 1) from by omega, ← Rat.neg_mkRat]; grind
  have a1 : L ≤ -M := by
    have := Rat.le_trans h1 h3'
    rw [le_q (by decide) (by decide)] at this; omega
  have a2 : -M - 1 < L + 1 := by
    have : mkRat (-M - 1) 1 < mkRat (L + 1) 1 := by grind
    rw [lt_q (by decide) (by decide)] at this; omega
  have zero : ∀ p q : Rat, p ≤ q → (cq p q = 0) = (p = q) := fun p q h => by
    unfold cq
    by_cases h1 : p = q
    · rw [if_neg (by rw [h1]; exact Rat.lt_irrefl), if_pos h1]; exact propext ⟨fun _ => h1, fun _ => rfl⟩
    · rw [if_pos (Rat.lt_of_le_of_ne h h1)]; exact propext ⟨fun h => absurd h (by decide), fun h => absurd h h1⟩
  rw [cq_le, cq_le, zero _ _ h1, zero _ _ h3']
  refine ⟨h1, h3', by omega, propext ⟨fun h => ?_, fun h => ?_⟩, propext ⟨fun h => ?_, fun h => ?_⟩⟩
  · have e : -M = L := by omega
    rw [e] at h3'
    exact Rat.le_antisymm h1 h3'
  · rw [← h] at h4'
    rw [lt_q (by decide) (by decide)] at h4'; omega
  · have e : -M = L := by
      rw [← h] at h4'
      rw [lt_q (by decide) (by decide)] at h4'; omega
    rw [e]; exact h.symm
  · have e : -M = L := by
      rw [h] at h2
      rw [lt_q (by decide) (by decide)] at h2; omega
    rw [h, e]
theorem fin_below {s : Bool} {a d : List Nat} {k : Nat} (h0 : nv B d ≠ 0) (hs : 0 < zv s a) (hk : FinP (nv B a) (nv B d) k) : cq (twq (-(k : Int))) (mkRat (zv s a) (nv B d)) < 0 := by
  have hz : zv s a = ((nv B a : Nat) : Int) := by have := zv_abs s a; omega
  have hlt : twq (-(k : Int)) < mkRat (zv s a) (nv B d) := by
    unfold twq
    rw [hz]
    by_cases hk0 : k = 0
    · subst hk0
      rw [if_neg (by decide)]
      rw [lt_q (by decide) h0]
      have := hk.1
      rw [Nat.pow_zero, Nat.mul_one] at this
      show (1 : Int) * _ < _ * 1
      omega
    · rw [if_pos (by omega), lt_q (Nat.pos_iff_ne_zero.1 (Nat.two_pow_pos _)) h0, show (-(-(k : Int))).toNat = k from by omega, ← Int.natCast_mul]
      have := hk.1
      omega
  unfold cq; rw [if_pos hlt]; decide
theorem fin_ahead {s : Bool} {a d : List Nat} {k : Nat} (h0 : nv B d ≠ 0) (hs : 0 < zv s a) (hk : FinP (nv B a) (nv B d) k) (hk0 : k ≠ 0) : 0 ≤ cq (twq (1 - (k : Int))) (mkRat (zv s a) (nv B d)) := by
  have hz : zv s a = ((nv B a : Nat) : Int) := by have := zv_abs s a; omega
  have hlt : ¬ twq (1 - (k : Int)) < mkRat (zv s a) (nv B d) := by
    unfold twq
    rw [hz]
    have h2 := hk.2 (k - 1) (by omega)
    by_cases hk1 : k = 1
    · subst hk1
      rw [if_neg (by decide), lt_q (by decide) h0]
      rw [Nat.sub_self, Nat.pow_zero, Nat.mul_one] at h2
      show ¬ (1 : Int) * _ < _ * 1
      omega
    · rw [if_pos (by omega), lt_q (Nat.pos_iff_ne_zero.1 (Nat.two_pow_pos _)) h0, show (-(1 - (k : Int))).toNat = k - 1 from by omega, ← Int.natCast_mul]
      omega
  unfold cq; rw [if_neg hlt]; split <;> decide
end Go.Proofs.YtfcpigjmagbnkaaGreatDoor
