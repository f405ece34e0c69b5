/-
  The texts Q14, Q15.
-/
import Derived.Test.YtfcpigjmagbnkaaGreatDoorQC
namespace Go.Proofs.YtfcpigjmagbnkaaGreatDoor
open Go Go.RowKit Ab
set_option linter.unusedSimpArgs false
set_option linter.unusedVariables false
set_option maxHeartbeats 10000000
theorem bz_Q14 : type_of% (And.intro @W_len (And.intro @D_len (And.intro @Nat.div_one (And.intro @Nat.mul_one (And.intro @tn_nat (And.intro @W_nf (And.intro @D_nf (And.intro @W_nil (And.intro @D_nil (And.intro @wi (And.intro @nf_g (And.intro @Bool.false_and (@W_cell))))))))))))) := And.intro @W_len (And.intro @D_len (And.intro @Nat.div_one (And.intro @Nat.mul_one (And.intro @tn_nat (And.intro @W_nf (And.intro @D_nf (And.intro @W_nil (And.intro @D_nil (And.intro @wi (And.intro @nf_g (And.intro @Bool.false_and (@W_cell))))))))))))
abbrev rQ (a d : Nat) : V := .g [.b false, .l 1 (W (dg B a)), .l 1 (W (dg B d))]
theorem rN_nat (a d : Nat) : rN (a : Int) d = rQ a d := by
  show V.g [.b (decide ((a : Int) < 0)), .l 1 (W (dg B (a : Int).natAbs)), .l 1 (W (dg B d))] = _
  rw [decide_eq_false (by omega)]; rfl
theorem zN_nat (a : Nat) : zN (a : Int) = .g [.b false, .l 1 (W (dg B a))] := by
  show V.g [.b (decide ((a : Int) < 0)), .l 1 (W (dg B (a : Int).natAbs))] = _
  rw [decide_eq_false (by omega)]; rfl
theorem rG_1 {a d : Nat} (h : Nat.gcd a d = 1) : rG (a : Int) d = 1 := h
theorem rz_co {a d : Nat} (h : Nat.gcd a d = 1) : rz (a : Int) d = (a : Int) := by unfold rz; rw [rG_1 h]; exact Int.tdiv_one _
theorem rden_co {a d : Nat} (h : Nat.gcd a d = 1) : rden (a : Int) d = d := by unfold rden; rw [rG_1 h]; exact Nat.div_one _
theorem rv_co {a d : Nat} (h : Nat.gcd a d = 1) (h0 : d ≠ 0) : rv (a : Int) d = rQ a d := by rw [rv_p _ h0, rz_co h, rden_co h, rN_nat]
theorem ceil_nat (a d : Nat) (h0 : 0 < d) : -((-(a : Int) * 2 ^ 0).fdiv (d : Int)) = (((a + d - 1) / d : Nat) : Int) := by
  rw [Int.pow_zero, Int.mul_one, Int.fdiv_eq_ediv_of_nonneg _ (by omega : (0 : Int) ≤ (d : Int))]
  have h1 := Nat.div_add_mod (a + d - 1) d
  have h2 := Nat.mod_lt (a + d - 1) h0
  generalize (a + d - 1) / d = q at *
  generalize (a + d - 1) % d = r at *
  have h3 : -(a : Int) / (d : Int) = -(q : Int) := by
    have e : -(a : Int) = ((d - 1 - r : Nat) : Int) + (d : Int) * (-(q : Int)) := by
      have : ((d * q : Nat) : Int) = (d : Int) * (q : Int) := Int.natCast_mul d q
      rw [Int.mul_neg]
      omega
    rw [e, Int.add_mul_ediv_left _ _ (by omega), Int.ediv_eq_zero_of_lt (by omega) (by omega)]
    omega
  rw [h3]; omega
theorem floor_nat (a d : Nat) : ((a : Int) * 2 ^ 0).fdiv (d : Int) = ((a / d : Nat) : Int) := by
  rw [Int.pow_zero, Int.mul_one, Int.fdiv_eq_ediv_of_nonneg _ (by omega : (0 : Int) ≤ (d : Int))]; rfl
def btw : Nat → Nat → Nat → Nat → Nat → Nat × Nat
  | 0, _, _, _, _ => (0, 1)
  | k + 1, a, d, b, e => if (a + d - 1) / d * e ≤ b then ((a + d - 1) / d, 1) else ((a / d) * (btw k e (b - a / d * e) d (a % d)).1 + (btw k e (b - a / d * e) d (a % d)).2, (btw k e (b - a / d * e) d (a % d)).1)
structure Ends (a d b e : Nat) : Prop where
  a0 : 0 < a
  d0 : 0 < d
  e0 : 0 < e
  ca : Nat.gcd a d = 1
  cb : Nat.gcd b e = 1
  le : a * e ≤ b * d
theorem ends_next {a d b e : Nat} (h : Ends a d b e) (hc : ¬ (a + d - 1) / d * e ≤ b) : 0 < a % d ∧ a / d * e < b ∧ b - a / d * e < e ∧ a = d * (a / d) + a % d ∧ (a + d - 1) / d = a / d + 1 ∧ Ends e (b - a / d * e) d (a % d) := by
  obtain ⟨a0, d0, e0, ca, cb, le⟩ := h
  have h1 := Nat.div_add_mod a d
  have h2 := Nat.mod_lt a d0
  have hr : 0 < a % d := by
    rcases Nat.eq_zero_or_pos (a % d) with h | h
    · exfalso
      apply hc
      rw [h, Nat.add_zero] at h1
      have : (a + d - 1) / d = a / d := by
        conv => lhs; rw [← h1, Nat.add_sub_assoc d0, Nat.mul_add_div d0, Nat.div_eq_of_lt (by omega : d - 1 < d)]
        rfl
      rw [this]
      have h3 : d * (a / d * e) ≤ d * b := by rw [← Nat.mul_assoc, h1, Nat.mul_comm d b]; exact le
      exact Nat.le_of_mul_le_mul_left h3 d0
    · exact h
  have hq : (a + d - 1) / d = a / d + 1 := by
    conv => lhs; rw [show a + d - 1 = d * (a / d + 1) + (a % d - 1) from by rw [Nat.mul_succ]; omega, Nat.mul_add_div d0, Nat.div_eq_of_lt (by omega : a % d - 1 < d), Nat.add_zero]
  rw [hq, Nat.succ_mul] at hc
  have hlt : a / d * e < b := by
    rcases Nat.lt_or_ge (a / d * e) b with h | h
    · exact h
    · exfalso
      have h3 : b * d ≤ a / d * e * d := Nat.mul_le_mul_right _ h
      have h4 : a / d * e * d = (d * (a / d)) * e := by rw [Nat.mul_comm d, Nat.mul_right_comm]
      have h5 : a * e = (d * (a / d)) * e + (a % d) * e := by rw [← Nat.add_mul, h1]
      have h6 := Nat.mul_pos hr e0
      omega
  refine ⟨hr, hlt, by omega, h1.symm, hq, e0, by omega, hr, ?_, ?_, ?_⟩
  · rw [Nat.gcd_comm]
    have h3 : Nat.gcd (b - a / d * e) e = Nat.gcd b e := by
      have e1 : b = (b - a / d * e) + e * (a / d) := by rw [Nat.mul_comm e]; omega
      conv => rhs; rw [e1, Nat.gcd_add_mul_left_left]
    rw [h3]; exact cb
  · rw [Nat.gcd_comm, ← Nat.gcd_rec, Nat.gcd_comm]; exact ca
  · -- e * (a % d) ≤ d * (b - f e)
    rw [Nat.mul_sub, Nat.mul_comm d b, ← Nat.mul_assoc]
    have h5 : a * e = (d * (a / d)) * e + (a % d) * e := by rw [← Nat.add_mul, h1]
    rw [Nat.mul_comm e]
    omega
theorem btw_ok : ∀ (k a d b e : Nat), Ends a d b e → d + e ≤ k → 0 < (btw k a d b e).1 ∧ 0 < (btw k a d b e).2 ∧ Nat.gcd (btw k a d b e).1 (btw k a d b e).2 = 1 ∧ (btw k a d b e).1 ≤ a ∧ (btw k a d b e).2 ≤ d ∧ (btw k a d b e).1 ≤ b ∧ (btw k a d b e).2 ≤ e
  | 0, a, d, b, e, h, hk => by have := h.d0; omega
  | k + 1, a, d, b, e, h, hk => by
    unfold btw
    by_cases hc : (a + d - 1) / d * e ≤ b
    · rw [if_pos hc]
      obtain ⟨a0, d0, e0, ca, cb, le⟩ := h
      have c1 : 0 < (a + d - 1) / d := Nat.div_pos (by omega) d0
      have c2 : (a + d - 1) / d ≤ a := by
        refine Nat.lt_succ_iff.1 ((Nat.div_lt_iff_lt_mul d0).2 ?_)
        rw [Nat.succ_mul]
        have : a * 1 ≤ a * d := Nat.mul_le_mul_left _ d0
        omega
      have c3 : (a + d - 1) / d * 1 ≤ (a + d - 1) / d * e := Nat.mul_le_mul_left _ e0
      exact ⟨c1, Nat.one_pos, Nat.gcd_one_right _, c2, d0, by simp only; omega, e0⟩
    · rw [if_neg hc]
      obtain ⟨hr, hlt, hbe, hae, hq, hn⟩ := ends_next h hc
      have hm := Nat.mod_lt a h.d0
      obtain ⟨p1, p2, p3, p4, p5, p6, p7⟩ := btw_ok k e (b - a / d * e) d (a % d) hn (by omega)
      generalize btw k e (b - a / d * e) d (a % d) = r at *
      refine ⟨Nat.add_pos_right _ p2, p1, ?_, ?_, p6, ?_, p4⟩
      · show Nat.gcd (a / d * r.1 + r.2) r.1 = 1
        rw [Nat.gcd_comm, Nat.gcd_mul_right_add_right]; exact p3
      · have : a / d * r.1 ≤ a / d * d := Nat.mul_le_mul_left _ p6
        rw [Nat.mul_comm _ d] at this
        show a / d * r.1 + r.2 ≤ a
        omega
      · have : a / d * r.1 ≤ a / d * e := Nat.mul_le_mul_left _ p4
        show a / d * r.1 + r.2 ≤ b
        omega
theorem btw_law : ∀ (k a d b e : Nat), Ends a d b e → d + e ≤ k → a * (btw k a d b e).2 ≤ (btw k a d b e).1 * d ∧ (btw k a d b e).1 * e ≤ b * (btw k a d b e).2 ∧ ∀ x y : Nat, 0 < y → a * y ≤ x * d → x * e ≤ b * y → (btw k a d b e).1 ≤ x ∧ (btw k a d b e).2 ≤ y
  | 0, a, d, b, e, h, hk => by have := h.d0; omega
  | k + 1, a, d, b, e, h, hk => by
    unfold btw
    by_cases hc : (a + d - 1) / d * e ≤ b
    · rw [if_pos hc]
      obtain ⟨a0, d0, e0, ca, cb, le⟩ := h
      have h1 := Nat.div_add_mod (a + d - 1) d
      have h2 := Nat.mod_lt (a + d - 1) d0
      refine ⟨?_, ?_, fun x y y0 hx hy => ⟨?_, y0⟩⟩
      · rw [Nat.mul_comm _ d]; simp only; omega
      · simp only; omega
      · -- a y ≤ x d gives a ≤ x d
        have h3 : a * 1 ≤ a * y := Nat.mul_le_mul_left _ y0
        refine Nat.lt_succ_iff.1 ((Nat.div_lt_iff_lt_mul d0).2 ?_)
        rw [Nat.succ_mul]
        omega
    · rw [if_neg hc]
      obtain ⟨hr, hlt, hbe, hae, hq, hn⟩ := ends_next h hc
      have hm := Nat.mod_lt a h.d0
      have d0 := h.d0
      obtain ⟨q1, q2, q3⟩ := btw_law k e (b - a / d * e) d (a % d) hn (by omega)
      rw [hq, Nat.succ_mul] at hc
      generalize btw k e (b - a / d * e) d (a % d) = r at *
      generalize a / d = f at *
      generalize a % d = g at *
      obtain ⟨b', hb'⟩ : ∃ b', b = f * e + b' := ⟨b - f * e, by omega⟩
      subst hb'
      have es : f * e + b' - f * e = b' := by omega
      rw [es] at q1 q3 hbe
      subst hae
      refine ⟨?_, ?_, fun x y y0 hx hy => ?_⟩
      · -- (d f + g) * r1 ≤ (f r1 + r2) * d
        show (d * f + g) * r.1 ≤ (f * r.1 + r.2) * d
        rw [Nat.add_mul, Nat.add_mul, Nat.mul_comm d f, Nat.mul_right_comm f d, Nat.mul_comm g, Nat.mul_comm r.2 d]
        exact Nat.add_le_add_left q2 _
      · show (f * r.1 + r.2) * e ≤ (f * e + b') * r.1
        rw [Nat.add_mul, Nat.add_mul, Nat.mul_right_comm f e, Nat.mul_comm r.2 e, Nat.mul_comm b']
        exact Nat.add_le_add_left q1 _
      · -- x = f y + x'
        have h3 : f * y < x := by
          rcases Nat.lt_or_ge (f * y) x with h | h
          · exact h
          · exfalso
            have h4 : x * d ≤ f * y * d := Nat.mul_le_mul_right _ h
            rw [Nat.add_mul, Nat.mul_comm d f, Nat.mul_right_comm f d] at hx
            have := Nat.mul_pos hr y0
            omega
        obtain ⟨x', hx'⟩ : ∃ x', x = f * y + x' := ⟨x - f * y, by omega⟩
        subst hx'
        have x0 : 0 < x' := by omega
        rw [Nat.add_mul, Nat.add_mul, Nat.mul_comm d f, Nat.mul_right_comm f d] at hx
        rw [Nat.add_mul, Nat.add_mul, Nat.mul_right_comm f e] at hy
        obtain ⟨r1, r2⟩ := q3 y x' x0 (by rw [Nat.mul_comm e, Nat.mul_comm y]; omega) (by rw [Nat.mul_comm y, Nat.mul_comm d]; omega)
        have := Nat.mul_le_mul_left f r1
        exact ⟨by show f * r.1 + r.2 ≤ f * y + x'; omega, r1⟩
theorem qceilN {a d m : Nat} (hm : m ≤ 1000000) (hm1 : 16384 ≤ m) (ha : a < B ^ m) (hd : d < B ^ m) (h0 : 0 < d) : AFun Tryz.prog J0 50 [rQ a d, .i .i64 0] (.t [.g [.b false, .l 1 (W (dg B ((a + d - 1) / d)))], .i .i64 0]) := by
  have h := qceil_up false (dg B a) (dg B d) 0 m (by decide) (by omega) hm1 (Wd_dg _) (Wd_dg _) (dlen ha) (dlen hd) (by rw [nv_dgB]; omega)
  rw [zv_f, nv_dgB, nv_dgB, ceil_nat _ _ h0, zN_nat] at h
  exact h
theorem qfloorN {a d m : Nat} (hm : m ≤ 1000000) (hm1 : 16384 ≤ m) (ha : a < B ^ m) (hd : d < B ^ m) (h0 : 0 < d) : AFun Tryz.prog J0 49 [rQ a d, .i .i64 0] (.t [.g [.b false, .l 1 (W (dg B (a / d)))], .i .i64 0]) := by
  have h := qfloor_up false (dg B a) (dg B d) 0 m (by decide) (by omega) hm1 (Wd_dg _) (Wd_dg _) (dlen ha) (dlen hd) (by rw [nv_dgB]; omega)
  rw [zv_f, nv_dgB, nv_dgB, floor_nat, zN_nat] at h
  exact h
theorem qaddN {f p q m : Nat} (hm : m ≤ 1000000) (hf : f < B ^ m) (hp : p < B ^ m) (hq : q < B ^ m) (h1 : 1 < B ^ m) (p0 : 0 < p) (hg : Nat.gcd (f * p + q) p = 1) : AFun Tryz.prog J0 98 [rQ f 1, rQ q p] (.t [rQ (f * p + q) p, .i .i64 0]) := by
  have h := qadd_spec false false (dg B f) (dg B q) (dg B 1) (dg B p) m (by omega) (Wd_dg _) (Wd_dg _) (Wd_dg _) (Wd_dg _) (dlen hf) (dlen hq) (dlen h1) (dlen hp)
  rw [zv_f, zv_f, nv_dgB, nv_dgB, nv_dgB, nv_dgB, Nat.one_mul, show (f : Int) * (p : Int) + (q : Int) * ((1 : Nat) : Int) = ((f * p + q : Nat) : Int) from by rw [Int.natCast_add, Int.natCast_mul]; omega, rv_co hg (by omega), re_p (by omega)] at h
  exact h
theorem qcmpN {a d b e m : Nat} (hm : m ≤ 1000000) (ha : a < B ^ m) (hd : d < B ^ m) (hb : b < B ^ m) (he : e < B ^ m) (d0 : 0 < d) (e0 : 0 < e) : AFun Tryz.prog J0 12 [rQ a d, rQ b e] (.t [.i .i64 (cz ((a * e : Nat) : Int) ((b * d : Nat) : Int)), .i .i64 0]) := by
  have h := qcmp_spec false false (dg B a) (dg B b) (dg B d) (dg B e) m (by omega) (Wd_dg _) (Wd_dg _) (Wd_dg _) (Wd_dg _) (dlen ha) (dlen hb) (dlen hd) (dlen he)
  have hde := Nat.mul_pos d0 e0
  rw [zv_f, zv_f, nv_dgB, nv_dgB, nv_dgB, nv_dgB, if_neg (by omega), re_p (by omega), ← Int.natCast_mul, ← Int.natCast_mul] at h
  exact h
theorem qredN {a m : Nat} (hm : m ≤ 1000000) (ha : a < B ^ m) (h1 : 1 < B ^ m) : AFun Tryz.prog J0 85 [.g [.b false, .l 1 (W (dg B a))], .l 1 (W (dg B 1))] (rQ a 1) := by
  have h := qred_spec false (dg B a) (dg B 1) m (by omega) (Wd_dg _) (Wd_dg _) (dlen ha) (dlen h1) (by rw [nv_dgB]; decide)
  rw [zv_f, nv_dgB, nv_dgB, rz_co (Nat.gcd_one_right _), rden_co (Nat.gcd_one_right _), rN_nat] at h
  exact h
theorem cz_le (x y : Nat) : (cz (x : Int) (y : Int) ≤ 0) = (x ≤ y) := by
  unfold cz
  refine propext ⟨fun h => ?_, fun h => ?_⟩
  · by_cases h1 : (x : Int) < (y : Int)
    · omega
    · by_cases h2 : (x : Int) = (y : Int)
      · omega
      · rw [if_neg h1, if_neg h2] at h
        exact absurd h (by decide)
  · by_cases h1 : (x : Int) < (y : Int)
    · rw [if_pos h1]; decide
    · rw [if_neg h1, if_pos (by omega)]; exact Int.le_refl 0
theorem one_ltB {m : Nat} (h : 16384 ≤ m) : 1 < B ^ m := by
  have : B ^ 1 ≤ B ^ m := Nat.pow_le_pow_right (by decide) (by omega)
  rw [Nat.pow_one] at this
  exact Nat.lt_of_lt_of_le (by decide) this
end Go.Proofs.YtfcpigjmagbnkaaGreatDoor
namespace Go.Proofs.YtfcpigjmagbnkaaGreatDoor
open Go Go.RowKit Ab
set_option linter.unusedSimpArgs false
set_option linter.unusedVariables false
set_option maxHeartbeats 10000000
theorem bz_Q15 : type_of% (And.intro @W_len (And.intro @D_len (And.intro @Nat.div_one (And.intro @Nat.mul_one (And.intro @tn_nat (And.intro @W_nf (And.intro @D_nf (And.intro @W_nil (And.intro @D_nil (And.intro @wi (And.intro @nf_g (And.intro @Bool.false_and (@W_cell))))))))))))) := And.intro @W_len (And.intro @D_len (And.intro @Nat.div_one (And.intro @Nat.mul_one (And.intro @tn_nat (And.intro @W_nf (And.intro @D_nf (And.intro @W_nil (And.intro @D_nil (And.intro @wi (And.intro @nf_g (And.intro @Bool.false_and (@W_cell))))))))))))
theorem r_co (z : Int) {d : Nat} (h : d ≠ 0) : Nat.gcd (rz z d).natAbs (rden z d) = 1 := by
  rw [rz_abs]
  have hp := rG_pos (z := z) h
  have e := Nat.gcd_div (Nat.gcd_dvd_left z.natAbs d) (Nat.gcd_dvd_right z.natAbs d)
  rw [Nat.div_self (show 0 < Nat.gcd z.natAbs d from hp)] at e
  exact e
theorem r_le {z w : Int} {d e : Nat} (hd : d ≠ 0) (he : e ≠ 0) : (rz z d * (rden w e : Int) ≤ rz w e * (rden z d : Int)) ↔ z * (e : Int) ≤ w * (d : Int) := by
  have h1 := rz_back (z := z) (d := d)
  have h2 := rden_back (z := z) (d := d)
  have h3 := rz_back (z := w) (d := e)
  have h4 := rden_back (z := w) (d := e)
  have p1 := rG_pos (z := z) hd
  have p2 := rG_pos (z := w) he
  generalize rz z d = x at *
  generalize rden z d = y at *
  generalize rz w e = u at *
  generalize rden w e = v at *
  generalize rG z d = g at *
  generalize rG w e = f at *
  subst h1 h2 h3 h4
  have e1 : x * (g : Int) * ((v * f : Nat) : Int) = x * (v : Int) * ((g * f : Nat) : Int) := by
    rw [Int.natCast_mul, Int.natCast_mul, Int.mul_assoc, Int.mul_assoc, Int.mul_left_comm (g : Int)]
  have e2 : u * (f : Int) * ((y * g : Nat) : Int) = u * (y : Int) * ((g * f : Nat) : Int) := by
    rw [Int.natCast_mul, Int.natCast_mul, Int.mul_assoc, Int.mul_assoc, Int.mul_left_comm (f : Int), Int.mul_comm (f : Int)]
  rw [e1, e2]
  have p3 : (0 : Int) < ((g * f : Nat) : Int) := by have := Nat.mul_pos p1 p2; omega
  exact ⟨fun h => Int.mul_le_mul_of_nonneg_right h (by omega), fun h => Int.le_of_mul_le_mul_right h p3⟩
def smp (z : Int) (d : Nat) (w : Int) (e : Nat) : Int × Nat :=
  if z ≤ 0 ∧ 0 ≤ w then (0, 1)
  else if w < 0 then (-((btw (e + d) w.natAbs e z.natAbs d).1 : Int), (btw (e + d) w.natAbs e z.natAbs d).2)
  else (((btw (d + e) z.natAbs d w.natAbs e).1 : Int), (btw (d + e) z.natAbs d w.natAbs e).2)
theorem sgz_le (z : Int) : (sgz z ≤ 0) = (z ≤ 0) := by
  unfold sgz
  split
  · exact propext ⟨fun _ => by omega, fun _ => by decide⟩
  · split
    · exact propext ⟨fun h => absurd h (by decide), fun h => by omega⟩
    · exact propext ⟨fun _ => by omega, fun _ => by decide⟩
theorem sgz_ge (z : Int) : (0 ≤ sgz z) = (0 ≤ z) := by
  unfold sgz
  split
  · exact propext ⟨fun h => absurd h (by decide), fun h => by omega⟩
  · split
    · exact propext ⟨fun _ => by omega, fun _ => by decide⟩
    · exact propext ⟨fun _ => by omega, fun _ => by decide⟩
theorem cz_gt (x y : Int) : (0 < cz x y) = (y < x) := by
  unfold cz
  split
  · exact propext ⟨fun h => absurd h (by decide), fun h => by omega⟩
  · split
    · exact propext ⟨fun h => absurd h (by decide), fun h => by omega⟩
    · exact propext ⟨fun _ => by omega, fun _ => by decide⟩
theorem ends_pos {z w : Int} {d e : Nat} (hz : 0 < z) (hw : 0 < w) (hd : d ≠ 0) (he : e ≠ 0) (c1 : Nat.gcd z.natAbs d = 1) (c2 : Nat.gcd w.natAbs e = 1) (h : z * (e : Int) ≤ w * (d : Int)) : Ends z.natAbs d w.natAbs e := by
  obtain ⟨x, rfl⟩ : ∃ x : Nat, z = (x : Int) := ⟨z.toNat, by omega⟩
  obtain ⟨y, rfl⟩ : ∃ y : Nat, w = (y : Int) := ⟨w.toNat, by omega⟩
  refine ⟨by omega, by omega, by omega, c1, c2, ?_⟩
  rw [← Int.natCast_mul, ← Int.natCast_mul] at h
  exact Int.ofNat_le.1 h
theorem ends_neg {z w : Int} {d e : Nat} (hz : z < 0) (hw : w < 0) (hd : d ≠ 0) (he : e ≠ 0) (c1 : Nat.gcd z.natAbs d = 1) (c2 : Nat.gcd w.natAbs e = 1) (h : z * (e : Int) ≤ w * (d : Int)) : Ends w.natAbs e z.natAbs d := by
  have := ends_pos (z := -w) (w := -z) (d := e) (e := d) (by omega) (by omega) he hd (by rw [Int.natAbs_neg]; exact c2) (by rw [Int.natAbs_neg]; exact c1) (by rw [Int.neg_mul, Int.neg_mul]; omega)
  rwa [Int.natAbs_neg, Int.natAbs_neg] at this
theorem rN_pos {z : Int} (h : 0 ≤ z) (d : Nat) : rN z d = rQ z.natAbs d := by
  rw [← rN_nat, show ((z.natAbs : Nat) : Int) = z from by omega]
theorem fx_floor : AFun Tryz.prog J0 49 [.g [.b true, .l 1 (W (dg B 7)), .l 1 (W [2])], .i .i64 0] (.t [.g [.b true, .l 1 (W (dg B 4))], .i .i64 0]) := by
  have h := qfloor_up true (dg B 7) [2] 0 16384 (by decide) (by decide) (Nat.le_refl _) (Wd_dg _) (Wd_dg 2) (Nat.le_trans (dlen (k := 1) (by decide)) (by decide)) (by decide) (by decide)
  rw [show zv true (dg B 7) = -7 from by unfold zv; rw [nv_dgB]; rfl, show nv B [2] = 2 from rfl, show Int.fdiv ((-7 : Int) * 2 ^ 0) ((2 : Nat) : Int) = -4 from by decide +kernel] at h
  exact h
end Go.Proofs.YtfcpigjmagbnkaaGreatDoor
