/-
  The texts Q14, Q15.
-/
import Derived.Test.YtgejbndgakgfnaaGreatDoorQC
namespace Go.Proofs.YtgejbndgakgfnaaGreatDoor
open Go Go.RowKit Ab
set_option linter.unusedSimpArgs false
set_option linter.unusedVariables false
set_option maxHeartbeats 10000000
theorem bz_Q14 : type_of% (And.intro @W_len (And.intro @D_len (And.intro @Nat.div_one (And.intro @Nat.mul_one (And.intro @tn_nat (And.intro @W_nf (And.intro @D_nf (And.intro @W_nil (And.intro @D_nil (And.intro @wi (And.intro @nf_g (And.intro @Bool.false_and (@W_cell))))))))))))) := And.intro @W_len (And.intro @D_len (And.intro @Nat.div_one (And.intro @Nat.mul_one (And.intro @tn_nat (And.intro @W_nf (And.intro @D_nf (And.intro @W_nil (And.intro @D_nil (And.intro @wi (And.intro @nf_g (And.intro @Bool.false_and (@W_cell))))))))))))
abbrev rQ (a d : Nat) : V := .g [.b false, .l 1 (W (dg B a)), .l 1 (W (dg B d))]
theorem rN_nat (a d : Nat) : rN (a : Int) d = rQ a d := by
  show V.g [.b (decide ((a : Int) < 0)), .l 1 (W (dg B (a : Int).natAbs)), .l 1 (W (dg B d))] = _
  rw [decide_eq_false (by omega)]; rfl
theorem zN_nat (a : Nat) : zN (a : Int) = .g [.b false, .l 1 (W (dg B a))] := by
  show V.g [.b (decide ((a : Int) < 0)), .l 1 (W (dg B (a : Int).natAbs))] = _
  rw [decide_eq_false (by omega)]; rfl
theorem rG_1 {a d : Nat} (h : Nat.gcd a d = 1) : rG (a : Int) d = 1 := h
theorem rz_co {a d : Nat} (h : Nat.gcd a d = 1) : rz (a : Int) d = (a : Int) := by unfold rz; rw [rG_1 h]; exact Int.tdiv_one _
theorem rden_co {a d : Nat} (h : Nat.gcd a d = 1) : rden (a : Int) d = d := by unfold rden; rw [rG_1 h]; exact Nat.div_one _
theorem rv_co {a d : Nat} (h : Nat.gcd a d = 1) (h0 : d ≠ 0) : rv (a : Int) d = rQ a d := by rw [rv_p _ h0, rz_co h, rden_co h, rN_nat]
theorem ceil_nat (a d : Nat) (h0 : 0 < d) : -((-(a : Int) * 2 ^ 0).fdiv (d : Int)) = (((a + d - 1) / d : Nat) : Int) := by
  rw [Int.pow_zero, Int.mul_one, Int.fdiv_eq_ediv_of_nonneg _ (by omega : (0 : Int) ≤ (d : Int))]
  have h1 := Nat.div_add_mod (a + d - 1) d
  have h2 := Nat.mod_lt (a + d - 1) h0
  generalize (a + d - 1) / d = q at *
  generalize (a + d - 1) % d = r at *
  have h3 : -(a : Int) / (d : Int) = -(q : Int) := by
    have e : -(a : Int) = ((d - 1 - r : Nat) : Int) + (d : Int) * (-(q : Int)) := by
      have : ((d * q : Nat) : Int) = (d : Int) * (q : Int) := Int.natCast_mul d q
      rw [Int.mul_neg]
      omega
    rw [e, Int.add_mul_ediv_left _ _ (by omega), Int.ediv_eq_zero_of_lt (by omega) (by omega)]
    omega
  rw [h3]; omega
theorem floor_nat (a d : Nat) : ((a : Int) * 2 ^ 0).fdiv (d : Int) = ((a / d : Nat) : Int) := by
  rw [Int.pow_zero, Int.mul_one, Int.fdiv_eq_ediv_of_nonneg _ (by omega : (0 : Int) ≤ (d : Int))]; rfl
def btw : Nat → Nat → Nat → Nat → Nat → Nat × Nat
  | 0, _, _, _, _ => (0, 1)
  | k + 1, a, d, b, e => if (a + d - 1) / d * e ≤ b then ((a + d - 1) / d, 1) else ((a / d) * (btw k e (b - a / d * e) d (a % d)).1 + (btw k e (b - a / d * e) d (a % d)).2, (btw k e (b - a / d * e) d (a % d)).1)
structure Ends (a d b e : Nat) : Prop where
  a0 : 0 < a
  d0 : 0 < d
  e0 : 0 < e
  ca : Nat.gcd a d = 1
  cb : Nat.gcd b e = 1
  le : a * e ≤ b * d
theorem ends_next {a d b e : Nat} (h : Ends a d b e) (hc : ¬ (a + d - 1) / d * e ≤ b) : 0 < a % d ∧ a / d * e < b ∧ b - a / d * e < e ∧ a = d * (a / d) + a % d ∧ (a + d - 1) / d = a / d + 1 ∧ Ends e (b - a / d * e) d (a % d) := by
  obtain ⟨a0, d0, e0, ca, cb, le⟩ := h
  have h1 := Nat.div_add_mod a d
  have h2 := Nat.mod_lt a d0
  have hr : 0 < a % d := by
    rcases Nat.eq_zero_or_pos (a % d) with h | h
    · exfalso
      apply hc
      rw [h, Nat.add_zero] at h1
      have : (a + d - 1) / d = a / d := by
        conv => lhs; rw [← h1, Nat.add_sub_assoc d0, Nat.mul_add_div d0, Nat.div_eq_of_lt (by omega : d - 1 < d)]
        rfl
      rw [this]
      have h3 : d * (a / d * e) ≤ d * b := by rw [← Nat.mul_assoc, h1, Nat.mul_comm d b]; exact le
      exact Nat.le_of_mul_le_mul_left h3 d0
    · exact h
  have hq : (a + d - 1) / d = a / d + 1 := by
    conv => lhs; rw [show a + d - 1 = d * (a / d + 1) + (a % d - 1) from by rw [Nat.mul_succ]; omega, Nat.mul_add_div d0, Nat.div_eq_of_lt (by omega : a % d - 1 < d), Nat.add_zero]
  rw [hq, Nat.succ_mul] at hc
  have hlt : a / d * e < b := by
    rcases Nat.lt_or_ge (a / d * e) b with h | h
    · exact h
    · exfalso
      have h3 : b * d ≤ a / d * e * d := Nat.mul_le_mul_right _ h
      have h4 : a / d * e * d = (d * (a / d)) * e := by rw [Nat.mul_comm d, Nat.mul_right_comm]
      have h5 : a * e = (d * (a / d)) * e + (a % d) * e := by rw [← Nat.add_mul, h1]
      have h6 := Nat.mul_pos hr e0
      omega
  refine ⟨hr, hlt, by omega, h1.symm, hq, e0, by omega, hr, ?_, ?_, ?_⟩
  · rw [Nat.gcd_comm]
    have h3 : Nat.gcd (b - a / d * e) e = Nat.gcd b e := by
      have e1 : b = (b - a / d * e) + e * (a / d) := by rw [Nat.mul_comm e]; omega
      conv => rhs; rw [e1, Nat.gcd_add_mul_left_left]
    rw [h3]; exact cb
  · rw [Nat.gcd_comm, ← Nat.gcd_rec, Nat.gcd_comm]; exact ca
  · -- e * (a % d) ≤ d * (b - f e)
    rw [Nat.mul_sub, Nat.mul_comm d b, ← Nat.mul_assoc]
    have h5 : a * e = (d * (a / d)) * e + (a % d) * e := by rw [← Nat.add_mul, h1]
    rw [Nat.mul_comm e]
    omega
theorem btw_ok : ∀ (k a d b e : Nat), Ends a d b e → d + e ≤ k → 0 < (btw k a d b e).1 ∧ 0 < (btw k a d b e).2 ∧ Nat.gcd (btw k a d b e).1 (btw k a d b e).2 = 1 ∧ (btw k a d b e).1 ≤ a ∧ (btw k a d b e).2 ≤ d ∧ (btw k a d b e).1 ≤ b ∧ (btw k a d b e).2 ≤ e
  | 0, a, d, b, e, h, hk => by have := h.d0; omega
  | k + 1, a, d, b, e, h, hk => by
    unfold btw
    by_cases hc : (a + d - 1) / d * e ≤ b
    · rw [if_pos hc]
      obtain ⟨a0, d0, e0, ca, cb, le⟩ := h
      have c1 : 0 < (a + d - 1) / d := Nat.div_pos (by omega) d0
      have c2 : (a + d - 1) / d ≤ a := by
        refine Nat.lt_succ_iff.1 ((Nat.div_lt_iff_lt_mul d0).2 ?_)
        rw [Nat.succ_mul]
        have : a * 1 ≤ a * d := Nat.mul_le_mul_left _ d0
        omega
      have c3 : (a + d - 1) / d * 1 ≤ (a + d - 1) / d * e := Nat.mul_le_mul_left _ e0
      exact ⟨c1, Nat.one_pos, Nat.gcd_one_right _, c2, d0, by simp only; omega, e0⟩
    · rw [if_neg hc]
      obtain ⟨hr, hlt, hbe, hae, hq, hn⟩ := ends_next h hc
      have hm := Nat.mod_lt a h.d0
      obtain ⟨p1, p2, p3, p4, p5, p6, p7⟩ := btw_ok k e (b - a / d * e) d (a % d) hn (by omega)
      generalize btw k e (b - a / d * e) d (a % d) = r at *
      refine ⟨Nat.add_pos_right _ p2, p1, ?_, ?_, p6, ?_, p4⟩
      · show Nat.gcd (a / d * r.1 + r.2) r.1 = 1
        rw [Nat.gcd_comm, Nat.gcd_mul_right_add_right]; exact p3
      · have : a / d * r.1 ≤ a / d * d := Nat.mul_le_mul_left _ p6
        rw [Nat.mul_comm _ d] at this
        show a / d * r.1 + r.2 ≤ a
        omega
      · have : a / d * r.1 ≤ a / d * e := Nat.mul_le_mul_left _ p4
        show a / d * r.1 + r.2 ≤ b
        omega
theorem btw_law : ∀ (k a d b e : Nat), Ends a d b e → d + e ≤ k → a * (btw k a d b e).2 ≤ (btw k a d b e).1 * d ∧ (btw k a d b e).1 * e ≤ b * (btw k a d b e).2 ∧ ∀ x y : Nat, 0 < y → a * y ≤ x * d → x * e ≤ b * y → (btw k a d b e).1 ≤ x ∧ (btw k a d b e).2 ≤ y
  | 0, a, d, b, e, h, hk => by have := h.d0; omega
  | k + 1, a, d, b, e, h, hk => by
    unfold btw
    by_cases hc : (a + d - 1) / d * e ≤ b
    · rw [if_pos hc]
      obtain ⟨a0, d0, e0, ca, cb, le⟩ := h
      have h1 := Nat.div_add_mod (a + d - 1) d
      have h2 := Nat.mod_lt (a + d - 1) d0
      refine ⟨?_, ?_, fun x y y0 hx hy => ⟨?_, y0⟩⟩
      · rw [Nat.mul_comm _ d]; simp only; omega
      · simp only; omega
      · -- a y ≤ x d gives a ≤ x d
        have h3 : a * 1 ≤ a * y := Nat.mul_le_mul_left _ y0
        refine Nat.lt_succ_iff.1 ((Nat.div_lt_iff_lt_mul d0).2 ?_)
        rw [Nat.succ_mul]
        omega
    · rw [if_neg hc]
      obtain ⟨hr, hlt, hbe, hae, hq, hn⟩ := ends_next h hc
      have hm := Nat.mod_lt a h.d0
      have d0 := h.d0
      obtain ⟨q1, q2, q3⟩ := btw_law k e (b - a / d * e) d (a % d) hn (by omega)
      rw [hq, Nat.succ_mul] at hc
      generalize btw k e (b - a / d * e) d (a % d) = r at *
      generalize a / d = f at *
      generalize a % d = g at *
      obtain ⟨b', hb'⟩ : ∃ b', b = f * e + b' := ⟨b - f * e, by omega⟩
      subst hb'
      have es : f * e + b' - f * e = b' := by omega
      rw [es] at q1 q3 hbe
      subst hae
      refine ⟨?_, ?_, fun x y y0 hx hy => ?_⟩
      · -- (d f + g) * r1 ≤ (f r1 + r2) * d
        show (d * f + g) * r.1 ≤ (f * r.1 + r.2) * d
        rw [Nat.add_mul, Nat.add_mul, Nat.mul_comm d f, Nat.mul_right_comm f d, Nat.mul_comm g, Nat.mul_comm r.2 d]
        exact Nat.add_le_add_left q2 _
      · show (f * r.1 + r.2) * e ≤ (f * e + b') * r.1
        rw [Nat.add_mul, Nat.add_mul, Nat.mul_right_comm f e, Nat.mul_comm r.2 e, Nat.mul_comm b']
        exact Nat.add_le_add_left q1 _
      · -- x = f y + x'
        have h3 : f * y < x := by
          rcases Nat.lt_or_ge (f * y) x with h | h
          · exact h
          · exfalso
            have h4 : x * d ≤ f * y * d := Nat.mul_le_mul_right _ h
            rw [Nat.add_mul, Nat.mul_comm d f, Nat.mul_right_comm f d] at hx
            have := Nat.mul_pos hr y0
            omega
        obtain ⟨x', hx'⟩ : ∃ x', x = f * y + x' := ⟨x - f * y, by omega⟩
        subst hx'
        have x0 : 0 < x' := by omega
        rw [Nat.add_mul, Nat.add_mul, Nat.mul_comm d f, Nat.mul_right_comm f d] at hx
        rw [Nat.add_mul, Nat.add_mul, Nat.mul_right_comm f e] at hy
        obtain ⟨r1, r2⟩ := q3 y x' x0 (by rw [Nat.mul_comm e, Nat.mul_comm y]; omega) (by rw [Nat.mul_comm y, Nat.mul_comm d]; omega)
        have := Nat.mul_le_mul_left f r1
        exact ⟨by show f * r.1 + r.2 ≤ f * y + x'; omega, r1⟩
theorem qceilN {a d m : Nat} (hm : m ≤ 1100000) (hm1 : 16384 ≤ m) (ha : a < B ^ m) (hd : d < B ^ m) (h0 : 0 < d) : AFun Tryz.prog J0 74 [rQ a d, .i .i64 0] (.t [.g [.b false, .l 1 (W (dg B ((a + d - 1) / d)))], .i .i64 0]) := by
  have h := qceil_up false (dg B a) (dg B d) 0 m (by decide) (by omega) hm1 (Wd_dg _) (Wd_dg _) (dlen ha) (dlen hd) (by rw [nv_dgB]; omega)
  rw [zv_f, nv_dgB, nv_dgB, ceil_nat _ _ h0, zN_nat] at h
  exact h
theorem qfloorN {a d m : Nat} (hm : m ≤ 1100000) (hm1 : 16384 ≤ m) (ha : a < B ^ m) (hd : d < B ^ m) (h0 : 0 < d) : AFun Tryz.prog J0 75 [rQ a d, .i .i64 0] (.t [.g [.b false, .l 1 (W (dg B (a / d)))], .i .i64 0]) := by
  have h := qfloor_up false (dg B a) (dg B d) 0 m (by decide) (by omega) hm1 (Wd_dg _) (Wd_dg _) (dlen ha) (dlen hd) (by rw [nv_dgB]; omega)
  rw [zv_f, nv_dgB, nv_dgB, floor_nat, zN_nat] at h
  exact h
theorem qsubN {a d f g m : Nat} (hm : m ≤ 1100000) (ha : a < B ^ m) (hd : d < B ^ m) (hf : f < B ^ m) (h1 : 1 < B ^ m) (h0 : 0 < d) (e : a = d * f + g) (hg : Nat.gcd g d = 1) : AFun Tryz.prog J0 12 [rQ a d, rQ f 1] (.t [rQ g d, .i .i64 0]) := by
  have h := qsub_spec false false (dg B a) (dg B f) (dg B d) (dg B 1) m (by omega) (Wd_dg _) (Wd_dg _) (Wd_dg _) (Wd_dg _) (dlen ha) (dlen hf) (dlen hd) (dlen h1)
  rw [zv_f, zv_f, nv_dgB, nv_dgB, nv_dgB, nv_dgB, Nat.mul_one, show (a : Int) * ((1 : Nat) : Int) - (f : Int) * (d : Int) = (g : Int) from by rw [e, Int.mul_comm (f : Int)]; rw [← Int.natCast_mul]; omega, rv_co hg (by omega), re_p (by omega)] at h
  exact h
theorem qquoN {g d m : Nat} (hm : m ≤ 1100000) (hd : d < B ^ m) (hgl : g < B ^ m) (h1 : 1 < B ^ m) (h0 : 0 < d) (g0 : 0 < g) (hg : Nat.gcd d g = 1) : AFun Tryz.prog J0 34 [rQ 1 1, rQ g d] (.t [rQ d g, .i .i64 0]) := by
  have h := qquo_spec false false (dg B 1) (dg B g) (dg B 1) (dg B d) m (by omega) (Wd_dg _) (Wd_dg _) (Wd_dg _) (Wd_dg _) (dlen h1) (dlen hgl) (dlen h1) (dlen hd) (by rw [nv_dgB, nv_dgB]; omega)
  rw [zv_f, zv_f, nv_dgB, nv_dgB, nv_dgB, show ((1 : Nat) : Int) * (d : Int) = (d : Int) from by omega, show (g : Int) * ((1 : Nat) : Int) = (g : Int) from by omega, nat_abs, show mz (d : Int) (g : Int) = (d : Int) from if_neg (by omega), rv_co hg (by omega), re_p (by omega)] at h
  exact h
theorem qaddN {f p q m : Nat} (hm : m ≤ 1100000) (hf : f < B ^ m) (hp : p < B ^ m) (hq : q < B ^ m) (h1 : 1 < B ^ m) (p0 : 0 < p) (hg : Nat.gcd (f * p + q) p = 1) : AFun Tryz.prog J0 11 [rQ f 1, rQ q p] (.t [rQ (f * p + q) p, .i .i64 0]) := by
  have h := qadd_spec false false (dg B f) (dg B q) (dg B 1) (dg B p) m (by omega) (Wd_dg _) (Wd_dg _) (Wd_dg _) (Wd_dg _) (dlen hf) (dlen hq) (dlen h1) (dlen hp)
  rw [zv_f, zv_f, nv_dgB, nv_dgB, nv_dgB, nv_dgB, Nat.one_mul, show (f : Int) * (p : Int) + (q : Int) * ((1 : Nat) : Int) = ((f * p + q : Nat) : Int) from by rw [Int.natCast_add, Int.natCast_mul]; omega, rv_co hg (by omega), re_p (by omega)] at h
  exact h
theorem qcmpN {a d b e m : Nat} (hm : m ≤ 1100000) (ha : a < B ^ m) (hd : d < B ^ m) (hb : b < B ^ m) (he : e < B ^ m) (d0 : 0 < d) (e0 : 0 < e) : AFun Tryz.prog J0 31 [rQ a d, rQ b e] (.t [.i .i64 (cz ((a * e : Nat) : Int) ((b * d : Nat) : Int)), .i .i64 0]) := by
  have h := qcmp_spec false false (dg B a) (dg B b) (dg B d) (dg B e) m (by omega) (Wd_dg _) (Wd_dg _) (Wd_dg _) (Wd_dg _) (dlen ha) (dlen hb) (dlen hd) (dlen he)
  have hde := Nat.mul_pos d0 e0
  rw [zv_f, zv_f, nv_dgB, nv_dgB, nv_dgB, nv_dgB, if_neg (by omega), re_p (by omega), ← Int.natCast_mul, ← Int.natCast_mul] at h
  exact h
theorem qredN {a m : Nat} (hm : m ≤ 1100000) (ha : a < B ^ m) (h1 : 1 < B ^ m) : AFun Tryz.prog J0 24 [.g [.b false, .l 1 (W (dg B a))], .l 1 (W (dg B 1))] (rQ a 1) := by
  have h := qred_spec false (dg B a) (dg B 1) m (by omega) (Wd_dg _) (Wd_dg _) (dlen ha) (dlen h1) (by rw [nv_dgB]; decide)
  rw [zv_f, nv_dgB, nv_dgB, rz_co (Nat.gcd_one_right _), rden_co (Nat.gcd_one_right _), rN_nat] at h
  exact h
theorem cz_le (x y : Nat) : (cz (x : Int) (y : Int) ≤ 0) = (x ≤ y) := by
  unfold cz
  refine propext ⟨fun h => ?_, fun h => ?_⟩
  · by_cases h1 : (x : Int) < (y : Int)
    · omega
    · by_cases h2 : (x : Int) = (y : Int)
      · omega
      · rw [if_neg h1, if_neg h2] at h
        exact absurd h (by decide)
  · by_cases h1 : (x : Int) < (y : Int)
    · rw [if_pos h1]; decide
    · rw [if_neg h1, if_pos (by omega)]; exact Int.le_refl 0
theorem one_ltB {m : Nat} (h : 16384 ≤ m) : 1 < B ^ m := by
  have : B ^ 1 ≤ B ^ m := Nat.pow_le_pow_right (by decide) (by omega)
  rw [Nat.pow_one] at this
  exact Nat.lt_of_lt_of_le (by decide) this
def a57 : AC := .seq (.reg [qr 2 (.bx 27 (.t 0)),
 qr 3 (.bx 27 (.t 1)),
 qr 4 (.al 27 [(.b false), (.l 1 []), (.l 1 [])])])
 (.seq (.reg [qr 20 (.ld true 3 (.t 2)),
 qr 21 (.call 74 [(1, (.t 20)), (1, (.k (.i .i64 0)))]),
 qm 19 21,
 qr 22 (.ext (.t 19) 0),
 qr 23 (.ext (.t 19) 1),
 qr 5 (.al 25 [(.b false), (.l 1 [])]),
 qn (.st 2 (.t 5) (.t 22)),
 qm 6 23])
 (.seq (.seq (.dregx [(25, 3), (26, 3)] [qr 25 (.ld true 2 (.t 5)),
 qr 26 (.call 20 [(1, (.k (.i .u64 1)))]),
 qr 27 (.bld [(.b false), (.l 1 []), (.l 1 [])] [(0, 2, (.t 25)), (2, 1, (.t 26))]),
 qr 28 (.ld true 3 (.t 3)),
 qr 29 (.call 31 [(1, (.t 27)), (1, (.t 28))]),
 qm 24 29,
 qr 30 (.ext (.t 24) 0),
 qr 31 (.ext (.t 24) 1),
 qm 7 30,
 qm 8 31])
 (.seq (.reg [qm 32 7,
 qr 33 (.bin .leq (.t 32) (.k (.i .i64 0)))])
 (.cond (.t 33)
 (.seq (.dreg [qr 34 (.ld true 2 (.t 5)),
 qr 35 (.call 20 [(1, (.k (.i .u64 1)))]),
 qr 36 (.call 24 [(1, (.t 34)), (1, (.t 35))]),
 qn (.st 3 (.t 4) (.t 36))])
 (.ret))
 (.skip))))
 (.seq (.reg [qr 38 (.ld true 3 (.t 2)),
 qr 39 (.call 75 [(1, (.t 38)), (1, (.k (.i .i64 0)))]),
 qm 37 39,
 qr 40 (.ext (.t 37) 0),
 qr 41 (.ext (.t 37) 1),
 qr 9 (.al 25 [(.b false), (.l 1 [])]),
 qn (.st 2 (.t 9) (.t 40)),
 qm 10 41])
 (.seq (.dreg [qr 42 (.ld true 2 (.t 9)),
 qr 43 (.call 20 [(1, (.k (.i .u64 1)))]),
 qr 44 (.bld [(.b false), (.l 1 []), (.l 1 [])] [(0, 2, (.t 42)), (2, 1, (.t 43))]),
 qr 11 (.al 27 [(.b false), (.l 1 []), (.l 1 [])]),
 qn (.st 3 (.t 11) (.t 44))])
 (.seq (.reg [qr 46 (.ld true 3 (.t 2)),
 qr 47 (.ld true 3 (.t 11)),
 qr 48 (.call 12 [(1, (.t 46)), (1, (.t 47))]),
 qm 45 48,
 qr 49 (.ext (.t 45) 0),
 qr 50 (.ext (.t 45) 1),
 qr 12 (.al 27 [(.b false), (.l 1 []), (.l 1 [])]),
 qn (.st 3 (.t 12) (.t 49)),
 qm 13 50])
 (.seq (.reg [qr 52 (.ld true 3 (.t 3)),
 qr 53 (.ld true 3 (.t 11)),
 qr 54 (.call 12 [(1, (.t 52)), (1, (.t 53))]),
 qm 51 54,
 qr 55 (.ext (.t 51) 0),
 qr 56 (.ext (.t 51) 1),
 qr 14 (.al 27 [(.b false), (.l 1 []), (.l 1 [])]),
 qn (.st 3 (.t 14) (.t 55)),
 qm 15 56])
 (.seq (.reg [qr 57 (.call 16 [(1, (.k (.i .i64 1)))]),
 qr 58 (.call 20 [(1, (.k (.i .u64 1)))]),
 qr 59 (.bld [(.b false), (.l 1 []), (.l 1 [])] [(0, 2, (.t 57)), (2, 1, (.t 58))]),
 qr 16 (.al 27 [(.b false), (.l 1 []), (.l 1 [])]),
 qn (.st 3 (.t 16) (.t 59))])
 (.seq (.reg [qr 61 (.ld true 3 (.t 16)),
 qr 62 (.ld true 3 (.t 12)),
 qr 63 (.call 34 [(1, (.t 61)), (1, (.t 62))]),
 qm 60 63,
 qr 64 (.ext (.t 60) 0),
 qr 65 (.ext (.t 60) 1),
 qn (.st 3 (.t 12) (.t 64))])
 (.seq (.reg [qr 67 (.ld true 3 (.t 16)),
 qr 68 (.ld true 3 (.t 14)),
 qr 69 (.call 34 [(1, (.t 67)), (1, (.t 68))]),
 qm 66 69,
 qr 70 (.ext (.t 66) 0),
 qr 71 (.ext (.t 66) 1),
 qn (.st 3 (.t 14) (.t 70))])
 (.seq (.dreg [qr 73 (.ld true 3 (.t 16)),
 qr 74 (.ld true 3 (.t 14)),
 qr 75 (.ld true 3 (.t 12)),
 qr 76 (.call 57 [(1, (.t 74)), (1, (.t 75))]),
 qr 77 (.call 34 [(1, (.t 73)), (1, (.t 76))]),
 qm 72 77,
 qr 78 (.ext (.t 72) 0),
 qr 79 (.ext (.t 72) 1),
 qr 17 (.al 27 [(.b false), (.l 1 []), (.l 1 [])]),
 qn (.st 3 (.t 17) (.t 78)),
 qm 18 79])
 (.seq (.reg [qr 81 (.ld true 3 (.t 11)),
 qr 82 (.ld true 3 (.t 17)),
 qr 83 (.call 11 [(1, (.t 81)), (1, (.t 82))]),
 qm 80 83,
 qr 84 (.ext (.t 80) 0),
 qr 85 (.ext (.t 80) 1),
 qn (.st 3 (.t 17) (.t 84))])
 (.seq (.reg [qr 86 (.ld true 3 (.t 17)),
 qn (.st 3 (.t 4) (.t 86))])
 (.ret)))))))))))))
theorem qbtw_spec : ∀ (k a d b e m : Nat), Ends a d b e → d + e ≤ k → m ≤ 1100000 → 16384 ≤ m → a < B ^ m → d < B ^ m → b < B ^ m → e < B ^ m → AFun Tryz.prog J0 57 [rQ a d, rQ b e] (rQ (btw k a d b e).1 (btw k a d b e).2)
  | 0, a, d, b, e, m, h, hk, hm, hm1, ha, hd, hb, he => by have := h.d0; omega
  | k + 1, a, d, b, e, m, h, hk, hm, hm1, ha, hd, hb, he => by
    have ok := btw_ok (k + 1) a d b e h hk
    have hB1 := one_ltB hm1
    have d0 := h.d0
    have e0 := h.e0
    have c1 := qceilN hm hm1 ha hd d0
    have o1 := (natOf_spec 1 (by decide)).frozen
    have hcl : (a + d - 1) / d < B ^ m := by
      refine Nat.lt_of_le_of_lt (Nat.lt_succ_iff.1 ((Nat.div_lt_iff_lt_mul d0).2 ?_)) ha
      rw [Nat.succ_mul]
      have : a * 1 ≤ a * d := Nat.mul_le_mul_left _ d0
      omega
    have c2 := qcmpN hm hcl hB1 hb he (by decide) e0
    rw [Nat.mul_one] at c2
    unfold btw at ok ⊢
    by_cases hc : (a + d - 1) / d * e ≤ b
    · rw [if_pos hc]
      have hz : cz (((a + d - 1) / d * e : Nat) : Int) (b : Int) ≤ 0 := by rw [cz_le]; exact hc
      have r1 := qredN hm hcl hB1
      generalize cz (((a + d - 1) / d * e : Nat) : Int) (b : Int) = z at *
      generalize (a + d - 1) / d = c at *
      clear ok
      refine mkcQ fol J0s Tryz.func57 a57 [.c 4 true 3] ?_
      unfold a57
      simp only [init_eq, initE, qm, qr, qn]
      exact wcQ (ai @hz @bz_Q14)
    · rw [if_neg hc] at ok ⊢
      have hz : ¬ cz (((a + d - 1) / d * e : Nat) : Int) (b : Int) ≤ 0 := by rw [cz_le]; exact hc
      obtain ⟨hr, hlt, hbe, hae, hq, hn⟩ := ends_next h hc
      have hm2 := Nat.mod_lt a d0
      have hfl : a / d < B ^ m := Nat.lt_of_le_of_lt (Nat.div_le_self _ _) ha
      have f1 := qfloorN hm hm1 ha hd d0
      have hgd : Nat.gcd (a % d) d = 1 := by rw [Nat.gcd_comm]; exact hn.cb
      have hge : Nat.gcd (b - a / d * e) e = 1 := by rw [Nat.gcd_comm]; exact hn.ca
      have s1 := qsubN hm ha hd hfl hB1 d0 hae hgd
      have s2 := qsubN (a := b) (d := e) (g := b - a / d * e) hm hb he hfl hB1 e0 (by rw [Nat.mul_comm e]; omega) hge
      have gl : a % d < B ^ m := by omega
      have bl' : b - a / d * e < B ^ m := by omega
      have q1 := qquoN hm hd gl hB1 d0 hr hn.cb
      have q2 := qquoN hm he bl' hB1 e0 (by omega) hn.ca
      have ih := qbtw_spec k e (b - a / d * e) d (a % d) m hn (by omega) hm hm1 he bl' hd gl
      obtain ⟨p1, p2, p3, p4, p5, p6, p7⟩ := btw_ok k e (b - a / d * e) d (a % d) hn (by omega)
      have z1 := zofn_spec 1 (by decide) (by decide)
      rw [show zN 1 = .g [.b false, .l 1 (W (dg B 1))] from zN_nat 1] at z1
      generalize btw k e (b - a / d * e) d (a % d) = r at *
      have q3 := qquoN (g := r.1) (d := r.2) hm (by omega) (by omega) hB1 p2 p1 (by rw [Nat.gcd_comm]; exact p3)
      have a1 := qaddN (f := a / d) (p := r.1) (q := r.2) hm hfl (by omega) (by omega) hB1 p1 ok.2.2.1
      generalize cz (((a + d - 1) / d * e : Nat) : Int) (b : Int) = z at *
      clear ok
      generalize (a + d - 1) / d = c at *
      generalize a / d * r.1 + r.2 = t at *
      generalize r.1 = t1 at *
      generalize r.2 = t2 at *
      generalize b - a / d * e = b' at *
      generalize a / d = f at *
      generalize a % d = g at *
      refine mkcQ fol J0s Tryz.func57 a57 [.c 4 true 3] ?_
      unfold a57
      simp only [init_eq, initE, qm, qr, qn]
      exact wcQ (ai @hz @bz_Q14)
end Go.Proofs.YtgejbndgakgfnaaGreatDoor
namespace Go.Proofs.YtgejbndgakgfnaaGreatDoor
open Go Go.RowKit Ab
set_option linter.unusedSimpArgs false
set_option linter.unusedVariables false
set_option maxHeartbeats 10000000
theorem bz_Q15 : type_of% (And.intro @W_len (And.intro @D_len (And.intro @Nat.div_one (And.intro @Nat.mul_one (And.intro @tn_nat (And.intro @W_nf (And.intro @D_nf (And.intro @W_nil (And.intro @D_nil (And.intro @wi (And.intro @nf_g (And.intro @Bool.false_and (@W_cell))))))))))))) := And.intro @W_len (And.intro @D_len (And.intro @Nat.div_one (And.intro @Nat.mul_one (And.intro @tn_nat (And.intro @W_nf (And.intro @D_nf (And.intro @W_nil (And.intro @D_nil (And.intro @wi (And.intro @nf_g (And.intro @Bool.false_and (@W_cell))))))))))))
theorem r_co (z : Int) {d : Nat} (h : d ≠ 0) : Nat.gcd (rz z d).natAbs (rden z d) = 1 := by
  rw [rz_abs]
  have hp := rG_pos (z := z) h
  have e := Nat.gcd_div (Nat.gcd_dvd_left z.natAbs d) (Nat.gcd_dvd_right z.natAbs d)
  rw [Nat.div_self (show 0 < Nat.gcd z.natAbs d from hp)] at e
  exact e
theorem r_le {z w : Int} {d e : Nat} (hd : d ≠ 0) (he : e ≠ 0) : (rz z d * (rden w e : Int) ≤ rz w e * (rden z d : Int)) ↔ z * (e : Int) ≤ w * (d : Int) := by
  have h1 := rz_back (z := z) (d := d)
  have h2 := rden_back (z := z) (d := d)
  have h3 := rz_back (z := w) (d := e)
  have h4 := rden_back (z := w) (d := e)
  have p1 := rG_pos (z := z) hd
  have p2 := rG_pos (z := w) he
  generalize rz z d = x at *
  generalize rden z d = y at *
  generalize rz w e = u at *
  generalize rden w e = v at *
  generalize rG z d = g at *
  generalize rG w e = f at *
  subst h1 h2 h3 h4
  have e1 : x * (g : Int) * ((v * f : Nat) : Int) = x * (v : Int) * ((g * f : Nat) : Int) := by
    rw [Int.natCast_mul, Int.natCast_mul, Int.mul_assoc, Int.mul_assoc, Int.mul_left_comm (g : Int)]
  have e2 : u * (f : Int) * ((y * g : Nat) : Int) = u * (y : Int) * ((g * f : Nat) : Int) := by
    rw [Int.natCast_mul, Int.natCast_mul, Int.mul_assoc, Int.mul_assoc, Int.mul_left_comm (f : Int), Int.mul_comm (f : Int)]
  rw [e1, e2]
  have p3 : (0 : Int) < ((g * f : Nat) : Int) := by have := Nat.mul_pos p1 p2; omega
  exact ⟨fun h => Int.mul_le_mul_of_nonneg_right h (by omega), fun h => Int.le_of_mul_le_mul_right h p3⟩
def smp (z : Int) (d : Nat) (w : Int) (e : Nat) : Int × Nat :=
  if z ≤ 0 ∧ 0 ≤ w then (0, 1)
  else if w < 0 then (-((btw (e + d) w.natAbs e z.natAbs d).1 : Int), (btw (e + d) w.natAbs e z.natAbs d).2)
  else (((btw (d + e) z.natAbs d w.natAbs e).1 : Int), (btw (d + e) z.natAbs d w.natAbs e).2)
theorem sgz_le (z : Int) : (sgz z ≤ 0) = (z ≤ 0) := by
  unfold sgz
  split
  · exact propext ⟨fun _ => by omega, fun _ => by decide⟩
  · split
    · exact propext ⟨fun h => absurd h (by decide), fun h => by omega⟩
    · exact propext ⟨fun _ => by omega, fun _ => by decide⟩
theorem sgz_ge (z : Int) : (0 ≤ sgz z) = (0 ≤ z) := by
  unfold sgz
  split
  · exact propext ⟨fun h => absurd h (by decide), fun h => by omega⟩
  · split
    · exact propext ⟨fun _ => by omega, fun _ => by decide⟩
    · exact propext ⟨fun _ => by omega, fun _ => by decide⟩
theorem cz_gt (x y : Int) : (0 < cz x y) = (y < x) := by
  unfold cz
  split
  · exact propext ⟨fun h => absurd h (by decide), fun h => by omega⟩
  · split
    · exact propext ⟨fun h => absurd h (by decide), fun h => by omega⟩
    · exact propext ⟨fun _ => by omega, fun _ => by decide⟩
theorem ends_pos {z w : Int} {d e : Nat} (hz : 0 < z) (hw : 0 < w) (hd : d ≠ 0) (he : e ≠ 0) (c1 : Nat.gcd z.natAbs d = 1) (c2 : Nat.gcd w.natAbs e = 1) (h : z * (e : Int) ≤ w * (d : Int)) : Ends z.natAbs d w.natAbs e := by
  obtain ⟨x, rfl⟩ : ∃ x : Nat, z = (x : Int) := ⟨z.toNat, by omega⟩
  obtain ⟨y, rfl⟩ : ∃ y : Nat, w = (y : Int) := ⟨w.toNat, by omega⟩
  refine ⟨by omega, by omega, by omega, c1, c2, ?_⟩
  rw [← Int.natCast_mul, ← Int.natCast_mul] at h
  exact Int.ofNat_le.1 h
theorem ends_neg {z w : Int} {d e : Nat} (hz : z < 0) (hw : w < 0) (hd : d ≠ 0) (he : e ≠ 0) (c1 : Nat.gcd z.natAbs d = 1) (c2 : Nat.gcd w.natAbs e = 1) (h : z * (e : Int) ≤ w * (d : Int)) : Ends w.natAbs e z.natAbs d := by
  have := ends_pos (z := -w) (w := -z) (d := e) (e := d) (by omega) (by omega) he hd (by rw [Int.natAbs_neg]; exact c2) (by rw [Int.natAbs_neg]; exact c1) (by rw [Int.neg_mul, Int.neg_mul]; omega)
  rwa [Int.natAbs_neg, Int.natAbs_neg] at this
theorem rN_pos {z : Int} (h : 0 ≤ z) (d : Nat) : rN z d = rQ z.natAbs d := by
  rw [← rN_nat, show ((z.natAbs : Nat) : Int) = z from by omega]
def a36 : AC := .seq (.reg [qr 2 (.bx 27 (.t 0)),
 qr 3 (.bx 27 (.t 1)),
 qr 4 (.al 27 [(.b false), (.l 1 []), (.l 1 [])]),
 qr 5 (.mv (.k (.i .i64 0)))])
 (.seq (.reg [qr 10 (.ld true 3 (.t 2)),
 qr 11 (.ld true 3 (.t 3)),
 qr 12 (.call 31 [(1, (.t 10)), (1, (.t 11))]),
 qm 9 12,
 qr 13 (.ext (.t 9) 0),
 qr 14 (.ext (.t 9) 1),
 qm 6 13,
 qm 7 14])
 (.seq (.seq (.reg [qm 15 7,
 qr 16 (.bin .neq (.t 15) (.k (.i .i64 0)))])
 (.cond (.t 16)
 (.seq (.reg [qr 17 (.bld [(.b false), (.l 1 []), (.l 1 [])] []),
 qm 18 7,
 qn (.st 3 (.t 4) (.t 17)),
 qm 5 18])
 (.ret))
 (.skip)))
 (.seq (.seq (.reg [qm 19 6,
 qr 20 (.bin .gtr (.t 19) (.k (.i .i64 0)))])
 (.cond (.t 20)
 (.seq (.reg [qr 21 (.bld [(.b false), (.l 1 []), (.l 1 [])] []),
 qn (.st 3 (.t 4) (.t 21)),
 qr 5 (.mv (.k (.i .i64 7)))])
 (.ret))
 (.skip)))
 (.seq (.reg [qr 23 (.ld true 3 (.t 2)),
 qr 24 (.call 10 [(1, (.t 23))]),
 qm 22 24,
 qr 25 (.ext (.t 22) 0),
 qr 26 (.ext (.t 22) 1),
 qn (.st 3 (.t 2) (.t 25))])
 (.seq (.reg [qr 28 (.ld true 3 (.t 3)),
 qr 29 (.call 10 [(1, (.t 28))]),
 qm 27 29,
 qr 30 (.ext (.t 27) 0),
 qr 31 (.ext (.t 27) 1),
 qn (.st 3 (.t 3) (.t 30))])
 (.seq (.blk 0
 (.seq (.reg [qr 33 (.fad 0 (.t 2)),
 qr 34 (.ld true 2 (.t 33)),
 qr 35 (.call 37 [(1, (.t 34))]),
 qr 36 (.bin .leq (.t 35) (.k (.i .i64 0))),
 qm 37 36,
 ⟨some 38, some (37, true), .fad 0 (.t 3)⟩,
 ⟨some 39, some (37, true), .ld true 2 (.t 38)⟩,
 ⟨some 40, some (37, true), .call 37 [(1, (.t 39))]⟩,
 ⟨some 41, some (37, true), .bin .geq (.t 40) (.k (.i .i64 0))⟩,
 qr 42 (.pick (.t 37) (.t 41) (.k (.b false))),
 qm 32 42])
 (.cond (.t 32)
 (.seq (.reg [qr 43 (.call 16 [(1, (.k (.i .i64 0)))]),
 qr 44 (.call 20 [(1, (.k (.i .u64 1)))]),
 qr 45 (.call 24 [(1, (.t 43)), (1, (.t 44))]),
 qn (.st 3 (.t 4) (.t 45)),
 qr 5 (.mv (.k (.i .i64 0)))])
 (.ret))
 (.seq (.reg [qr 47 (.fad 0 (.t 3)),
 qr 48 (.ld true 2 (.t 47)),
 qr 49 (.call 37 [(1, (.t 48))]),
 qr 50 (.bin .lss (.t 49) (.k (.i .i64 0))),
 qm 46 50])
 (.cond (.t 46)
 (.seq (.reg [qr 51 (.ld true 3 (.t 3)),
 qr 52 (.ld true 3 (.t 2)),
 qn (.st 3 (.t 2) (.t 51)),
 qn (.st 3 (.t 3) (.t 52))])
 (.seq (.dreg [qr 53 (.fad 0 (.t 2)),
 qr 54 (.ld true 2 (.t 53)),
 qr 55 (.call 28 [(1, (.t 54))]),
 qr 56 (.fad 0 (.t 3)),
 qr 57 (.ld true 2 (.t 56)),
 qr 58 (.call 28 [(1, (.t 57))]),
 qr 59 (.fad 0 (.t 2)),
 qn (.st 2 (.t 59) (.t 55)),
 qr 60 (.fad 0 (.t 3)),
 qn (.st 2 (.t 60) (.t 58))])
 (.seq (.reg [qr 61 (.ld true 3 (.t 2)),
 qr 62 (.ld true 3 (.t 3)),
 qr 63 (.call 57 [(1, (.t 61)), (1, (.t 62))]),
 qr 8 (.al 27 [(.b false), (.l 1 []), (.l 1 [])]),
 qn (.st 3 (.t 8) (.t 63))])
 (.seq (.reg [qr 64 (.fad 0 (.t 8)),
 qr 65 (.ld true 2 (.t 64)),
 qr 66 (.call 28 [(1, (.t 65))]),
 qr 67 (.fad 0 (.t 8)),
 qn (.st 2 (.t 67) (.t 66))])
 (.seq (.reg [qr 68 (.ld true 3 (.t 8)),
 qn (.st 3 (.t 4) (.t 68)),
 qr 5 (.mv (.k (.i .i64 0)))])
 (.ret))))))
 (.skip))))))
 (.seq (.reg [qr 69 (.ld true 3 (.t 2)),
 qr 70 (.ld true 3 (.t 3)),
 qr 71 (.call 57 [(1, (.t 69)), (1, (.t 70))]),
 qn (.st 3 (.t 4) (.t 71)),
 qr 5 (.mv (.k (.i .i64 0)))])
 (.ret))))))))
theorem qsimp_spec (s t : Bool) (a b d e : List Nat) (m : Nat) (hm : m ≤ 1100000) (hm1 : 16384 ≤ m) (ha : Wd a) (hb : Wd b) (hd : Wd d) (he : Wd e) (la : a.length ≤ m) (lb : b.length ≤ m) (ld : d.length ≤ m) (le : e.length ≤ m) (hd0 : nv B d ≠ 0) (he0 : nv B e ≠ 0) (hle : zv s a * (nv B e : Int) ≤ zv t b * (nv B d : Int)) :
    AFun Tryz.prog J0 36 [rL s a d, rL t b e] (.t [rN (smp (rz (zv s a) (nv B d)) (rden (zv s a) (nv B d)) (rz (zv t b) (nv B e)) (rden (zv t b) (nv B e))).1 (smp (rz (zv s a) (nv B d)) (rden (zv s a) (nv B d)) (rz (zv t b) (nv B e)) (rden (zv t b) (nv B e))).2, .i .i64 0]) := by
  have h1 := qcmp_spec s t a b d e m (by omega) ha hb hd he la lb ld le
  have hde : nv B d * nv B e ≠ 0 := Nat.mul_ne_zero hd0 he0
  rw [if_neg hde, re_p hde] at h1
  have hc : ¬ 0 < cz (zv s a * (nv B e : Int)) (zv t b * (nv B d : Int)) := by rw [cz_gt]; omega
  have n1 := qnorm_spec s a d m (by omega) ha hd la ld
  have n2 := qnorm_spec t b e m (by omega) hb he lb le
  rw [rv_p _ hd0, re_p hd0] at n1
  rw [rv_p _ he0, re_p he0] at n2
  have bz : (rz (zv s a) (nv B d)).natAbs < B ^ m := by rw [rz_abs]; exact Nat.lt_of_le_of_lt (Nat.div_le_self _ _) (zv_lt ha la)
  have bw : (rz (zv t b) (nv B e)).natAbs < B ^ m := by rw [rz_abs]; exact Nat.lt_of_le_of_lt (Nat.div_le_self _ _) (zv_lt hb lb)
  have bd : rden (zv s a) (nv B d) < B ^ m := Nat.lt_of_le_of_lt (Nat.div_le_self _ _) (nvlt hd ld)
  have be : rden (zv t b) (nv B e) < B ^ m := Nat.lt_of_le_of_lt (Nat.div_le_self _ _) (nvlt he le)
  have cd := r_co (zv s a) hd0
  have ce := r_co (zv t b) he0
  have dp := rden_pos (z := zv s a) hd0
  have ep := rden_pos (z := zv t b) he0
  have hle' := (r_le hd0 he0).2 hle
  generalize cz (zv s a * (nv B e : Int)) (zv t b * (nv B d : Int)) = c at *
  generalize rz (zv s a) (nv B d) = z at *
  generalize rden (zv s a) (nv B d) = x at *
  generalize rz (zv t b) (nv B e) = w at *
  generalize rden (zv t b) (nv B e) = y at *
  have hB1 := one_ltB hm1
  have o1 := (natOf_spec 1 (by decide)).frozen
  have s1 := zsignN bz (by omega)
  have s2 := zsignN bw (by omega)
  have g1 := sgz_le z
  have g2 := sgz_ge w
  have g3 := sgz_lt w
  by_cases k1 : z ≤ 0
  · by_cases k2 : 0 ≤ w
    · rw [show smp z x w y = (0, 1) from if_pos ⟨k1, k2⟩]
      have z0 := zofn_spec 0 (by decide) (by decide)
      rw [show zN 0 = .g [.b false, .l 1 (W (dg B 0))] from zN_nat 0] at z0
      have r1 := qredN (a := 0) (by omega) (by omega) hB1
      rw [show rN ((0, 1) : Int × Nat).1 ((0, 1) : Int × Nat).2 = rQ 0 1 from rN_nat 0 1]
      rw [← g1] at k1
      rw [← g2] at k2
      generalize sgz z = gz at *
      generalize sgz w = gw at *
      refine mkcQ fol J0s Tryz.func36 a36 [.c 4 true 3, .t 5] ?_
      unfold a36
      simp only [init_eq, initE, qm, qr, qn]
      exact wcQ (ai @k2 (ai @k1 (ai @hc @bz_Q15)))
    · have kw : w < 0 := by omega
      have kz : z < 0 := by
        rcases (by omega : z < 0 ∨ 0 ≤ z) with h | h
        · exact h
        · exfalso
          have h3 : 0 ≤ z * (y : Int) := Int.mul_nonneg h (by omega)
          have h4 : w * (x : Int) < 0 := Int.mul_neg_of_neg_of_pos kw (by omega)
          omega
      have he' := ends_neg kz kw dp ep cd ce hle'
      have bt := qbtw_spec (y + x) w.natAbs y z.natAbs x m he' (Nat.le_refl _) hm hm1 bw be bz bd
      obtain ⟨p1, p2, p3, p4, _⟩ := btw_ok (y + x) w.natAbs y z.natAbs x he' (Nat.le_refl _)
      rw [show smp z x w y = (-((btw (y + x) w.natAbs y z.natAbs x).1 : Int), (btw (y + x) w.natAbs y z.natAbs x).2) from by unfold smp; rw [if_neg (by omega), if_pos kw]]
      generalize btw (y + x) w.natAbs y z.natAbs x = r at *
      have zw := zneg_spec (decide (w < 0)) (dg B w.natAbs) (Wd_dg _) (Nat.le_trans (dlen bw) (by omega))
      rw [zv_N, show -w = ((w.natAbs : Nat) : Int) from by omega, zN_nat] at zw
      have zz := zneg_spec (decide (z < 0)) (dg B z.natAbs) (Wd_dg _) (Nat.le_trans (dlen bz) (by omega))
      rw [zv_N, show -z = ((z.natAbs : Nat) : Int) from by omega, zN_nat] at zz
      have zr := zneg_spec false (dg B r.1) (Wd_dg _) (Nat.le_trans (dlen (show r.1 < B ^ m by omega)) (by omega))
      rw [zv_f, nv_dgB] at zr
      have k1' : sgz z ≤ 0 := by rw [g1]; exact k1
      have k2' : ¬ 0 ≤ sgz w := by rw [g2]; exact k2
      have k3' : sgz w < 0 := by rw [g3]; exact kw
      generalize sgz z = gz at *
      generalize sgz w = gw at *
      generalize -((r.1 : Nat) : Int) = nr at *
      generalize r.1 = r1 at *
      generalize r.2 = r2 at *
      refine mkcQ fol J0s Tryz.func36 a36 [.c 4 true 3, .t 5] ?_
      unfold a36
      simp only [init_eq, initE, qm, qr, qn]
      exact wcQ (ai @k3' (ai @k2' (ai @k1' (ai @hc @bz_Q15))))
  · have kz : 0 < z := by omega
    have kw : 0 < w := by
      rcases (by omega : 0 < w ∨ w ≤ 0) with h | h
      · exact h
      · exfalso
        have h3 : 0 < z * (y : Int) := Int.mul_pos kz (by omega)
        have h4 : w * (x : Int) ≤ 0 := Int.mul_nonpos_of_nonpos_of_nonneg h (by omega)
        omega
    have he' := ends_pos kz kw dp ep cd ce hle'
    have bt := qbtw_spec (x + y) z.natAbs x w.natAbs y m he' (Nat.le_refl _) hm hm1 bz bd bw be
    obtain ⟨p1, p2, p3, p4, _⟩ := btw_ok (x + y) z.natAbs x w.natAbs y he' (Nat.le_refl _)
    rw [show smp z x w y = (((btw (x + y) z.natAbs x w.natAbs y).1 : Int), (btw (x + y) z.natAbs x w.natAbs y).2) from by unfold smp; rw [if_neg (by omega), if_neg (by omega)]]
    generalize btw (x + y) z.natAbs x w.natAbs y = r at *
    rw [rN_nat]
    rw [rN_pos (by omega)] at n1 n2
    rw [← zI_self z, show decide (z < 0) = false from decide_eq_false (by omega), show zI false z.natAbs = ((z.natAbs : Nat) : Int) from rfl, zN_nat] at s1
    rw [← zI_self w, show decide (w < 0) = false from decide_eq_false (by omega), show zI false w.natAbs = ((w.natAbs : Nat) : Int) from rfl, zN_nat] at s2
    have k1' : ¬ sgz ((z.natAbs : Nat) : Int) ≤ 0 := by rw [sgz_le]; omega
    have k3' : ¬ sgz ((w.natAbs : Nat) : Int) < 0 := by rw [sgz_lt]; omega
    generalize sgz ((z.natAbs : Nat) : Int) = gz at *
    generalize sgz ((w.natAbs : Nat) : Int) = gw at *
    generalize r.1 = r1 at *
    generalize r.2 = r2 at *
    refine mkcQ fol J0s Tryz.func36 a36 [.c 4 true 3, .t 5] ?_
    unfold a36
    simp only [init_eq, initE, qm, qr, qn]
    exact wcQ (ai @k3' (ai @k1' (ai @hc @bz_Q15)))
end Go.Proofs.YtgejbndgakgfnaaGreatDoor
