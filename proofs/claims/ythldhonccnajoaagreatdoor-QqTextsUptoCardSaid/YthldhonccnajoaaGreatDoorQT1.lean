/-
  The document's simplest number between two.
-/
import Derived.Test.YthldhonccnajoaaGreatDoorQ20
namespace Go.Proofs.YthldhonccnajoaaGreatDoor
open Go Go.RowKit Ab
set_option linter.unusedSimpArgs false
set_option linter.unusedVariables false
set_option maxHeartbeats 10000000
theorem bz_QT1 : type_of% (And.intro @W_len (And.intro @D_len (And.intro @Nat.div_one (And.intro @Nat.mul_one (And.intro @tn_nat (And.intro @W_nf (And.intro @D_nf (And.intro @W_nil (And.intro @D_nil (And.intro @wi (And.intro @nf_g (And.intro @Bool.false_and (@W_cell))))))))))))) := And.intro @W_len (And.intro @D_len (And.intro @Nat.div_one (And.intro @Nat.mul_one (And.intro @tn_nat (And.intro @W_nf (And.intro @D_nf (And.intro @W_nil (And.intro @D_nil (And.intro @wi (And.intro @nf_g (And.intro @Bool.false_and (@W_cell))))))))))))
theorem rOverN {g d m : Nat} (hm : m ≤ 1000000) (hd : d < B ^ m) (hgl : g < B ^ m) (h1 : 1 < B ^ m) (h0 : 0 < d) (g0 : 0 < g) (hg : Nat.gcd d g = 1) : AFun Tryz.prog J0 77 [rQ 1 1, rQ g d] (rQ d g) := by
  have h := rOver_spec false false (dg B 1) (dg B g) (dg B 1) (dg B d) m (by omega) (Wd_dg _) (Wd_dg _) (Wd_dg _) (Wd_dg _) (dlen h1) (dlen hgl) (dlen h1) (dlen hd) (by rw [nv_dgB]; decide) (by rw [nv_dgB]; omega)
  rw [zv_f, zv_f, nv_dgB, nv_dgB, nv_dgB, show ((1 : Nat) : Int) * (d : Int) = (d : Int) from by omega, Nat.one_mul, rz_co hg, rden_co hg, rN_nat] at h
  exact h
theorem rPlusN {f p q m : Nat} (hm : m ≤ 1000000) (hf : f < B ^ m) (hp : p < B ^ m) (hq : q < B ^ m) (h1 : 1 < B ^ m) (p0 : 0 < p) (hg : Nat.gcd (f * p + q) p = 1) : AFun Tryz.prog J0 78 [rQ f 1, rQ q p] (rQ (f * p + q) p) := by
  have h := rPlus_spec false false (dg B f) (dg B q) (dg B 1) (dg B p) m (by omega) (Wd_dg _) (Wd_dg _) (Wd_dg _) (Wd_dg _) (dlen hf) (dlen hq) (dlen h1) (dlen hp) (by rw [nv_dgB, nv_dgB]; omega)
  rw [zv_f, zv_f, nv_dgB, nv_dgB, nv_dgB, nv_dgB, Nat.one_mul, show (f : Int) * (p : Int) + (q : Int) * ((1 : Nat) : Int) = ((f * p + q : Nat) : Int) from by rw [Int.natCast_add, Int.natCast_mul]; omega, rz_co hg, rden_co hg, rN_nat] at h
  exact h
theorem rZNn {a m : Nat} (hm : m ≤ 1000000) (hm1 : 16385 ≤ m) (ha : a < B ^ m) : AFun Tryz.prog J0 75 [.g [.b false, .l 1 (W (dg B a))]] (rQ a 1) := by
  have h := rZ_spec false (dg B a) m (by omega) (by omega) (Wd_dg _) (dlen ha)
  rw [zv_f, nv_dgB, rz_co (Nat.gcd_one_right _), rden_co (Nat.gcd_one_right _), rN_nat] at h
  exact h
theorem r_neg (x : Int) (d : Nat) : rz (-x) d = -(rz x d) ∧ rden (-x) d = rden x d := by
  have e : rG (-x) d = rG x d := by unfold rG; rw [Int.natAbs_neg]
  unfold rz rden
  rw [e]
  exact ⟨Int.neg_tdiv _ _, rfl⟩
def a36 : AC := .seq (.reg [qr 2 (.bx 27 (.t 0)),
 qr 3 (.bx 27 (.t 1)),
 qr 4 (.al 27 [(.b false), (.l 1 []), (.l 1 [])])])
 (.seq (.reg [qr 11 (.ld true 3 (.t 2)),
 qr 12 (.call 74 [(1, (.t 11)), (1, (.k (.i .i64 0)))]),
 qm 10 12,
 qr 13 (.ext (.t 10) 0),
 qr 14 (.ext (.t 10) 1),
 qr 5 (.al 25 [(.b false), (.l 1 [])]),
 qn (.st 2 (.t 5) (.t 13)),
 qm 6 14])
 (.seq (.seq (.dreg [qr 15 (.ld true 2 (.t 5)),
 qr 16 (.call 75 [(1, (.t 15))]),
 qr 17 (.ld true 3 (.t 3)),
 qr 18 (.call 33 [(1, (.t 16)), (1, (.t 17))]),
 qr 19 (.bin .leq (.t 18) (.k (.i .i64 0)))])
 (.cond (.t 19)
 (.seq (.reg [qr 20 (.ld true 2 (.t 5)),
 qr 21 (.call 75 [(1, (.t 20))]),
 qn (.st 3 (.t 4) (.t 21))])
 (.ret))
 (.skip)))
 (.seq (.reg [qr 23 (.ld true 3 (.t 2)),
 qr 24 (.call 76 [(1, (.t 23)), (1, (.k (.i .i64 0)))]),
 qm 22 24,
 qr 25 (.ext (.t 22) 0),
 qr 26 (.ext (.t 22) 1),
 qr 7 (.al 25 [(.b false), (.l 1 [])]),
 qn (.st 2 (.t 7) (.t 25)),
 qm 8 26])
 (.seq (.dreg [qr 27 (.call 17 [(1, (.k (.i .i64 1))), (1, (.k (.i .i64 1)))]),
 qr 28 (.ld true 3 (.t 3)),
 qr 29 (.ld true 2 (.t 7)),
 qr 30 (.call 75 [(1, (.t 29))]),
 qr 31 (.call 72 [(1, (.t 28)), (1, (.t 30))]),
 qr 32 (.call 77 [(1, (.t 27)), (1, (.t 31))]),
 qr 33 (.call 17 [(1, (.k (.i .i64 1))), (1, (.k (.i .i64 1)))]),
 qr 34 (.ld true 3 (.t 2)),
 qr 35 (.ld true 2 (.t 7)),
 qr 36 (.call 75 [(1, (.t 35))]),
 qr 37 (.call 72 [(1, (.t 34)), (1, (.t 36))]),
 qr 38 (.call 77 [(1, (.t 33)), (1, (.t 37))]),
 qr 39 (.call 36 [(1, (.t 32)), (1, (.t 38))]),
 qr 9 (.al 27 [(.b false), (.l 1 []), (.l 1 [])]),
 qn (.st 3 (.t 9) (.t 39))])
 (.seq (.dreg [qr 40 (.ld true 2 (.t 7)),
 qr 41 (.call 75 [(1, (.t 40))]),
 qr 42 (.call 17 [(1, (.k (.i .i64 1))), (1, (.k (.i .i64 1)))]),
 qr 43 (.ld true 3 (.t 9)),
 qr 44 (.call 77 [(1, (.t 42)), (1, (.t 43))]),
 qr 45 (.call 78 [(1, (.t 41)), (1, (.t 44))]),
 qn (.st 3 (.t 4) (.t 45))])
 (.ret))))))
theorem rabv_red (m : Nat) (hm : m ≤ 1000000) (hm1 : 16385 ≤ m) {k : Nat} (ih : ∀ (s t : Bool) (a b d e : List Nat) (x y u v : Nat), Wd a → Wd b → Wd d → Wd e → a.length ≤ m → b.length ≤ m → d.length ≤ m → e.length ≤ m → nv B d ≠ 0 → nv B e ≠ 0 →
    rz (zv s a) (nv B d) = (x : Int) → rden (zv s a) (nv B d) = y → rz (zv t b) (nv B e) = (u : Int) → rden (zv t b) (nv B e) = v → Ends x y u v → y + v ≤ k →
    AFun Tryz.prog J0 36 [rL s a d, rL t b e] (rQ (btw k x y u v).1 (btw k x y u v).2)) (x y u v : Nat) (h : Ends x y u v) (hk : y + v ≤ k) (bx : x < B ^ m) (by' : y < B ^ m) (bu : u < B ^ m) (bv : v < B ^ m) : AFun Tryz.prog J0 36 [rQ x y, rQ u v] (rQ (btw k x y u v).1 (btw k x y u v).2) := by
  have d0 := h.d0
  have e0 := h.e0
  refine ih false false (dg B x) (dg B u) (dg B y) (dg B v) x y u v (Wd_dg _) (Wd_dg _) (Wd_dg _) (Wd_dg _) (dlen bx) (dlen bu) (dlen by') (dlen bv) (by rw [nv_dgB]; omega) (by rw [nv_dgB]; omega) ?_ ?_ ?_ ?_ h hk
  · rw [zv_f, nv_dgB, nv_dgB]; exact rz_co h.ca
  · rw [zv_f, nv_dgB, nv_dgB]; exact rden_co h.ca
  · rw [zv_f, nv_dgB, nv_dgB]; exact rz_co h.cb
  · rw [zv_f, nv_dgB, nv_dgB]; exact rden_co h.cb
theorem rabv_raw (m : Nat) (hm : m ≤ 1000000) (hm1 : 16385 ≤ m) : ∀ (k : Nat) (s t : Bool) (a b d e : List Nat) (x y u v : Nat), Wd a → Wd b → Wd d → Wd e → a.length ≤ m → b.length ≤ m → d.length ≤ m → e.length ≤ m → nv B d ≠ 0 → nv B e ≠ 0 →
    rz (zv s a) (nv B d) = (x : Int) → rden (zv s a) (nv B d) = y → rz (zv t b) (nv B e) = (u : Int) → rden (zv t b) (nv B e) = v → Ends x y u v → y + v ≤ k →
    AFun Tryz.prog J0 36 [rL s a d, rL t b e] (rQ (btw k x y u v).1 (btw k x y u v).2)
  | 0, s, t, a, b, d, e, x, y, u, v, ha, hb, hd, he, la, lb, ld, le, hd0, he0, hx, hy, hu, hv, h, hk => by have := h.d0; omega
  | k + 1, s, t, a, b, d, e, x, y, u, v, ha, hb, hd, he, la, lb, ld, le, hd0, he0, hx, hy, hu, hv, h, hk => by
    have bx : x < B ^ m := by have := Nat.lt_of_le_of_lt (rz_le' (zv s a) (nv B d)) (zv_lt ha la); rwa [hx] at this
    have by' : y < B ^ m := by rw [← hy]; exact Nat.lt_of_le_of_lt (rden_le _ _) (nvlt hd ld)
    have bu : u < B ^ m := by have := Nat.lt_of_le_of_lt (rz_le' (zv t b) (nv B e)) (zv_lt hb lb); rwa [hu] at this
    have bv : v < B ^ m := by rw [← hv]; exact Nat.lt_of_le_of_lt (rden_le _ _) (nvlt he le)
    have d0 := h.d0
    have e0 := h.e0
    have ok := btw_ok (k + 1) x y u v h hk
    have hB1 := one_ltB (m := m) (by omega)
    obtain ⟨n1, n2⟩ := r_neg (zv s a) (nv B d)
    have g1 : -(glV (-(zv s a)) (nv B d) 0) = (((x + y - 1) / y : Nat) : Int) := by
      rw [← glV_red (-(zv s a)) (nv B d) 0 hd0, n1, n2, hx, hy, show glV (-(x : Int)) y 0 = (-(x : Int) * 2 ^ 0).fdiv (y : Int) from glV_p (n := 0) (by omega) (by decide), ceil_nat _ _ d0]
    have g2 : glV (zv s a) (nv B d) 0 = ((x / y : Nat) : Int) := by
      rw [← glV_red (zv s a) (nv B d) 0 hd0, hx, hy, show glV (x : Int) y 0 = ((x : Int) * 2 ^ 0).fdiv (y : Int) from glV_p (n := 0) (by omega) (by decide), floor_nat]
    have g3 : glE (nv B d) 0 = 0 := by unfold glE; rw [if_neg hd0, if_neg (by omega)]
    have c1 := rCeil_spec s a d 0 m (by omega) hm1 ha hd la ld
    have f1 := rFloor_spec s a d 0 m (by omega) hm1 ha hd la ld
    rw [g1, g3, zN_nat] at c1
    rw [g2, g3, zN_nat] at f1
    have hcl : (x + y - 1) / y < B ^ m := by
      refine Nat.lt_of_le_of_lt (Nat.lt_succ_iff.1 ((Nat.div_lt_iff_lt_mul d0).2 ?_)) bx
      rw [Nat.succ_mul]
      have : x * 1 ≤ x * y := Nat.mul_le_mul_left _ d0
      omega
    have c2 := rOrder_spec false t (dg B ((x + y - 1) / y)) b (dg B 1) e m (by omega) (Wd_dg _) hb (Wd_dg _) he (dlen hcl) lb (dlen hB1) le (by rw [nv_dgB]; decide) he0
    rw [zv_f, nv_dgB, nv_dgB] at c2
    have hcz : cz ((((x + y - 1) / y : Nat) : Int) * (nv B e : Int)) (zv t b * ((1 : Nat) : Int)) ≤ 0 ↔ (x + y - 1) / y * v ≤ u := by
      have e1 := r_le (z := (((x + y - 1) / y : Nat) : Int)) (w := zv t b) (d := 1) (e := nv B e) (by decide) he0
      rw [rz_co (Nat.gcd_one_right _), rden_co (Nat.gcd_one_right _), hu, hv] at e1
      have e2 := cz_gt ((((x + y - 1) / y : Nat) : Int) * (nv B e : Int)) (zv t b * ((1 : Nat) : Int))
      have e3 : cz ((((x + y - 1) / y : Nat) : Int) * (nv B e : Int)) (zv t b * ((1 : Nat) : Int)) ≤ 0 ↔ (((x + y - 1) / y : Nat) : Int) * (nv B e : Int) ≤ zv t b * ((1 : Nat) : Int) := by
        rw [← Int.not_lt, e2, Int.not_lt]
      rw [e3, ← e1, ← Int.natCast_mul, ← Int.natCast_mul, Int.ofNat_le, Nat.mul_one]
    have r1 := rZNn hm hm1 hcl
    unfold btw at ok ⊢
    by_cases hc : (x + y - 1) / y * v ≤ u
    · rw [if_pos hc]
      have hz := hcz.2 hc
      generalize cz ((((x + y - 1) / y : Nat) : Int) * (nv B e : Int)) (zv t b * ((1 : Nat) : Int)) = z at *
      generalize (x + y - 1) / y = c at *
      clear ok
      refine mkcQ fol J0s Tryz.func36 a36 [.c 4 true 3] ?_
      unfold a36
      simp only [init_eq, initE, qm, qr, qn]
      exact wcQ (ai @hz @bz_QT1)
    · rw [if_neg hc] at ok ⊢
      have hz : ¬ cz ((((x + y - 1) / y : Nat) : Int) * (nv B e : Int)) (zv t b * ((1 : Nat) : Int)) ≤ 0 := fun h9 => hc (hcz.1 h9)
      obtain ⟨hr, hlt, hbe, hae, hq, hn⟩ := ends_next h hc
      have hm2 := Nat.mod_lt x d0
      have hfl : x / y < B ^ m := Nat.lt_of_le_of_lt (Nat.div_le_self _ _) bx
      have f2 := rZNn hm hm1 hfl
      have hgd : Nat.gcd (x % y) y = 1 := by rw [Nat.gcd_comm]; exact hn.cb
      have hge : Nat.gcd (u - x / y * v) v = 1 := by rw [Nat.gcd_comm]; exact hn.ca
      have s1 := rMinus_spec s false a (dg B (x / y)) d (dg B 1) m (by omega) ha (Wd_dg _) hd (Wd_dg _) la (dlen hfl) ld (dlen hB1) hd0 (by rw [nv_dgB]; decide)
      have s2 := rMinus_spec t false b (dg B (x / y)) e (dg B 1) m (by omega) hb (Wd_dg _) he (Wd_dg _) lb (dlen hfl) le (dlen hB1) he0 (by rw [nv_dgB]; decide)
      have m1 : zv s a * ((1 : Nat) : Int) - ((x / y : Nat) : Int) * (nv B d : Int) = ((x % y : Nat) : Int) * (rG (zv s a) (nv B d) : Int) ∧ nv B d * 1 = y * rG (zv s a) (nv B d) := by
        have b1 := rz_back (z := zv s a) (d := nv B d)
        have b2 := rden_back (z := zv s a) (d := nv B d)
        rw [hx] at b1
        rw [hy] at b2
        generalize rG (zv s a) (nv B d) = G at *
        refine ⟨?_, by omega⟩
        rw [← b1, ← b2, Int.natCast_mul]
        have e1 : (x : Int) = (y : Int) * ((x / y : Nat) : Int) + ((x % y : Nat) : Int) := by rw [← Int.natCast_mul, ← Int.natCast_add]; exact congrArg _ hae
        generalize ((x / y : Nat) : Int) = f at *
        generalize ((x % y : Nat) : Int) = g at *
        rw [e1, Int.natCast_one, Int.mul_one, Int.add_mul, ← Int.mul_assoc f, Int.mul_comm f]
        omega
      have m2 : zv t b * ((1 : Nat) : Int) - ((x / y : Nat) : Int) * (nv B e : Int) = ((u - x / y * v : Nat) : Int) * (rG (zv t b) (nv B e) : Int) ∧ nv B e * 1 = v * rG (zv t b) (nv B e) := by
        have b1 := rz_back (z := zv t b) (d := nv B e)
        have b2 := rden_back (z := zv t b) (d := nv B e)
        rw [hu] at b1
        rw [hv] at b2
        generalize rG (zv t b) (nv B e) = G at *
        refine ⟨?_, by omega⟩
        rw [← b1, ← b2, Int.natCast_mul]
        have e1 : (u : Int) = ((x / y : Nat) : Int) * (v : Int) + ((u - x / y * v : Nat) : Int) := by rw [← Int.natCast_mul, ← Int.natCast_add]; exact congrArg _ (by omega)
        generalize ((u - x / y * v : Nat) : Int) = g at *
        generalize ((x / y : Nat) : Int) = f at *
        rw [e1, Int.natCast_one, Int.mul_one, Int.add_mul, Int.mul_assoc]
        omega
      rw [zv_f, nv_dgB, nv_dgB, m1.1, m1.2, rz_scale (rG_pos hd0), rden_scale (rG_pos hd0), rz_co hgd, rden_co hgd, rN_nat] at s1
      rw [zv_f, nv_dgB, nv_dgB, m2.1, m2.2, rz_scale (rG_pos he0), rden_scale (rG_pos he0), rz_co hge, rden_co hge, rN_nat] at s2
      have gl : x % y < B ^ m := by omega
      have bl' : u - x / y * v < B ^ m := by omega
      have q1 := rOverN hm by' gl hB1 d0 hr hn.cb
      have q2 := rOverN hm bv bl' hB1 e0 (by omega) hn.ca
      have ih := rabv_red m hm hm1 (rabv_raw m hm hm1 k) v (u - x / y * v) y (x % y) hn (by omega) bv bl' by' gl
      obtain ⟨p1, p2, p3, p4, p5, p6, p7⟩ := btw_ok k v (u - x / y * v) y (x % y) hn (by omega)
      have z1 := rP_spec 1 1 (by decide) (by decide) (by decide) (by decide)
      rw [show rN (rz 1 1) (rden 1 1) = rQ 1 1 from by rw [show (1 : Int) = ((1 : Nat) : Int) from rfl, rz_co (Nat.gcd_one_right _), rden_co (Nat.gcd_one_right _), rN_nat]] at z1
      replace z1 : AFun Tryz.prog J0 17 [.i .i64 1, .i .i64 1] (rQ 1 1) := z1
      generalize btw k v (u - x / y * v) y (x % y) = r at *
      have q3 := rOverN (g := r.1) (d := r.2) hm (by omega) (by omega) hB1 p2 p1 (by rw [Nat.gcd_comm]; exact p3)
      have a1 := rPlusN (f := x / y) (p := r.1) (q := r.2) hm hfl (by omega) (by omega) hB1 p1 ok.2.2.1
      generalize cz ((((x + y - 1) / y : Nat) : Int) * (nv B e : Int)) (zv t b * ((1 : Nat) : Int)) = z at *
      clear ok
      generalize (x + y - 1) / y = c at *
      generalize x / y * r.1 + r.2 = w at *
      generalize r.1 = t1 at *
      generalize r.2 = t2 at *
      generalize u - x / y * v = b' at *
      generalize x / y = f at *
      generalize x % y = g at *
      refine mkcQ fol J0s Tryz.func36 a36 [.c 4 true 3] ?_
      unfold a36
      simp only [init_eq, initE, qm, qr, qn]
      exact wcQ (ai @hz @bz_QT1)
theorem rz_nonpos {z : Int} {d : Nat} (h : d ≠ 0) : (rz z d ≤ 0 ↔ z ≤ 0) ∧ (0 ≤ rz z d ↔ 0 ≤ z) := by
  have hp := rG_pos (z := z) h
  have hb := rz_back (z := z) (d := d)
  generalize rz z d = x at *
  generalize rG z d = g at *
  subst hb
  have hg : (0 : Int) < (g : Int) := by omega
  refine ⟨⟨fun h => Int.mul_nonpos_of_nonpos_of_nonneg h (by omega), fun h => ?_⟩, ⟨fun h => Int.mul_nonneg h (by omega), fun h => ?_⟩⟩
  · rcases (by omega : x ≤ 0 ∨ 0 < x) with h1 | h1
    · exact h1
    · have := Int.mul_pos h1 hg; omega
  · rcases (by omega : 0 ≤ x ∨ x < 0) with h1 | h1
    · exact h1
    · have := Int.mul_neg_of_neg_of_pos h1 hg; omega
def a8 : AC := .seq (.reg [qr 2 (.bx 27 (.t 0)),
 qr 3 (.bx 27 (.t 1)),
 qr 4 (.al 27 [(.b false), (.l 1 []), (.l 1 [])]),
 qr 5 (.mv (.k (.i .i64 0)))])
 (.seq (.seq (.reg [qr 6 (.ld true 3 (.t 2)),
 qr 7 (.ld true 3 (.t 3)),
 qr 8 (.call 32 [(1, (.t 6)), (1, (.t 7))]),
 qr 9 (.bin .neq (.t 8) (.k (.i .i64 0)))])
 (.cond (.t 9)
 (.seq (.reg [qr 10 (.bld [(.b false), (.l 1 []), (.l 1 [])] []),
 qn (.st 3 (.t 4) (.t 10)),
 qr 5 (.mv (.k (.i .i64 1)))])
 (.ret))
 (.skip)))
 (.seq (.seq (.reg [qr 11 (.ld true 3 (.t 2)),
 qr 12 (.ld true 3 (.t 3)),
 qr 13 (.call 33 [(1, (.t 11)), (1, (.t 12))]),
 qr 14 (.bin .gtr (.t 13) (.k (.i .i64 0)))])
 (.cond (.t 14)
 (.seq (.reg [qr 15 (.bld [(.b false), (.l 1 []), (.l 1 [])] []),
 qn (.st 3 (.t 4) (.t 15)),
 qr 5 (.mv (.k (.i .i64 7)))])
 (.ret))
 (.skip)))
 (.seq (.seq (.reg [qr 16 (.ld true 3 (.t 2)),
 qr 17 (.call 34 [(1, (.t 16))]),
 qr 18 (.bin .leq (.t 17) (.k (.i .i64 0))),
 qm 19 18,
 ⟨some 20, some (19, true), .ld true 3 (.t 3)⟩,
 ⟨some 21, some (19, true), .call 34 [(1, (.t 20))]⟩,
 ⟨some 22, some (19, true), .bin .geq (.t 21) (.k (.i .i64 0))⟩,
 qr 23 (.pick (.t 19) (.t 22) (.k (.b false)))])
 (.cond (.t 23)
 (.seq (.reg [qr 24 (.call 17 [(1, (.k (.i .i64 0))), (1, (.k (.i .i64 1)))]),
 qn (.st 3 (.t 4) (.t 24)),
 qr 5 (.mv (.k (.i .i64 0)))])
 (.ret))
 (.skip)))
 (.seq (.seq (.reg [qr 25 (.ld true 3 (.t 3)),
 qr 26 (.call 34 [(1, (.t 25))]),
 qr 27 (.bin .lss (.t 26) (.k (.i .i64 0)))])
 (.cond (.t 27)
 (.seq (.dreg [qr 28 (.ld true 3 (.t 3)),
 qr 29 (.call 35 [(1, (.t 28))]),
 qr 30 (.ld true 3 (.t 2)),
 qr 31 (.call 35 [(1, (.t 30))]),
 qr 32 (.call 36 [(1, (.t 29)), (1, (.t 31))]),
 qr 33 (.call 35 [(1, (.t 32))]),
 qn (.st 3 (.t 4) (.t 33)),
 qr 5 (.mv (.k (.i .i64 0)))])
 (.ret))
 (.skip)))
 (.seq (.reg [qr 34 (.ld true 3 (.t 2)),
 qr 35 (.ld true 3 (.t 3)),
 qr 36 (.call 36 [(1, (.t 34)), (1, (.t 35))]),
 qn (.st 3 (.t 4) (.t 36)),
 qr 5 (.mv (.k (.i .i64 0)))])
 (.ret))))))
theorem rsimp_e (s t : Bool) (a b d e : List Nat) (m : Nat) (hm : m ≤ 1000000) (hd : Wd d) (he : Wd e) (ld : d.length ≤ m) (le : e.length ≤ m) (h0 : nv B d * nv B e = 0) :
    AFun Tryz.prog J0 8 [rL s a d, rL t b e] (.t [.g [.b false, .l 1 [], .l 1 []], .i .i64 1]) := by
  have h1 := rtwo_spec s t a b d e hd he (by omega) (by omega)
  rw [h0, re_0] at h1
  refine mkcQ fol J0s Tryz.func8 a8 [.c 4 true 3, .t 5] ?_
  unfold a8
  simp only [init_eq, initE, qm, qr, qn]
  exact wcQ @bz_QT1
theorem rsimp_gt (s t : Bool) (a b d e : List Nat) (m : Nat) (hm : m ≤ 1000000) (ha : Wd a) (hb : Wd b) (hd : Wd d) (he : Wd e) (la : a.length ≤ m) (lb : b.length ≤ m) (ld : d.length ≤ m) (le : e.length ≤ m) (h0 : nv B d * nv B e ≠ 0) (hgt : 0 < cz (zv s a * (nv B e : Int)) (zv t b * (nv B d : Int))) :
    AFun Tryz.prog J0 8 [rL s a d, rL t b e] (.t [.g [.b false, .l 1 [], .l 1 []], .i .i64 7]) := by
  have h1 := rtwo_spec s t a b d e hd he (by omega) (by omega)
  rw [re_p h0] at h1
  have h2 := rOrder_spec s t a b d e m (by omega) ha hb hd he la lb ld le (fun h => h0 (by rw [h, Nat.zero_mul])) (fun h => h0 (by rw [h, Nat.mul_zero]))
  generalize cz (zv s a * (nv B e : Int)) (zv t b * (nv B d : Int)) = c at *
  refine mkcQ fol J0s Tryz.func8 a8 [.c 4 true 3, .t 5] ?_
  unfold a8
  simp only [init_eq, initE, qm, qr, qn]
  exact wcQ (ai @hgt @bz_QT1)
theorem rsimp_spec (s t : Bool) (a b d e : List Nat) (m : Nat) (hm : m ≤ 1000000) (hm1 : 16385 ≤ m) (ha : Wd a) (hb : Wd b) (hd : Wd d) (he : Wd e) (la : a.length ≤ m) (lb : b.length ≤ m) (ld : d.length ≤ m) (le : e.length ≤ m) (hd0 : nv B d ≠ 0) (he0 : nv B e ≠ 0) (hle : zv s a * (nv B e : Int) ≤ zv t b * (nv B d : Int)) :
    AFun Tryz.prog J0 8 [rL s a d, rL t b e] (.t [rN (smp (rz (zv s a) (nv B d)) (rden (zv s a) (nv B d)) (rz (zv t b) (nv B e)) (rden (zv t b) (nv B e))).1 (smp (rz (zv s a) (nv B d)) (rden (zv s a) (nv B d)) (rz (zv t b) (nv B e)) (rden (zv t b) (nv B e))).2, .i .i64 0]) := by
  have h1 := rtwo_spec s t a b d e hd he (by omega) (by omega)
  rw [re_p (Nat.mul_ne_zero hd0 he0)] at h1
  have h2 := rOrder_spec s t a b d e m (by omega) ha hb hd he la lb ld le hd0 he0
  have hc : ¬ 0 < cz (zv s a * (nv B e : Int)) (zv t b * (nv B d : Int)) := by rw [cz_gt]; omega
  have s1 := rS_spec s a d ha (by omega)
  have s2 := rS_spec t b e hb (by omega)
  have o1 := rNot_spec s a d m (by omega) ha hd la ld hd0
  have o2 := rNot_spec t b e m (by omega) hb he lb le he0
  rw [(r_neg _ _).1, (r_neg _ _).2] at o1 o2
  have hraw := fun k x y u v => rabv_raw m hm hm1 k s t a b d e x y u v ha hb hd he la lb ld le hd0 he0
  obtain ⟨j1, j2⟩ := rz_nonpos (z := zv s a) hd0
  obtain ⟨j3, j4⟩ := rz_nonpos (z := zv t b) he0
  have bz : (rz (zv s a) (nv B d)).natAbs < B ^ m := Nat.lt_of_le_of_lt (rz_le' _ _) (zv_lt ha la)
  have bw : (rz (zv t b) (nv B e)).natAbs < B ^ m := Nat.lt_of_le_of_lt (rz_le' _ _) (zv_lt hb lb)
  have bd : rden (zv s a) (nv B d) < B ^ m := Nat.lt_of_le_of_lt (rden_le _ _) (nvlt hd ld)
  have be : rden (zv t b) (nv B e) < B ^ m := Nat.lt_of_le_of_lt (rden_le _ _) (nvlt he le)
  have cd := r_co (zv s a) hd0
  have ce := r_co (zv t b) he0
  have dp := rden_pos (z := zv s a) hd0
  have ep := rden_pos (z := zv t b) he0
  have hle' := (r_le hd0 he0).2 hle
  have g1 := sgz_le (zv s a)
  have g2 := sgz_ge (zv t b)
  have g3 := sgz_lt (zv t b)
  generalize cz (zv s a * (nv B e : Int)) (zv t b * (nv B d : Int)) = c at *
  generalize sgz (zv s a) = gz at *
  generalize sgz (zv t b) = gw at *
  generalize hz : rz (zv s a) (nv B d) = z at *
  generalize hx : rden (zv s a) (nv B d) = x at *
  generalize hw : rz (zv t b) (nv B e) = w at *
  generalize hy : rden (zv t b) (nv B e) = y at *
  have hB1 := one_ltB (m := m) (by omega)
  by_cases k1 : z ≤ 0
  · have kz' := j1.1 k1
    rw [← g1] at kz'
    by_cases k2 : 0 ≤ w
    · have kw' := j4.1 k2
      rw [← g2] at kw'
      rw [show smp z x w y = (0, 1) from if_pos ⟨k1, k2⟩]
      have z0 := rP_spec 0 1 (by decide) (by decide) (by decide) (by decide)
      rw [show rN (rz 0 1) (rden 0 1) = rN 0 1 from by rw [show (0 : Int) = ((0 : Nat) : Int) from rfl, rz_co (Nat.gcd_one_right _), rden_co (Nat.gcd_one_right _)]] at z0
      replace z0 : AFun Tryz.prog J0 17 [.i .i64 0, .i .i64 1] (rN 0 1) := z0
      show AFun _ _ _ _ (.t [rN 0 1, .i .i64 0])
      have hrN : rN 0 1 = .g [.b false, .l 1 (W (dg B (Int.natAbs 0))), .l 1 (W (dg B 1))] := rfl
      refine mkcQ fol J0s Tryz.func8 a8 [.c 4 true 3, .t 5] ?_
      unfold a8
      simp only [init_eq, initE, qm, qr, qn]
      exact wcQ (ai @hrN (ai @kw' (ai @kz' (ai @hc @bz_QT1))))
    · have kw : w < 0 := by omega
      have kw' : ¬ 0 ≤ gw := by rw [g2, ← j4]; exact k2
      have kw2 : gw < 0 := by omega
      have kz : z < 0 := by
        rcases (by omega : z < 0 ∨ 0 ≤ z) with h | h
        · exact h
        · exfalso
          have h3 : 0 ≤ z * (y : Int) := Int.mul_nonneg h (by omega)
          have h4 : w * (x : Int) < 0 := Int.mul_neg_of_neg_of_pos kw (by omega)
          omega
      have he' := ends_neg kz kw dp ep cd ce hle'
      have bt := rabv_red m hm hm1 (rabv_raw m hm hm1 (y + x)) w.natAbs y z.natAbs x he' (Nat.le_refl _) bw be bz bd
      obtain ⟨p1, p2, p3, p4, _⟩ := btw_ok (y + x) w.natAbs y z.natAbs x he' (Nat.le_refl _)
      rw [show smp z x w y = (-((btw (y + x) w.natAbs y z.natAbs x).1 : Int), (btw (y + x) w.natAbs y z.natAbs x).2) from by unfold smp; rw [if_neg (by omega), if_pos kw]]
      generalize btw (y + x) w.natAbs y z.natAbs x = r at *
      rw [show -z = ((z.natAbs : Nat) : Int) from by omega, rN_nat] at o1
      rw [show -w = ((w.natAbs : Nat) : Int) from by omega, rN_nat] at o2
      have o3 := rNot_spec false (dg B r.1) (dg B r.2) m (by omega) (Wd_dg _) (Wd_dg _) (dlen (by omega)) (dlen (by omega)) (by rw [nv_dgB]; omega)
      rw [zv_f, nv_dgB, nv_dgB, (r_neg _ _).1, (r_neg _ _).2, rz_co p3, rden_co p3] at o3
      show AFun _ _ _ _ (.t [rN (-(r.1 : Int)) r.2, .i .i64 0])
      generalize -(r.1 : Int) = n1 at *
      generalize r.1 = r1 at *
      generalize r.2 = r2 at *
      refine mkcQ fol J0s Tryz.func8 a8 [.c 4 true 3, .t 5] ?_
      unfold a8
      simp only [init_eq, initE, qm, qr, qn]
      exact wcQ (ai @kw2 (ai @kw' (ai @kz' (ai @hc @bz_QT1))))
  · have kz : 0 < z := by omega
    have kz' : ¬ gz ≤ 0 := by rw [g1, ← j1]; exact k1
    have kw : 0 < w := by
      rcases (by omega : 0 < w ∨ w ≤ 0) with h | h
      · exact h
      · exfalso
        have h3 : 0 < z * (y : Int) := Int.mul_pos kz (by omega)
        have h4 : w * (x : Int) ≤ 0 := Int.mul_nonpos_of_nonpos_of_nonneg h (by omega)
        omega
    have kw2 : ¬ gw < 0 := by
      have := j4.1 (by omega); rw [← g2] at this; omega
    have he' := ends_pos kz kw dp ep cd ce hle'
    have bt := hraw (x + y) z.natAbs x w.natAbs y (by omega) rfl (by omega) rfl he' (Nat.le_refl _)
    rw [show smp z x w y = (((btw (x + y) z.natAbs x w.natAbs y).1 : Int), (btw (x + y) z.natAbs x w.natAbs y).2) from by unfold smp; rw [if_neg (by omega), if_neg (by omega)]]
    generalize btw (x + y) z.natAbs x w.natAbs y = r at *
    show AFun _ _ _ _ (.t [rN (r.1 : Int) r.2, .i .i64 0])
    rw [rN_nat]
    generalize r.1 = r1 at *
    generalize r.2 = r2 at *
    refine mkcQ fol J0s Tryz.func8 a8 [.c 4 true 3, .t 5] ?_
    unfold a8
    simp only [init_eq, initE, qm, qr, qn]
    exact wcQ (ai @kw2 (ai @kz' (ai @hc @bz_QT1)))
end Go.Proofs.YthldhonccnajoaaGreatDoor
