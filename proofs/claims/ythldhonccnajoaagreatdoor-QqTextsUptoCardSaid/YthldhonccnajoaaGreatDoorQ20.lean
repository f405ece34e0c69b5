/-
  Rational numbers: floors and ceilings of any shift, by the program and by the document.
-/
import Derived.Test.YthldhonccnajoaaGreatDoorQE
namespace Go.Proofs.YthldhonccnajoaaGreatDoor
open Go Go.RowKit Ab
set_option linter.unusedSimpArgs false
set_option linter.unusedVariables false
set_option maxHeartbeats 10000000
theorem bz_Q20 : type_of% (And.intro @W_len (And.intro @D_len (And.intro @Nat.div_one (And.intro @Nat.mul_one (And.intro @tn_nat (And.intro @W_nf (And.intro @D_nf (And.intro @W_nil (And.intro @D_nil (And.intro @wi (And.intro @nf_g (And.intro @Bool.false_and (@W_cell))))))))))))) := And.intro @W_len (And.intro @D_len (And.intro @Nat.div_one (And.intro @Nat.mul_one (And.intro @tn_nat (And.intro @W_nf (And.intro @D_nf (And.intro @W_nil (And.intro @D_nil (And.intro @wi (And.intro @nf_g (And.intro @Bool.false_and (@W_cell))))))))))))
theorem tmod_z2 (s t : Bool) (u v : Nat) : (zI s u).tmod (zI t v) = 0 ↔ u % v = 0 := by
  rw [← tmod_eq]; unfold zI; split <;> omega
theorem ffl (s t : Bool) (u v : Nat) (hv : v ≠ 0) : (0 ≤ sgz (zI s u) * sgz (zI t v) → (zI s u).fdiv (zI t v) = zI false (u / v)) ∧
    (¬ 0 ≤ sgz (zI s u) * sgz (zI t v) → u % v ≠ 0 → (zI s u).fdiv (zI t v) = zI true (u / v + 1)) ∧ (¬ 0 ≤ sgz (zI s u) * sgz (zI t v) → u % v = 0 → (zI s u).fdiv (zI t v) = zI true (u / v)) := by
  have h0 : zI t v ≠ 0 := by unfold zI; split <;> omega
  have e := fdiv_eq (zI s u) (zI t v) h0
  simp only [ne_eq, tmod_z2, ← tdiv_eq] at e
  rw [e]
  have hm : u = 0 → u % v = 0 ∧ u / v = 0 := fun h => by subst h; exact ⟨Nat.zero_mod _, Nat.zero_div _⟩
  rw [sgz_I, sgz_I, if_neg hv]
  generalize u / v = q at *
  generalize u % v = r at *
  by_cases hu : u = 0
  · obtain ⟨rfl, rfl⟩ := hm hu
    rw [if_pos hu]
    cases s <;> cases t <;> simp [zI]
  · rw [if_neg hu]
    cases s <;> cases t <;> simp [zI] <;> intros <;> first | omega | (split <;> omega)
theorem fl_abs {x : Int} {v m : Nat} (hx : x.natAbs < B ^ m) : (x.fdiv (v : Int)).natAbs < B ^ (m + 1) := by
  rw [Int.fdiv_eq_ediv_of_nonneg x (Int.natCast_nonneg v)]
  exact Nat.lt_of_le_of_lt (Int.natAbs_ediv_le_natAbs x _) (pup hx (Nat.le_succ m))
def a108 : AC := .seq (.reg [qr 2 (.bx 25 (.t 0)),
 qr 3 (.bx 25 (.t 1)),
 qr 4 (.al 25 [(.b false), (.l 1 [])])])
 (.seq (.reg [qr 8 (.fad 1 (.t 2)),
 qr 9 (.ld false 1 (.t 8)),
 qr 10 (.fad 1 (.t 3)),
 qr 11 (.ld false 1 (.t 10)),
 qr 12 (.call 82 [(1, (.t 9)), (1, (.t 11))]),
 qm 7 12,
 qr 13 (.ext (.t 7) 0),
 qr 14 (.ext (.t 7) 1),
 qm 5 13,
 qm 6 14])
 (.seq (.seq (.dreg [qr 15 (.ld true 2 (.t 2)),
 qr 16 (.call 71 [(1, (.t 15))]),
 qr 17 (.ld true 2 (.t 3)),
 qr 18 (.call 71 [(1, (.t 17))]),
 qr 19 (.bin .mul (.t 16) (.t 18)),
 qr 20 (.bin .geq (.t 19) (.k (.i .i64 0)))])
 (.cond (.t 20)
 (.seq (.reg [qm 21 5,
 qr 22 (.call 51 [(1, (.k (.b false))), (1, (.t 21))]),
 qn (.st 2 (.t 4) (.t 22))])
 (.ret))
 (.skip)))
 (.seq (.seq (.reg [qm 23 6,
 qr 24 (.call 50 [(1, (.t 23))]),
 qr 25 (.un .not (.t 24))])
 (.cond (.t 25)
 (.reg [qm 26 5,
 qr 27 (.call 44 [(1, (.k (.i .i64 1)))]),
 qr 28 (.call 90 [(1, (.t 26)), (1, (.t 27))]),
 qm 5 28])
 (.skip)))
 (.seq (.reg [qm 29 5,
 qr 30 (.call 51 [(1, (.k (.b true))), (1, (.t 29))]),
 qn (.st 2 (.t 4) (.t 30))])
 (.ret)))))
theorem hfloor_spec (s t : Bool) (a b : List Nat) (m : Nat) (hm : m ≤ 10000000) (ha : Wd a) (hb : Wd b) (la : a.length ≤ m) (lb : b.length ≤ m) (h0 : nv B b ≠ 0) : AFun Tryz.prog J0 108 [zL s a, zL t b] (zN ((zv s a).fdiv (zv t b))) := by
  have q1 := hquo_spec a b ha hb (by omega) (by omega) h0
  have s1 := hsgn_spec s a ha (by omega)
  have s2 := hsgn_spec t b hb (by omega)
  have w1 := mul1_bnd (sgz_bnd (zv s a)) (sgz_bnd (zv t b))
  obtain ⟨f1, f2, f3⟩ := ffl s t (nv B a) (nv B b) h0
  change 0 ≤ sgz (zv s a) * sgz (zv t b) → (zv s a).fdiv (zv t b) = _ at f1
  change ¬ 0 ≤ sgz (zv s a) * sgz (zv t b) → _ → (zv s a).fdiv (zv t b) = _ at f2
  change ¬ 0 ≤ sgz (zv s a) * sgz (zv t b) → _ → (zv s a).fdiv (zv t b) = _ at f3
  have lq : nv B a / nv B b < B ^ m := Nat.lt_of_le_of_lt (Nat.div_le_self _ _) (nvlt ha la)
  have lr : nv B a % nv B b < B ^ m := Nat.lt_of_le_of_lt (Nat.mod_le _ _) (nvlt ha la)
  have z1 := hzero_spec (dg B (nv B a % nv B b)) (Wd_dg _) (Nat.le_trans (dlen lr) (by omega))
  rw [nv_dgB] at z1
  have i1 := hID false lq (by omega)
  have i2 := hID true lq (by omega)
  have o1 := (hword_spec 1 (by decide)).frozen
  have p1 := (hadd_spec (dg B (nv B a / nv B b)) (dg B 1) (Wd_dg _) (Wd_dg _) (Nat.le_trans (dlen lq) (by omega)) (Nat.le_trans (dlen (k := 1) (by decide)) (by decide))).frozen
  rw [nv_dgB, nv_dgB] at p1
  have lq1 : nv B a / nv B b + 1 < B ^ (m + 1) := padd lq (Nat.lt_of_lt_of_le (by decide : 1 < B ^ 1) (Nat.pow_le_pow_right B0 (by
    rcases Nat.eq_zero_or_pos m with h | h
    · exfalso; subst h; have := nvlt hb lb; rw [Nat.pow_zero] at this; omega
    · exact h)))
  have i3 := hID true lq1 (by omega)
  generalize nv B a / nv B b = q at *
  generalize nv B a % nv B b = r at *
  generalize (zv s a).fdiv (zv t b) = f at *
  generalize sgz (zv s a) = g1 at *
  generalize sgz (zv t b) = g2 at *
  by_cases hs : 0 ≤ g1 * g2
  · rw [f1 hs]
    generalize zI false q = x at *
    refine mkcQ fol J0s Tryz.func108 a108 [.c 4 true 2] ?_
    unfold a108
    simp only [init_eq, initE, qm, qr, qn]
    exact wcQ (ai @w1 (ai @hs @bz_Q20))
  · by_cases hr : r = 0
    · rw [f3 hs hr]
      generalize zI true q = x at *
      rw [decide_eq_true hr] at z1
      refine mkcQ fol J0s Tryz.func108 a108 [.c 4 true 2] ?_
      unfold a108
      simp only [init_eq, initE, qm, qr, qn]
      exact wcQ (ai @w1 (ai @hs @bz_Q20))
    · rw [f2 hs hr]
      generalize zI true (q + 1) = x at *
      rw [decide_eq_false hr] at z1
      refine mkcQ fol J0s Tryz.func108 a108 [.c 4 true 2] ?_
      unfold a108
      simp only [init_eq, initE, qm, qr, qn]
      exact wcQ (ai @w1 (ai @hs @bz_Q20))
theorem hfloorN {x : Int} {v m : Nat} (hx : x.natAbs < B ^ m) (hv : v < B ^ m) (hm : m ≤ 10000000) (h0 : v ≠ 0) : AFun Tryz.prog J0 108 [zN x, zN (v : Int)] (zN (x.fdiv (v : Int))) := by
  have h := hfloor_spec (decide (x < 0)) (decide ((v : Int) < 0)) (dg B x.natAbs) (dg B (v : Int).natAbs) m hm (Wd_dg _) (Wd_dg _) (dlen hx) (dlen hv) (by rw [nv_dgB]; exact h0)
  rw [zv_N, zv_N] at h
  exact h
def glV (z : Int) (d : Nat) (k : Int) : Int := if d = 0 ∨ k < -1048576 ∨ 1048576 < k then 0 else if k < 0 then z.fdiv ((d * 2 ^ (-k).toNat : Nat) : Int) else (z * 2 ^ k.toNat).fdiv (d : Int)
def glE (d : Nat) (k : Int) : Int := if d = 0 then 1 else if k < -1048576 ∨ 1048576 < k then 3 else 0
theorem glV_e {z : Int} {d : Nat} {k : Int} (h : d = 0 ∨ k < -1048576 ∨ 1048576 < k) : glV z d k = 0 := if_pos h
theorem glV_n {z : Int} {d n : Nat} (h0 : d ≠ 0) (hn : n ≤ 1048576) (h1 : 0 < n) : glV z d (-(n : Int)) = z.fdiv ((d * 2 ^ n : Nat) : Int) := by
  unfold glV
  rw [if_neg (by omega), if_pos (by omega), show (-(-(n : Int))).toNat = n from by omega]
theorem glV_p {z : Int} {d n : Nat} (h0 : d ≠ 0) (hn : n ≤ 1048576) : glV z d (n : Int) = (z * 2 ^ n).fdiv (d : Int) := by
  unfold glV
  rw [if_neg (by omega), if_neg (by omega), show ((n : Int)).toNat = n from rfl]
theorem glV_abs {z : Int} {d : Nat} {k : Int} {m : Nat} (hz : z.natAbs < B ^ m) : (glV z d k).natAbs < B ^ (m + 16385) := by
  unfold glV
  split
  · exact Nat.pow_pos B0
  · split
    · exact pup (fl_abs hz) (by omega)
    · refine fl_abs (m := m + 16384) ?_
      rw [Int.natAbs_mul, Int.natAbs_pow]
      exact shl_len hz (by omega)
def a76 : AC := .seq (.reg [qr 2 (.bx 27 (.t 0)),
 qr 4 (.al 25 [(.b false), (.l 1 [])]),
 qr 5 (.mv (.k (.i .i64 0)))])
 (.seq (.seq (.reg [qr 8 (.ld true 3 (.t 2)),
 qr 9 (.call 40 [(1, (.t 8))]),
 qr 10 (.un .not (.t 9))])
 (.cond (.t 10)
 (.seq (.reg [qr 11 (.bld [(.b false), (.l 1 [])] []),
 qn (.st 2 (.t 4) (.t 11)),
 qr 5 (.mv (.k (.i .i64 1)))])
 (.ret))
 (.skip)))
 (.seq (.seq (.reg [qm 12 1,
 qr 13 (.bin .lss (.t 12) (.k (.i .i64 (-1048576)))),
 qm 14 13,
 ⟨some 15, some (14, false), .mv (.t 1)⟩,
 ⟨some 16, some (14, false), .bin .gtr (.t 15) (.k (.i .i64 1048576))⟩,
 qr 17 (.pick (.t 14) (.k (.b true)) (.t 16))])
 (.cond (.t 17)
 (.seq (.reg [qr 18 (.bld [(.b false), (.l 1 [])] []),
 qn (.st 2 (.t 4) (.t 18)),
 qr 5 (.mv (.k (.i .i64 3)))])
 (.ret))
 (.skip)))
 (.seq (.dregx [(21, 6), (21, 20)] [qr 19 (.fad 0 (.t 2)),
 qr 20 (.ld true 2 (.t 19)),
 qr 21 (.fad 2 (.t 2)),
 qr 22 (.ld false 1 (.t 21)),
 qr 6 (.al 25 [(.b false), (.l 1 [])]),
 qn (.st 2 (.t 6) (.t 20)),
 qm 7 22])
 (.seq (.seq (.reg [qm 23 1,
 qr 24 (.bin .gtr (.t 23) (.k (.i .i64 0)))])
 (.cond (.t 24)
 (.dreg [qr 25 (.ld true 2 (.t 6)),
 qm 26 1,
 qr 27 (.call 107 [(1, (.t 26))]),
 qr 28 (.call 51 [(1, (.k (.b false))), (1, (.t 27))]),
 qr 29 (.call 106 [(1, (.t 25)), (1, (.t 28))]),
 qn (.st 2 (.t 6) (.t 29))])
 (.reg [qm 30 7,
 qm 31 1,
 qr 32 (.un .neg (.t 31)),
 qr 33 (.call 107 [(1, (.t 32))]),
 qr 34 (.call 91 [(1, (.t 30)), (1, (.t 33))]),
 qm 7 34])))
 (.seq (.dreg [qr 35 (.ld true 2 (.t 6)),
 qm 36 7,
 qr 37 (.call 51 [(1, (.k (.b false))), (1, (.t 36))]),
 qr 38 (.call 108 [(1, (.t 35)), (1, (.t 37))]),
 qn (.st 2 (.t 4) (.t 38)),
 qr 5 (.mv (.k (.i .i64 0)))])
 (.ret))))))
theorem rFloor_spec (s : Bool) (a d : List Nat) (k : Int) (m : Nat) (hm : m ≤ 3000000) (hm1 : 16385 ≤ m) (ha : Wd a) (hd : Wd d) (la : a.length ≤ m) (ld : d.length ≤ m) : AFun Tryz.prog J0 76 [rL s a d, .i .i64 k] (.t [zN (glV (zv s a) (nv B d) k), .i .i64 (glE (nv B d) k)]) := by
  have o1 := rOk_spec s a d hd (by omega)
  by_cases h0 : nv B d = 0
  · rw [decide_eq_true h0] at o1
    rw [glV_e (.inl h0), show glE (nv B d) k = 1 from if_pos h0, zN_0]
    refine mkcQ fol J0s Tryz.func76 a76 [.c 4 true 2, .t 5] ?_
    unfold a76
    simp only [init_eq, initE, qm, qr, qn]
    exact wcQ @bz_Q20
  · rw [decide_eq_false h0] at o1
    by_cases h1 : k < -1048576
    · rw [glV_e (.inr (.inl h1)), show glE (nv B d) k = 3 from by unfold glE; rw [if_neg h0, if_pos (.inl h1)], zN_0]
      refine mkcQ fol J0s Tryz.func76 a76 [.c 4 true 2, .t 5] ?_
      unfold a76
      simp only [init_eq, initE, qm, qr, qn]
      exact wcQ (ai @h1 @bz_Q20)
    · by_cases h2 : 1048576 < k
      · rw [glV_e (.inr (.inr h2)), show glE (nv B d) k = 3 from by unfold glE; rw [if_neg h0, if_pos (.inr h2)], zN_0]
        refine mkcQ fol J0s Tryz.func76 a76 [.c 4 true 2, .t 5] ?_
        unfold a76
        simp only [init_eq, initE, qm, qr, qn]
        exact wcQ (ai @h2 (ai @h1 @bz_Q20))
      · rw [show glE (nv B d) k = 0 from by unfold glE; rw [if_neg h0, if_neg (by omega)]]
        by_cases h3 : 0 < k
        · obtain ⟨n, rfl⟩ : ∃ n : Nat, k = (n : Int) := ⟨k.toNat, by omega⟩
          rw [glV_p h0 (by omega)]
          have t1 := (htwo_spec n (by omega)).frozen
          have hbt : 2 ^ n < B ^ m := pup (two_lt n) (by omega)
          have i1 := hID false hbt (by omega)
          rw [show zI false (2 ^ n) = ((2 ^ n : Nat) : Int) from rfl] at i1
          have m1 := hzmul_spec s (decide (((2 ^ n : Nat) : Int) < 0)) a (dg B (((2 ^ n : Nat) : Int)).natAbs) m (by omega) ha (Wd_dg _) la (dlen hbt)
          rw [zv_N] at m1
          have i2 := hI_spec false d hd (by omega)
          rw [zv_f] at i2
          have hb : (zv s a * ((2 ^ n : Nat) : Int)).natAbs < B ^ (m + m) := mul_lt (zv_lt ha la) hbt
          rw [show zv s a * 2 ^ n = zv s a * ((2 ^ n : Nat) : Int) from by rw [Int.natCast_pow]; rfl]
          generalize zv s a * ((2 ^ n : Nat) : Int) = z at *
          have f1 := hfloorN hb (pup (nvlt hd ld) (by omega : m ≤ m + m)) (by omega) h0
          generalize 2 ^ n = tt at *
          generalize z.fdiv (nv B d : Int) = q at *
          generalize (nv B d : Int) = dd at *
          generalize (tt : Int) = ti at *
          generalize (n : Int) = nn at *
          refine mkcQ fol J0s Tryz.func76 a76 [.c 4 true 2, .t 5] ?_
          unfold a76
          simp only [init_eq, initE, qm, qr, qn]
          exact wcQ (ai @h3 (ai @h2 (ai @h1 @bz_Q20)))
        · obtain ⟨n, rfl⟩ : ∃ n : Nat, k = -(n : Int) := ⟨(-k).toNat, by omega⟩
          have hw : IntKind.i64.wrap (0 - -(n : Int)) = (n : Int) := by rw [wi (by omega)]; omega
          have t1 := (htwo_spec n (by omega)).frozen
          have hbt : 2 ^ n < B ^ m := pup (two_lt n) (by omega)
          have m1 := (hmul_spec d (dg B (2 ^ n)) hd (Wd_dg _) (by omega) (Nat.le_trans (dlen hbt) (by omega))).frozen
          rw [nv_dgB] at m1
          have hb : nv B d * 2 ^ n < B ^ (m + m) := mulN_lt (nvlt hd ld) hbt
          have hne : nv B d * 2 ^ n ≠ 0 := Nat.mul_ne_zero h0 (Nat.pos_iff_ne_zero.1 (Nat.two_pow_pos n))
          have e1 : glV (zv s a) (nv B d) (-(n : Int)) = (zv s a).fdiv ((nv B d * 2 ^ n : Nat) : Int) := by
            rcases Nat.eq_zero_or_pos n with h | h
            · subst h
              rw [show (-((0 : Nat) : Int)) = ((0 : Nat) : Int) from rfl, glV_p h0 (by omega), Int.pow_zero, Int.mul_one, Nat.pow_zero, Nat.mul_one]
            · exact glV_n h0 (by omega) h
          rw [e1]
          have i1 := hID false hb (by omega)
          rw [show zI false (nv B d * 2 ^ n) = ((nv B d * 2 ^ n : Nat) : Int) from rfl] at i1
          have f1 := hfloor_spec s (decide (((nv B d * 2 ^ n : Nat) : Int) < 0)) a (dg B (((nv B d * 2 ^ n : Nat) : Int)).natAbs) (m + m) (by omega) ha (Wd_dg _) (by omega) (dlen hb) (by rw [nv_dgB]; exact hne)
          rw [zv_N] at f1
          generalize nv B d * 2 ^ n = w at *
          generalize (zv s a).fdiv (w : Int) = q at *
          generalize (w : Int) = ww at *
          generalize dg B (2 ^ n) = tt at *
          generalize (n : Int) = nn at *
          refine mkcQ fol J0s Tryz.func76 a76 [.c 4 true 2, .t 5] ?_
          unfold a76
          simp only [init_eq, initE, qm, qr, qn]
          exact wcQ (ai @hw (ai @h3 (ai @h2 (ai @h1 @bz_Q20))))
theorem fdiv_scale (z : Int) {d k : Nat} (hk : 0 < k) : (z * (k : Int)).fdiv ((d * k : Nat) : Int) = z.fdiv (d : Int) := by
  rw [Int.fdiv_eq_ediv_of_nonneg _ (Int.natCast_nonneg _), Int.fdiv_eq_ediv_of_nonneg _ (Int.natCast_nonneg _), Int.natCast_mul]
  exact Int.mul_ediv_mul_of_pos_left _ _ (by omega)
theorem glV_red (z : Int) (d : Nat) (k : Int) (h : d ≠ 0) : glV (rz z d) (rden z d) k = glV z d k := by
  have h1 := rz_back (z := z) (d := d)
  have h2 := rden_back (z := z) (d := d)
  have p1 := rG_pos (z := z) h
  have p2 := rden_pos (z := z) h
  generalize rz z d = a at *
  generalize rden z d = b at *
  generalize rG z d = g at *
  unfold glV
  by_cases hk : k < -1048576 ∨ 1048576 < k
  · rw [if_pos (.inr hk), if_pos (.inr hk)]
  · rw [if_neg (show ¬ (b = 0 ∨ k < -1048576 ∨ 1048576 < k) from by omega), if_neg (show ¬ (d = 0 ∨ k < -1048576 ∨ 1048576 < k) from by omega)]
    rw [← h1, ← h2]
    by_cases h3 : k < 0
    all_goals (first | rw [if_pos h3, if_pos h3] | rw [if_neg h3, if_neg h3])
    · rw [show b * g * 2 ^ (-k).toNat = b * 2 ^ (-k).toNat * g from by rw [Nat.mul_assoc, Nat.mul_comm g, ← Nat.mul_assoc]]
      exact (fdiv_scale a p1).symm
    · rw [Int.mul_right_comm]
      exact (fdiv_scale _ p1).symm
theorem glE_red (z : Int) (d : Nat) (k : Int) (h : d ≠ 0) : glE (rden z d) k = glE d k := by
  unfold glE; rw [if_neg (rden_pos h), if_neg h]
theorem rden_le (z : Int) (d : Nat) : rden z d ≤ d := Nat.div_le_self _ _
theorem rz_le' (z : Int) (d : Nat) : (rz z d).natAbs ≤ z.natAbs := by rw [rz_abs]; exact Nat.div_le_self _ _
def a74 : AC := .seq (.reg [qr 2 (.bx 27 (.t 0)),
 qr 4 (.al 25 [(.b false), (.l 1 [])]),
 qr 5 (.mv (.k (.i .i64 0)))])
 (.seq (.seq (.reg [qr 8 (.ld true 3 (.t 2)),
 qr 9 (.call 40 [(1, (.t 8))]),
 qr 10 (.un .not (.t 9))])
 (.cond (.t 10)
 (.seq (.reg [qr 11 (.bld [(.b false), (.l 1 [])] []),
 qn (.st 2 (.t 4) (.t 11)),
 qr 5 (.mv (.k (.i .i64 1)))])
 (.ret))
 (.skip)))
 (.seq (.reg [qr 13 (.ld true 3 (.t 2)),
 qr 14 (.call 35 [(1, (.t 13))]),
 qm 15 1,
 qr 16 (.call 76 [(1, (.t 14)), (1, (.t 15))]),
 qm 12 16,
 qr 17 (.ext (.t 12) 0),
 qr 18 (.ext (.t 12) 1),
 qr 6 (.al 25 [(.b false), (.l 1 [])]),
 qn (.st 2 (.t 6) (.t 17)),
 qm 7 18])
 (.seq (.seq (.reg [qm 19 7,
 qr 20 (.bin .neq (.t 19) (.k (.i .i64 0)))])
 (.cond (.t 20)
 (.seq (.reg [qr 21 (.bld [(.b false), (.l 1 [])] []),
 qm 22 7,
 qn (.st 2 (.t 4) (.t 21)),
 qm 5 22])
 (.ret))
 (.skip)))
 (.seq (.reg [qr 23 (.ld true 2 (.t 6)),
 qr 24 (.call 73 [(1, (.t 23))]),
 qn (.st 2 (.t 4) (.t 24)),
 qr 5 (.mv (.k (.i .i64 0)))])
 (.ret)))))
theorem rCeil_spec (s : Bool) (a d : List Nat) (k : Int) (m : Nat) (hm : m ≤ 3000000) (hm1 : 16385 ≤ m) (ha : Wd a) (hd : Wd d) (la : a.length ≤ m) (ld : d.length ≤ m) : AFun Tryz.prog J0 74 [rL s a d, .i .i64 k] (.t [zN (-(glV (-(zv s a)) (nv B d) k)), .i .i64 (glE (nv B d) k)]) := by
  have o1 := rOk_spec s a d hd (by omega)
  by_cases h0 : nv B d = 0
  · rw [decide_eq_true h0] at o1
    rw [glV_e (.inl h0), show glE (nv B d) k = 1 from if_pos h0, Int.neg_zero, zN_0]
    refine mkcQ fol J0s Tryz.func74 a74 [.c 4 true 2, .t 5] ?_
    unfold a74
    simp only [init_eq, initE, qm, qr, qn]
    exact wcQ @bz_Q20
  · rw [decide_eq_false h0] at o1
    have n1 := rNot_spec s a d m (by omega) ha hd la ld h0
    have bb : (-(zv s a)).natAbs < B ^ m := by rw [Int.natAbs_neg]; exact zv_lt ha la
    have hx : (rz (-(zv s a)) (nv B d)).natAbs < B ^ m := Nat.lt_of_le_of_lt (rz_le' _ _) bb
    have hy : rden (-(zv s a)) (nv B d) < B ^ m := Nat.lt_of_le_of_lt (rden_le _ _) (nvlt hd ld)
    have h2 := rFloor_spec (decide (rz (-(zv s a)) (nv B d) < 0)) (dg B (rz (-(zv s a)) (nv B d)).natAbs) (dg B (rden (-(zv s a)) (nv B d))) k m hm hm1 (Wd_dg _) (Wd_dg _) (dlen hx) (dlen hy)
    rw [zv_N, nv_dgB, glV_red _ _ _ h0, glE_red _ _ _ h0] at h2
    have hq := glV_abs (d := nv B d) (k := k) bb
    by_cases he : glE (nv B d) k = 0
    · rw [he] at h2 ⊢
      generalize glV (-(zv s a)) (nv B d) k = q at *
      have h3 := hneg_spec (decide (q < 0)) (dg B q.natAbs) (Wd_dg _) (Nat.le_trans (dlen hq) (by omega))
      rw [zv_N] at h3
      generalize rz (-(zv s a)) (nv B d) = x at *
      generalize rden (-(zv s a)) (nv B d) = y at *
      refine mkcQ fol J0s Tryz.func74 a74 [.c 4 true 2, .t 5] ?_
      unfold a74
      simp only [init_eq, initE, qm, qr, qn]
      exact wcQ @bz_Q20
    · have hv : glV (-(zv s a)) (nv B d) k = 0 := by
        unfold glE at he
        refine glV_e ?_
        split at he
        · rename_i h; exact .inl h
        · split at he
          · rename_i h; exact .inr h
          · exact absurd rfl he
      rw [hv] at h2 ⊢
      rw [Int.neg_zero, zN_0]
      rw [zN_0] at h2
      generalize glE (nv B d) k = ee at *
      generalize rz (-(zv s a)) (nv B d) = x at *
      generalize rden (-(zv s a)) (nv B d) = y at *
      refine mkcQ fol J0s Tryz.func74 a74 [.c 4 true 2, .t 5] ?_
      unfold a74
      simp only [init_eq, initE, qm, qr, qn]
      exact wcQ (ai @he @bz_Q20)
end Go.Proofs.YthldhonccnajoaaGreatDoor
