/-
  Cells, by the document: halves, coarser ones, the cell of a number, numbers that it holds.
-/
import Derived.Test.YtfcpigjmagbnkaaGreatDoorC4
namespace Go.Proofs.YtfcpigjmagbnkaaGreatDoor
open Go Go.RowKit Ab
set_option linter.unusedSimpArgs false
set_option linter.unusedVariables false
set_option maxHeartbeats 10000000
theorem bz_C5 : type_of% (And.intro @W_len (And.intro @D_len (And.intro @Nat.div_one (And.intro @Nat.mul_one (And.intro @tn_nat (And.intro @W_nf (And.intro @D_nf (And.intro @W_nil (And.intro @D_nil (And.intro @wi (And.intro @nf_g (And.intro @Bool.false_and (@W_cell))))))))))))) := And.intro @W_len (And.intro @D_len (And.intro @Nat.div_one (And.intro @Nat.mul_one (And.intro @tn_nat (And.intro @W_nf (And.intro @D_nf (And.intro @W_nil (And.intro @D_nil (And.intro @wi (And.intro @nf_g (And.intro @Bool.false_and (@W_cell))))))))))))
def a68 : AC := .seq (.reg [qr 2 (.bx 27 (.t 0)),
 qr 4 (.al 37 [(.b false), (.l 1 []), (.i .i64 0), (.b false)])])
 (.seq (.dreg [qr 7 (.fad 0 (.t 2)),
 qr 8 (.ld true 2 (.t 7)),
 qm 9 1,
 qr 10 (.call 61 [(1, (.t 9))]),
 qr 11 (.call 54 [(1, (.k (.b false))), (1, (.t 10))]),
 qr 12 (.call 106 [(1, (.t 8)), (1, (.t 11))]),
 qr 5 (.al 25 [(.b false), (.l 1 [])]),
 qn (.st 2 (.t 5) (.t 12))])
 (.seq (.dreg [qr 13 (.ld true 2 (.t 5)),
 qr 14 (.fad 2 (.t 2)),
 qr 15 (.ld false 1 (.t 14)),
 qr 16 (.call 54 [(1, (.k (.b false))), (1, (.t 15))]),
 qr 17 (.call 108 [(1, (.t 13)), (1, (.t 16))]),
 qr 6 (.al 25 [(.b false), (.l 1 [])]),
 qn (.st 2 (.t 6) (.t 17))])
 (.seq (.dreg [qr 18 (.ld true 2 (.t 6)),
 qm 19 1,
 qr 20 (.ld true 2 (.t 6)),
 qr 21 (.fad 2 (.t 2)),
 qr 22 (.ld false 1 (.t 21)),
 qr 23 (.call 54 [(1, (.k (.b false))), (1, (.t 22))]),
 qr 24 (.call 106 [(1, (.t 20)), (1, (.t 23))]),
 qr 25 (.ld true 2 (.t 5)),
 qr 26 (.call 109 [(1, (.t 24)), (1, (.t 25))]),
 qr 27 (.bin .eql (.t 26) (.k (.i .i64 0))),
 qr 28 (.bld [(.b false), (.l 1 []), (.i .i64 0), (.b false)] [(0, 2, (.t 18)), (2, 1, (.t 19)), (3, 1, (.t 27))]),
 qn (.st 4 (.t 4) (.t 28))])
 (.ret))))
theorem rplace_spec (s : Bool) (a d : List Nat) (k m : Nat) (hk : k ≤ 1048576) (ha : Wd a) (hd : Wd d) (la : a.length ≤ m) (ld : d.length ≤ m) (h0 : nv B d ≠ 0) (hm : 20000 ≤ m) (hm1 : m ≤ 2000000) :
    AFun Tryz.prog J0 68 [rL s a d, .i .i64 (k : Int)] (cN (plZ (zv s a) (nv B d) k) (k : Int) (plP (zv s a) (nv B d) k)) := by
  have t1 := (htwo_spec k (by omega)).frozen
  have hbt : 2 ^ k < B ^ m := pow2_B k (by omega)
  have i1 := hID false hbt (by omega)
  rw [show zI false (2 ^ k) = ((2 ^ k : Nat) : Int) from rfl] at i1
  have m1 := hzmul_spec s (decide (((2 ^ k : Nat) : Int) < 0)) a (dg B (((2 ^ k : Nat) : Int)).natAbs) m (by omega) ha (Wd_dg _) la (dlen hbt)
  rw [zv_N] at m1
  have i2 := hI_spec false d hd (by omega)
  rw [zv_f] at i2
  have hb : (zv s a * ((2 ^ k : Nat) : Int)).natAbs < B ^ (m + m) := mul_lt (zv_lt ha la) hbt
  unfold plP plZ
  rw [show zv s a * 2 ^ k = zv s a * ((2 ^ k : Nat) : Int) from by rw [Int.natCast_pow]; rfl]
  generalize zv s a * ((2 ^ k : Nat) : Int) = z at *
  have hdm : nv B d < B ^ (m + m) := pup (nvlt hd ld) (by omega)
  have f1 := hfloorN hb hdm (by omega) h0
  have bq : (z.fdiv (nv B d : Int)).natAbs < B ^ (m + m + 1) := fl_abs hb
  generalize z.fdiv (nv B d : Int) = q at *
  have m2 := hzmul_spec (decide (q < 0)) (decide ((nv B d : Int) < 0)) (dg B q.natAbs) (dg B ((nv B d : Int)).natAbs) (m + m + 1) (by omega) (Wd_dg _) (Wd_dg _) (dlen bq) (dlen (pup hdm (Nat.le_succ _)))
  rw [zv_N, zv_N] at m2
  have bw : (q * (nv B d : Int)).natAbs < B ^ (m + m + 1 + (m + m + 1)) := mul_lt bq (pup hdm (Nat.le_succ _))
  generalize q * (nv B d : Int) = w at *
  have o1 := horder_spec (decide (w < 0)) (decide (z < 0)) (dg B w.natAbs) (dg B z.natAbs) (m + m + 1 + (m + m + 1)) (by omega) (Wd_dg _) (Wd_dg _) (dlen bw) (dlen (pup hb (by omega)))
  rw [zv_N, zv_N] at o1
  have hP : decide (w = z) = decide (cz w z = 0) := decide_eq_decide.2 (by rw [cz_0])
  rw [hP]
  clear hP
  generalize cz w z = c at *
  generalize 2 ^ k = tt at *
  generalize (nv B d : Int) = dd at *
  generalize (tt : Int) = ti at *
  generalize (k : Int) = kk at *
  refine mkcQ fol J0s Tryz.func68 a68 [.c 4 true 4] ?_
  unfold a68
  simp only [init_eq, initE, qm, qr, qn]
  exact wcQ @bz_C5
theorem pl_red (z : Int) (d k : Nat) (h : d ≠ 0) : plZ (rz z d) (rden z d) k = plZ z d k ∧ plP (rz z d) (rden z d) k = plP z d k := by
  have h1 := rz_back (z := z) (d := d)
  have h2 := rden_back (z := z) (d := d)
  have p1 := rG_pos (z := z) h
  generalize rz z d = a at *
  generalize rden z d = b at *
  generalize rG z d = g at *
  subst h1 h2
  have e : plZ a b k = plZ (a * (g : Int)) (b * g) k := by
    unfold plZ
    rw [Int.mul_right_comm]
    exact (fdiv_scale _ p1).symm
  refine ⟨e, ?_⟩
  unfold plP
  rw [← e]
  refine decide_eq_decide.2 ?_
  rw [Int.natCast_mul, ← Int.mul_assoc, Int.mul_right_comm a]
  have hg : (g : Int) ≠ 0 := by omega
  exact ⟨fun h => by rw [h], fun h => Int.eq_of_mul_eq_mul_right hg h⟩
theorem plQ (p : Rat) (z : Int) (d k : Nat) (hd : d ≠ 0) (h : p = mkRat z d) : plZ p.num p.den k = plZ z d k ∧ plP p.num p.den k = plP z d k := by
  subst h
  rw [← r_num hd, ← r_den hd]
  exact pl_red z d k hd
def a29 : AC := .seq (.reg [qr 2 (.bx 27 (.t 0)),
 qr 4 (.al 37 [(.b false), (.l 1 []), (.i .i64 0), (.b false)]),
 qr 5 (.mv (.k (.i .i64 0)))])
 (.seq (.reg [qr 7 (.ld true 3 (.t 2)),
 qr 8 (.call 66 [(1, (.t 7))]),
 qm 9 1,
 qr 10 (.call 58 [(1, (.t 9))]),
 qr 11 (.bsl 29 1 2 [(.i .i64 0), (.i .i64 0)] [(0, (.t 8)), (1, (.t 10))]),
 qr 12 (.call 65 [(1, (.t 11))]),
 qm 6 12])
 (.seq (.seq (.reg [qm 13 6,
 qr 14 (.bin .neq (.t 13) (.k (.i .i64 0)))])
 (.cond (.t 14)
 (.seq (.reg [qr 15 (.bld [(.b false), (.l 1 []), (.i .i64 0), (.b false)] []),
 qm 16 6,
 qn (.st 4 (.t 4) (.t 15)),
 qm 5 16])
 (.ret))
 (.skip)))
 (.seq (.reg [qr 17 (.ld true 3 (.t 2)),
 qm 18 1,
 qr 19 (.call 68 [(1, (.t 17)), (1, (.t 18))]),
 qn (.st 4 (.t 4) (.t 19)),
 qr 5 (.mv (.k (.i .i64 0)))])
 (.ret))))
theorem rof_spec (s : Bool) (a d : List Nat) (k m : Nat) (hk : k ≤ 1048576) (ha : Wd a) (hd : Wd d) (la : a.length ≤ m) (ld : d.length ≤ m) (h0 : nv B d ≠ 0) (hm : 20000 ≤ m) (hm1 : m ≤ 2000000) :
    AFun Tryz.prog J0 29 [rL s a d, .i .i64 (k : Int)] (.t [cN (plZ (zv s a) (nv B d) k) (k : Int) (plP (zv s a) (nv B d) k), .i .i64 0]) := by
  have e1 := rrat_spec s a d hd (by omega)
  rw [if_neg h0] at e1
  have e2 := rexp_spec (k : Int)
  rw [ckE_0 (by omega) (by omega)] at e2
  have e3 := rfirst2_spec 0 0
  rw [show fst2 0 0 = 0 from rfl] at e3
  have c1 := rplace_spec s a d k m hk ha hd la ld h0 hm hm1
  generalize plZ (zv s a) (nv B d) k = x at *
  generalize plP (zv s a) (nv B d) k = y at *
  generalize (k : Int) = kk at *
  refine mkcQ fol J0s Tryz.func29 a29 [.c 4 true 4, .t 5] ?_
  unfold a29
  simp only [init_eq, initE, qm, qr, qn]
  exact wcQ @bz_C5
theorem rofE_spec (s : Bool) (a d : List Nat) (k : Int) (hd : Wd d) (ld : d.length ≤ 3000000) (h : oeE (nv B d) k ≠ 0) : AFun Tryz.prog J0 29 [rL s a d, .i .i64 k] (.t [(.g [.b false, .l 1 [], .i .i64 0, .b false]), .i .i64 (oeE (nv B d) k)]) := by
  have e1 := rrat_spec s a d hd (by omega)
  have e2 := rexp_spec k
  have e3 := rfirst2_spec (if nv B d = 0 then 1 else 0) (ckE k)
  have e : fst2 (if nv B d = 0 then 1 else 0) (ckE k) = oeE (nv B d) k := by
    unfold fst2 oeE
    by_cases h0 : nv B d = 0
    · rw [if_pos h0, if_pos h0]; rfl
    · rw [if_neg h0, if_neg h0]; rfl
  rw [e] at e3
  generalize (if nv B d = 0 then (1 : Int) else 0) = x at *
  generalize oeE (nv B d) k = z at *
  generalize ckE k = y at *
  refine mkcQ fol J0s Tryz.func29 a29 [.c 4 true 4, .t 5] ?_
  unfold a29
  simp only [init_eq, initE, qm, qr, qn]
  exact wcQ (ai @h @bz_C5)
def a26 : AC := .seq (.reg [qr 1 (.bx 37 (.t 0)),
 qr 2 (.al 27 [(.b false), (.l 1 []), (.l 1 [])])])
 (.seq (.dreg [qr 3 (.call 36 [(1, (.k (.i .i64 1))), (1, (.k (.i .i64 2)))]),
 qr 4 (.ld true 4 (.t 1)),
 qr 5 (.call 24 [(1, (.t 4))]),
 qr 6 (.ld true 4 (.t 1)),
 qr 7 (.call 25 [(1, (.t 6))]),
 qr 8 (.call 64 [(1, (.t 5)), (1, (.t 7))]),
 qr 9 (.call 63 [(1, (.t 3)), (1, (.t 8))]),
 qn (.st 3 (.t 2) (.t 9))])
 (.ret))
theorem rmiddle_spec (s : Bool) (a : List Nat) (k m : Nat) (p : Bool) (hk : k ≤ 1048576) (ha : Wd a) (la : a.length ≤ m) (hm : 20000 ≤ m) (hm1 : m ≤ 1100000) :
    AFun Tryz.prog J0 26 [cL s a (k : Int) p] (rN ((loQ (zv s a) k + loQ (hiN (zv s a) p) k) / 2).num ((loQ (zv s a) k + loQ (hiN (zv s a) p) k) / 2).den) ∧ Rr (rN ((loQ (zv s a) k + loQ (hiN (zv s a) p) k) / 2).num ((loQ (zv s a) k + loQ (hiN (zv s a) p) k) / 2).den) ((loQ (zv s a) k + loQ (hiN (zv s a) p) k) / 2) 5000000 := by
  obtain ⟨h1, g1⟩ := rlow_spec s a k m p hk ha la hm (by omega)
  obtain ⟨h2, g2⟩ := rhigh_spec s a k m p hk ha la hm (by omega)
  obtain ⟨h3, g3⟩ := rPlusR (Rr_up g1 (Nat.le_succ m)) g2 (by omega)
  have p1 := rP_spec 1 2 (by decide) (by decide) (by decide) (by decide)
  have g4 : Rr (rN (mkRat 1 2).num (mkRat 1 2).den) (mkRat 1 2) (m + 1 + (m + 1) + 1) := Rr_c (Nat.lt_of_lt_of_le (by decide : (mkRat 1 2).num.natAbs < B ^ 1) (Nat.pow_le_pow_right B0 (by omega))) (Nat.lt_of_lt_of_le (by decide : (mkRat 1 2).den < B ^ 1) (Nat.pow_le_pow_right B0 (by omega)))
  rw [show rz 1 2 = (mkRat 1 2).num from by decide +kernel, show rden 1 2 = (mkRat 1 2).den from by decide +kernel] at p1
  obtain ⟨h4, g5⟩ := rTimesR g4 g3 (by omega)
  have e : mkRat 1 2 * (loQ (zv s a) k + loQ (hiN (zv s a) p) k) = (loQ (zv s a) k + loQ (hiN (zv s a) p) k) / 2 := by
    have : (mkRat 1 2 : Rat) * 2 = 1 := by decide +kernel
    grind
  rw [e] at h4 g5
  refine ⟨?_, Rr_up g5 (by omega)⟩
  replace p1 : AFun Tryz.prog J0 36 [.i .i64 1, .i .i64 2] (.g [.b false, .l 1 (W (dg B 1)), .l 1 (W (dg B 2))]) := p1
  replace h4 : AFun Tryz.prog J0 63 [.g [.b false, .l 1 (W (dg B 1)), .l 1 (W (dg B 2))], rN (loQ (zv s a) k + loQ (hiN (zv s a) p) k).num (loQ (zv s a) k + loQ (hiN (zv s a) p) k).den] _ := h4
  clear g1 g2 g3 g4 g5 e
  generalize (loQ (zv s a) k + loQ (hiN (zv s a) p) k) / 2 = M at *
  generalize loQ (zv s a) k + loQ (hiN (zv s a) p) k = S at *
  generalize loQ (zv s a) k = L at *
  generalize loQ (hiN (zv s a) p) k = H at *
  generalize dg B 1 = o1 at *
  generalize dg B 2 = o2 at *
  generalize (k : Int) = kk at *
  refine mkcQ fol J0s Tryz.func26 a26 [.c 2 true 3] ?_
  unfold a26
  simp only [init_eq, initE, qm, qr, qn]
  have zc1 := h3
  have zc2 := h4
  exact wcQ @bz_C5
theorem mid_eq (z : Int) (p : Bool) (k : Nat) : (loQ z k + loQ (hiN z p) k) / 2 = mkRat (z + hiN z p) (2 ^ (k + 1)) := by
  rw [← mk_mid z (hiN z p) (two_ne k) (two_ne k), Rat.mkRat_eq_iff (by have := two_ne k; have := Nat.mul_ne_zero this this; omega) (two_ne (k + 1))]
  rw [Nat.pow_succ, ← Int.add_mul, Int.natCast_mul, Int.natCast_mul, Int.natCast_mul]
  simp only [Int.mul_assoc]
theorem mid_R (z : Int) (p : Bool) (k m : Nat) (hz : z.natAbs < B ^ m) (hk : k ≤ 1048576) (hm : 20000 ≤ m) : Rr (rN ((loQ z k + loQ (hiN z p) k) / 2).num ((loQ z k + loQ (hiN z p) k) / 2).den) ((loQ z k + loQ (hiN z p) k) / 2) (m + 2) := by
  rw [mid_eq]
  obtain ⟨_, _, e3⟩ := rv_q (z := z + hiN z p) (d := 2 ^ (k + 1)) (m := m + 2) (two_ne (k + 1)) rfl (Nat.lt_of_le_of_lt (Int.natAbs_add_le _ _) (padd (pup hz (Nat.le_succ m)) (hiN_abs hz))) (pow2_B (k + 1) (by omega))
  exact e3
theorem up_law (z : Int) (p : Bool) (k : Nat) (hk : 0 < k) : plZ ((loQ z k + loQ (hiN z p) k) / 2).num ((loQ z k + loQ (hiN z p) k) / 2).den (k - 1) = z.fdiv 2 ∧ plP ((loQ z k + loQ (hiN z p) k) / 2).num ((loQ z k + loQ (hiN z p) k) / 2).den (k - 1) = (p && decide (z % 2 = 0)) := by
  have hM := mid_eq z p k
  obtain ⟨h1, h2⟩ := plQ _ _ _ (k - 1) (two_ne (k + 1)) hM
  rw [h1, h2]
  have key : plZ (z + hiN z p) (2 ^ (k + 1)) (k - 1) = (z + hiN z p).fdiv 4 := by
    unfold plZ
    have e : 2 ^ (k + 1) = 4 * 2 ^ (k - 1) := by rw [show k + 1 = (k - 1) + 2 from by omega, Nat.pow_add, Nat.mul_comm]
    have e2 : (2 : Int) ^ (k - 1) = ((2 ^ (k - 1) : Nat) : Int) := (Int.natCast_pow 2 (k - 1)).symm
    rw [e, e2]
    exact fdiv_scale (d := 4) _ (Nat.two_pow_pos _)
  have key2 : plP (z + hiN z p) (2 ^ (k + 1)) (k - 1) = decide ((z + hiN z p).fdiv 4 * 4 = z + hiN z p) := by
    unfold plP
    rw [key]
    refine decide_eq_decide.2 ?_
    have e : ((2 ^ (k + 1) : Nat) : Int) = 4 * 2 ^ (k - 1) := by
      rw [show k + 1 = (k - 1) + 2 from by omega, Nat.pow_add, Nat.mul_comm, Int.natCast_mul, Int.natCast_pow]; rfl
    rw [e, ← Int.mul_assoc]
    have hp : (2 : Int) ^ (k - 1) ≠ 0 := Int.ne_of_gt (Int.pow_pos (by decide))
    exact ⟨fun h => Int.eq_of_mul_eq_mul_right hp h, fun h => by rw [h]⟩
  rw [key, key2, Int.fdiv_eq_ediv_of_nonneg _ (by decide), Int.fdiv_eq_ediv_of_nonneg _ (by decide)]
  unfold hiN
  cases p
  · simp only [Bool.false_eq_true, if_false, Bool.false_and, decide_eq_false_iff_not]
    omega
  · simp only [if_true, Bool.true_and, decide_eq_decide]
    omega
def a28 : AC := .seq (.reg [qr 1 (.bx 37 (.t 0)),
 qr 2 (.al 37 [(.b false), (.l 1 []), (.i .i64 0), (.b false)]),
 qr 3 (.mv (.k (.i .i64 0)))])
 (.seq (.reg [qr 5 (.ld true 4 (.t 1)),
 qr 6 (.call 22 [(1, (.t 5))]),
 qm 4 6])
 (.seq (.seq (.reg [qm 7 4,
 qr 8 (.bin .eql (.t 7) (.k (.i .i64 0))),
 qm 9 8,
 ⟨some 10, some (9, true), .fad 2 (.t 1)⟩,
 ⟨some 11, some (9, true), .ld false 1 (.t 10)⟩,
 ⟨some 12, some (9, true), .bin .eql (.t 11) (.k (.i .i64 0))⟩,
 qr 13 (.pick (.t 9) (.t 12) (.k (.b false)))])
 (.cond (.t 13)
 (.reg [qr 4 (.mv (.k (.i .i64 3)))])
 (.skip)))
 (.seq (.seq (.reg [qm 14 4,
 qr 15 (.bin .neq (.t 14) (.k (.i .i64 0)))])
 (.cond (.t 15)
 (.seq (.reg [qr 16 (.bld [(.b false), (.l 1 []), (.i .i64 0), (.b false)] []),
 qm 17 4,
 qn (.st 4 (.t 2) (.t 16)),
 qm 3 17])
 (.ret))
 (.skip)))
 (.seq (.dreg [qr 18 (.ld true 4 (.t 1)),
 qr 19 (.call 26 [(1, (.t 18))]),
 qr 20 (.fad 2 (.t 1)),
 qr 21 (.ld false 1 (.t 20)),
 qr 22 (.bin .sub (.t 21) (.k (.i .i64 1))),
 qr 23 (.call 68 [(1, (.t 19)), (1, (.t 22))]),
 qn (.st 4 (.t 2) (.t 23)),
 qr 3 (.mv (.k (.i .i64 0)))])
 (.ret)))))
theorem rcup_spec (s : Bool) (a : List Nat) (k : Int) (m : Nat) (p : Bool) (ha : Wd a) (la : a.length ≤ m) (hm : 20000 ≤ m) (hm1 : m ≤ 1100000) :
    AFun Tryz.prog J0 28 [cL s a k p] (.t [if upE k = 0 then cN ((zv s a).fdiv 2) (k - 1) (p && decide (zv s a % 2 = 0)) else (.g [.b false, .l 1 [], .i .i64 0, .b false]), .i .i64 (upE k)]) := by
  have h1 := rccheck_spec s a k p
  by_cases c1 : ckE k = 0
  · obtain ⟨k1, k2⟩ := ckE_z.1 c1
    rw [c1] at h1
    by_cases c2 : k = 0
    · rw [show upE k = 3 from by unfold upE; rw [if_neg (not_not_intro c1), if_pos c2], if_neg (by decide)]
      subst c2
      clear c1
      refine mkcQ fol J0s Tryz.func28 a28 [.c 2 true 4, .t 3] ?_
      unfold a28
      simp only [init_eq, initE, qm, qr, qn]
      exact wcQ @bz_C5
    · rw [show upE k = 0 from by unfold upE; rw [if_neg (not_not_intro c1), if_neg c2], if_pos rfl]
      obtain ⟨n, rfl⟩ : ∃ n : Nat, k = (n : Int) := ⟨k.toNat, by omega⟩
      obtain ⟨h2, g2⟩ := rmiddle_spec s a n m p (by omega) ha la hm hm1
      obtain ⟨u1, u2⟩ := up_law (zv s a) p n (by omega)
      have hb := Rr_num (mid_R (zv s a) p n m (zv_lt ha la) (by omega) hm)
      clear g2
      generalize (loQ (zv s a) n + loQ (hiN (zv s a) p) n) / 2 = M at *
      have wk : IntKind.i64.wrap ((n : Int) - 1) = ((n - 1 : Nat) : Int) := by rw [wi (by omega)]; omega
      have wk2 : (n : Int) - 1 = ((n - 1 : Nat) : Int) := by omega
      rw [wk2, ← u1, ← u2]
      have c3 := rplace_spec (decide (M.num < 0)) (dg B M.num.natAbs) (dg B M.den) (n - 1) (m + 2) (by omega) (Wd_dg _) (Wd_dg _) (dlen hb.1) (dlen hb.2) (by rw [nv_dgB]; exact M.den_nz) (by omega) (by omega)
      rw [zv_N, nv_dgB] at c3
      have nz : ¬ (n : Int) = 0 := c2
      clear c1 u1 u2 wk2 hb
      generalize plZ M.num M.den (n - 1) = x at *
      generalize plP M.num M.den (n - 1) = y at *
      generalize ((n - 1 : Nat) : Int) = n1 at *
      refine mkcQ fol J0s Tryz.func28 a28 [.c 2 true 4, .t 3] ?_
      unfold a28
      simp only [init_eq, initE, qm, qr, qn]
      exact wcQ (ai @wk (ai @nz @bz_C5))
  · have e : upE k = ckE k := if_pos c1
    rw [e, if_neg c1]
    generalize ckE k = x at *
    refine mkcQ fol J0s Tryz.func28 a28 [.c 2 true 4, .t 3] ?_
    unfold a28
    simp only [init_eq, initE, qm, qr, qn]
    exact wcQ (ai @c1 @bz_C5)
end Go.Proofs.YtfcpigjmagbnkaaGreatDoor
