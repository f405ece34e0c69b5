/-
  Cells, by the program: numbers that they hold, halves, coarser ones, the cell of a number.
-/
import Derived.Test.YtfcpigjmagbnkaaGreatDoorC2
namespace Go.Proofs.YtfcpigjmagbnkaaGreatDoor
open Go Go.RowKit Ab
set_option linter.unusedSimpArgs false
set_option linter.unusedVariables false
set_option maxHeartbeats 10000000
theorem bz_C3 : type_of% (And.intro @W_len (And.intro @D_len (And.intro @Nat.div_one (And.intro @Nat.mul_one (And.intro @tn_nat (And.intro @W_nf (And.intro @D_nf (And.intro @W_nil (And.intro @D_nil (And.intro @wi (And.intro @nf_g (And.intro @Bool.false_and (@W_cell))))))))))))) := And.intro @W_len (And.intro @D_len (And.intro @Nat.div_one (And.intro @Nat.mul_one (And.intro @tn_nat (And.intro @W_nf (And.intro @D_nf (And.intro @W_nil (And.intro @D_nil (And.intro @wi (And.intro @nf_g (And.intro @Bool.false_and (@W_cell))))))))))))
def haV (p : Bool) (L H r : Rat) : Bool := if p then decide (cq L r = 0) else decide (cq L r < 0) && decide (cq r H < 0)
def a15 : AC := .seq (.reg [qr 2 (.bx 37 (.t 0)),
 qr 3 (.bx 27 (.t 1)),
 qr 4 (.mv (.k (.b false))),
 qr 5 (.mv (.k (.i .i64 0)))])
 (.seq (.reg [qr 12 (.ld true 4 (.t 2)),
 qr 13 (.call 11 [(1, (.t 12))]),
 qm 11 13,
 qr 14 (.ext (.t 11) 0),
 qr 15 (.ext (.t 11) 1),
 qr 16 (.ext (.t 11) 2),
 qr 6 (.al 27 [(.b false), (.l 1 []), (.l 1 [])]),
 qr 7 (.al 27 [(.b false), (.l 1 []), (.l 1 [])]),
 qn (.st 3 (.t 6) (.t 14)),
 qn (.st 3 (.t 7) (.t 15)),
 qm 8 16])
 (.seq (.seq (.reg [qm 17 8,
 qr 18 (.bin .neq (.t 17) (.k (.i .i64 0)))])
 (.cond (.t 18)
 (.seq (.reg [qm 19 8,
 qr 4 (.mv (.k (.b false))),
 qm 5 19])
 (.ret))
 (.skip)))
 (.seq (.reg [qr 21 (.ld true 3 (.t 6)),
 qr 22 (.ld true 3 (.t 3)),
 qr 23 (.call 12 [(1, (.t 21)), (1, (.t 22))]),
 qm 20 23,
 qr 24 (.ext (.t 20) 0),
 qr 25 (.ext (.t 20) 1),
 qm 9 24,
 qm 8 25])
 (.seq (.seq (.reg [qm 26 8,
 qr 27 (.bin .neq (.t 26) (.k (.i .i64 0)))])
 (.cond (.t 27)
 (.seq (.reg [qm 28 8,
 qr 4 (.mv (.k (.b false))),
 qm 5 28])
 (.ret))
 (.skip)))
 (.seq (.reg [qr 30 (.ld true 3 (.t 3)),
 qr 31 (.ld true 3 (.t 7)),
 qr 32 (.call 12 [(1, (.t 30)), (1, (.t 31))]),
 qm 29 32,
 qr 33 (.ext (.t 29) 0),
 qr 34 (.ext (.t 29) 1),
 qm 10 33,
 qm 8 34])
 (.seq (.seq (.reg [qm 35 8,
 qr 36 (.bin .neq (.t 35) (.k (.i .i64 0)))])
 (.cond (.t 36)
 (.seq (.reg [qm 37 8,
 qr 4 (.mv (.k (.b false))),
 qm 5 37])
 (.ret))
 (.skip)))
 (.seq (.seq (.reg [qr 38 (.fad 3 (.t 2)),
 qr 39 (.ld false 1 (.t 38))])
 (.cond (.t 39)
 (.seq (.reg [qm 40 9,
 qr 41 (.bin .eql (.t 40) (.k (.i .i64 0))),
 qm 4 41,
 qr 5 (.mv (.k (.i .i64 0)))])
 (.ret))
 (.skip)))
 (.seq (.reg [qm 42 9,
 qr 43 (.bin .lss (.t 42) (.k (.i .i64 0))),
 qm 44 43,
 ⟨some 45, some (44, true), .mv (.t 10)⟩,
 ⟨some 46, some (44, true), .bin .lss (.t 45) (.k (.i .i64 0))⟩,
 qr 47 (.pick (.t 44) (.t 46) (.k (.b false))),
 qm 4 47,
 qr 5 (.mv (.k (.i .i64 0)))])
 (.ret)))))))))
theorem cholds_spec (s : Bool) (a : List Nat) (k m : Nat) (p : Bool) {v : V} {r : Rat} (hk : k ≤ 1048576) (ha : Wd a) (la : a.length ≤ m) (hv : Rr v r m) (hm : 20000 ≤ m) (hm1 : m ≤ 2000000) :
    AFun Tryz.prog J0 15 [cL s a (k : Int) p, v] (.t [.b (haV p (loQ (zv s a) k) (loQ (hiN (zv s a) p) k) r), .i .i64 0]) := by
  obtain ⟨h1, g1, g2⟩ := cends_spec s a k m p hk ha la hm hm1
  have h2 := qcmpR g1 (Rr_up hv (Nat.le_succ m)) (by omega)
  have h3 := qcmpR (Rr_up hv (Nat.le_succ m)) g2 (by omega)
  obtain ⟨t, b, d, rfl, _⟩ := hv
  obtain ⟨x, hx⟩ : ∃ x, x = haV p (loQ (zv s a) k) (loQ (hiN (zv s a) p) k) r := ⟨_, rfl⟩
  rw [← hx]
  unfold haV at hx
  clear g1 g2
  generalize cq (loQ (zv s a) k) r = x1 at *
  generalize cq r (loQ (hiN (zv s a) p) k) = x2 at *
  generalize loQ (zv s a) k = L at *
  generalize loQ (hiN (zv s a) p) k = H at *
  cases p
  · simp only [Bool.false_eq_true, if_false] at hx
    by_cases g : x1 < 0
    · rw [decide_eq_true g, Bool.true_and] at hx
      refine mkQ fol J0s Tryz.func15 a15 ?_
      unfold a15
      simp only [init_eq, initE, qm, qr, qn]
      exact wdQ (ai @hx (ai @g @bz_C3))
    · rw [decide_eq_false g, Bool.false_and] at hx
      refine mkQ fol J0s Tryz.func15 a15 ?_
      unfold a15
      simp only [init_eq, initE, qm, qr, qn]
      exact wdQ (ai @hx (ai @g @bz_C3))
  · replace hx : x = decide (x1 = 0) := hx
    refine mkQ fol J0s Tryz.func15 a15 ?_
    unfold a15
    simp only [init_eq, initE, qm, qr, qn]
    exact wdQ (ai @hx @bz_C3)
theorem choldsE_spec (s : Bool) (a : List Nat) (k : Int) (p : Bool) (t : Bool) (b d : List Nat) (h : ckE k ≠ 0) : AFun Tryz.prog J0 15 [cL s a k p, rL t b d] (.t [.b false, .i .i64 (ckE k)]) := by
  have h1 := cendsE_spec s a k p h
  generalize ckE k = e at *
  refine mkQ fol J0s Tryz.func15 a15 ?_
  unfold a15
  simp only [init_eq, initE, qm, qr, qn]
  exact wdQ (ai @h @bz_C3)
theorem cholds0_spec (s : Bool) (a : List Nat) (k m : Nat) (p : Bool) (t : Bool) (b d : List Nat) (hk : k ≤ 1048576) (ha : Wd a) (la : a.length ≤ m) (hb : Wd b) (hd : Wd d) (lb : b.length ≤ m) (ld : d.length ≤ m) (h0 : nv B d = 0) (hm : 20000 ≤ m) (hm1 : m ≤ 2000000) :
    AFun Tryz.prog J0 15 [cL s a (k : Int) p, rL t b d] (.t [.b false, .i .i64 1]) := by
  obtain ⟨h1, g1, g2⟩ := cends_spec s a k m p hk ha la hm hm1
  obtain ⟨u, x, y, e, hx, hy, lx, ly, _⟩ := g1
  have h2 := qcmp_spec u t x b y d (m + 1) (by omega) hx hb hy hd lx (by omega) ly (by omega)
  rw [if_pos (by rw [h0, Nat.mul_zero]), h0, Nat.mul_zero, re_0, ← e] at h2
  clear g2 e
  generalize loQ (zv s a) k = L at *
  generalize loQ (hiN (zv s a) p) k = H at *
  refine mkQ fol J0s Tryz.func15 a15 ?_
  unfold a15
  simp only [init_eq, initE, qm, qr, qn]
  exact wdQ @bz_C3
theorem ev_even (z : Int) : (z.fdiv 2 * 2 = z) = (z % 2 = 0) := by
  rw [Int.fdiv_eq_ediv_of_nonneg z (by decide)]
  exact propext (by omega)
def upE (k : Int) : Int := if ckE k ≠ 0 then ckE k else if k = 0 then 3 else 0
def a14 : AC := .seq (.reg [qr 1 (.bx 37 (.t 0)),
 qr 2 (.al 37 [(.b false), (.l 1 []), (.i .i64 0), (.b false)]),
 qr 3 (.mv (.k (.i .i64 0)))])
 (.seq (.seq (.reg [qr 8 (.ld true 4 (.t 1)),
 qr 9 (.call 42 [(1, (.t 8))]),
 qm 4 9])
 (.seq (.reg [qm 10 4,
 qr 11 (.bin .neq (.t 10) (.k (.i .i64 0)))])
 (.cond (.t 11)
 (.seq (.reg [qr 12 (.bld [(.b false), (.l 1 []), (.i .i64 0), (.b false)] []),
 qm 13 4,
 qn (.st 4 (.t 2) (.t 12)),
 qm 3 13])
 (.ret))
 (.skip))))
 (.seq (.seq (.reg [qr 14 (.fad 2 (.t 1)),
 qr 15 (.ld false 1 (.t 14)),
 qr 16 (.bin .eql (.t 15) (.k (.i .i64 0)))])
 (.cond (.t 16)
 (.seq (.reg [qr 17 (.bld [(.b false), (.l 1 []), (.i .i64 0), (.b false)] []),
 qn (.st 4 (.t 2) (.t 17)),
 qr 3 (.mv (.k (.i .i64 3)))])
 (.ret))
 (.skip)))
 (.seq (.reg [qr 19 (.fad 0 (.t 1)),
 qr 20 (.ld true 2 (.t 19)),
 qr 21 (.call 51 [(1, (.t 20)), (1, (.k (.i .i64 1)))]),
 qm 18 21,
 qr 22 (.ext (.t 18) 0),
 qr 23 (.ext (.t 18) 1),
 qr 5 (.al 25 [(.b false), (.l 1 [])]),
 qn (.st 2 (.t 5) (.t 22)),
 qm 6 23])
 (.seq (.dreg [qr 24 (.ld true 2 (.t 5)),
 qr 25 (.call 52 [(1, (.t 24)), (1, (.k (.i .i64 1)))]),
 qr 26 (.fad 0 (.t 1)),
 qr 27 (.ld true 2 (.t 26)),
 qr 28 (.call 46 [(1, (.t 25)), (1, (.t 27))]),
 qr 29 (.bin .eql (.t 28) (.k (.i .i64 0))),
 qm 7 29])
 (.seq (.reg [qr 30 (.ld true 2 (.t 5)),
 qr 31 (.fad 2 (.t 1)),
 qr 32 (.ld false 1 (.t 31)),
 qr 33 (.bin .sub (.t 32) (.k (.i .i64 1))),
 qr 34 (.fad 3 (.t 1)),
 qr 35 (.ld false 1 (.t 34)),
 qm 36 35,
 ⟨some 37, some (36, true), .mv (.t 7)⟩,
 qr 38 (.pick (.t 36) (.t 37) (.k (.b false))),
 qr 39 (.bld [(.b false), (.l 1 []), (.i .i64 0), (.b false)] [(0, 2, (.t 30)), (2, 1, (.t 33)), (3, 1, (.t 38))]),
 qn (.st 4 (.t 2) (.t 39)),
 qr 3 (.mv (.k (.i .i64 0)))])
 (.ret))))))
theorem cup_spec (s : Bool) (a : List Nat) (k : Int) (p : Bool) (ha : Wd a) (la : a.length ≤ 10000000) :
    AFun Tryz.prog J0 14 [cL s a k p] (.t [if upE k = 0 then cN ((zv s a).fdiv 2) (k - 1) (p && decide (zv s a % 2 = 0)) else (.g [.b false, .l 1 [], .i .i64 0, .b false]), .i .i64 (upE k)]) := by
  have h1 := ccheck_spec s a k p
  by_cases c1 : ckE k = 0
  · obtain ⟨k1, k2⟩ := ckE_z.1 c1
    rw [c1] at h1
    by_cases c2 : k = 0
    · rw [show upE k = 3 from by unfold upE; rw [if_neg (not_not_intro c1), if_pos c2], if_neg (by decide)]
      subst c2
      clear c1
      refine mkcQ fol J0s Tryz.func14 a14 [.c 2 true 4, .t 3] ?_
      unfold a14
      simp only [init_eq, initE, qm, qr, qn]
      exact wcQ @bz_C3
    · rw [show upE k = 0 from by unfold upE; rw [if_neg (not_not_intro c1), if_neg c2], if_pos rfl]
      have h2 := zshr_spec s a 1 ha (by omega) (by decide)
      rw [show zrV (zv s a) 1 = (zv s a).fdiv 2 from rfl, show zrE 1 = 0 from rfl] at h2
      obtain ⟨M, hM⟩ : ∃ M : Nat, M = 10000000 := ⟨_, rfl⟩
      have b1 : ((zv s a).fdiv 2).natAbs < B ^ (M + 1) := fl_abs (v := 2) (zv_lt ha (by omega))
      have ee := ev_even (zv s a)
      obtain ⟨x, hx⟩ : ∃ x, x = (p && decide (zv s a % 2 = 0)) := ⟨_, rfl⟩
      rw [← hx]
      have hd : decide ((zv s a).fdiv 2 * 2 = zv s a) = decide (zv s a % 2 = 0) := decide_eq_decide.2 (Iff.of_eq ee)
      rw [← hd] at hx
      clear ee hd
      generalize (zv s a).fdiv 2 = q at *
      have h3 := craise_spec (decide (q < 0)) (dg B q.natAbs) 1 (by decide) (Wd_dg _) (Nat.le_trans (dlen b1) (by omega))
      rw [zv_N, show q * 2 ^ 1 = q * 2 from by rw [Int.pow_succ, Int.pow_zero, Int.one_mul]] at h3
      replace h3 : AFun Tryz.prog J0 52 [zN q, .i .i64 1] (zN (q * 2)) := h3
      have b2 : (q * 2).natAbs < B ^ (M + 1 + 1) := by
        rw [Int.natAbs_mul, show (2 : Int).natAbs = 2 from rfl, Nat.mul_two]
        exact padd b1 b1
      generalize q * 2 = w at *
      have h4 := zcmp_spec (decide (w < 0)) s (dg B w.natAbs) a (Wd_dg _) ha (Nat.le_trans (dlen b2) (by omega)) (by omega)
      rw [zv_N] at h4
      have hd2 : decide (w = zv s a) = decide (cz w (zv s a) = 0) := decide_eq_decide.2 (Iff.of_eq (cz_0 w (zv s a)).symm)
      rw [hd2] at hx
      clear hd2
      generalize cz w (zv s a) = c at *
      have wk : IntKind.i64.wrap (k - 1) = k - 1 := wi (by omega)
      clear c1
      cases p
      · replace hx : x = false := by rw [hx]; rfl
        refine mkcQ fol J0s Tryz.func14 a14 [.c 2 true 4, .t 3] ?_
        unfold a14
        simp only [init_eq, initE, qm, qr, qn]
        exact wcQ (ai @hx (ai @wk (ai @c2 @bz_C3)))
      · rw [Bool.true_and] at hx
        refine mkcQ fol J0s Tryz.func14 a14 [.c 2 true 4, .t 3] ?_
        unfold a14
        simp only [init_eq, initE, qm, qr, qn]
        exact wcQ (ai @hx (ai @wk (ai @c2 @bz_C3)))
  · have e : upE k = ckE k := if_pos c1
    rw [e, if_neg c1]
    generalize ckE k = x at *
    refine mkcQ fol J0s Tryz.func14 a14 [.c 2 true 4, .t 3] ?_
    unfold a14
    simp only [init_eq, initE, qm, qr, qn]
    exact wcQ (ai @c1 @bz_C3)
theorem fc_same (z : Int) {d : Nat} (hd : d ≠ 0) : (z.fdiv (d : Int) = -((-z).fdiv (d : Int))) = (z.fdiv (d : Int) * (d : Int) = z) := by
  rw [Int.fdiv_eq_ediv_of_nonneg z (Int.natCast_nonneg d), Int.fdiv_eq_ediv_of_nonneg (-z) (Int.natCast_nonneg d)]
  have h1 := Int.ediv_mul_le z (show (d : Int) ≠ 0 by omega)
  have h2 := Int.lt_ediv_add_one_mul_self z (show (0 : Int) < (d : Int) by omega)
  have h3 := Int.ediv_mul_le (-z) (show (d : Int) ≠ 0 by omega)
  have h4 := Int.lt_ediv_add_one_mul_self (-z) (show (0 : Int) < (d : Int) by omega)
  generalize z / (d : Int) = x at *
  generalize -z / (d : Int) = y at *
  have hp : (0 : Int) < (d : Int) := by omega
  refine propext ⟨fun h => ?_, fun h => ?_⟩
  · have : x * (d : Int) = -(y * (d : Int)) := by rw [h, Int.neg_mul]
    omega
  · have e : (x + y) * (d : Int) = x * (d : Int) + y * (d : Int) := Int.add_mul _ _ _
    have e2 : (y + 1) * (d : Int) = y * (d : Int) + (d : Int) := by rw [Int.add_mul, Int.one_mul]
    have a1 : (x + y) * (d : Int) ≤ 0 := by omega
    have a2 : -(d : Int) < (x + y) * (d : Int) := by omega
    have a3 : x + y ≤ 0 := by
      rcases (by omega : 0 < x + y ∨ x + y ≤ 0) with g | g
      · have := Int.mul_pos g hp; omega
      · exact g
    have a4 : -1 < x + y := by
      rcases (by omega : -1 < x + y ∨ x + y ≤ -1) with g | g
      · exact g
      · have := Int.mul_le_mul_of_nonneg_right g (Int.le_of_lt hp); omega
    omega
def plZ (z : Int) (d k : Nat) : Int := (z * 2 ^ k).fdiv (d : Int)
def plP (z : Int) (d k : Nat) : Bool := decide (plZ z d k * (d : Int) = z * 2 ^ k)
def oeE (d : Nat) (k : Int) : Int := if d = 0 then 1 else ckE k
def a13 : AC := .seq (.reg [qr 2 (.bx 27 (.t 0)),
 qr 4 (.al 37 [(.b false), (.l 1 []), (.i .i64 0), (.b false)]),
 qr 5 (.mv (.k (.i .i64 0)))])
 (.seq (.seq (.reg [qr 11 (.ld true 3 (.t 2)),
 qr 12 (.call 48 [(1, (.t 11))]),
 qm 6 12])
 (.seq (.reg [qm 13 6,
 qr 14 (.bin .neq (.t 13) (.k (.i .i64 0)))])
 (.cond (.t 14)
 (.seq (.reg [qr 15 (.bld [(.b false), (.l 1 []), (.i .i64 0), (.b false)] []),
 qm 16 6,
 qn (.st 4 (.t 4) (.t 15)),
 qm 5 16])
 (.ret))
 (.skip))))
 (.seq (.seq (.reg [qm 17 1,
 qr 18 (.bld [(.b false), (.l 1 []), (.i .i64 0), (.b false)] [(2, 1, (.t 17))]),
 qr 19 (.call 42 [(1, (.t 18))]),
 qm 7 19])
 (.seq (.reg [qm 20 7,
 qr 21 (.bin .neq (.t 20) (.k (.i .i64 0)))])
 (.cond (.t 21)
 (.seq (.reg [qr 22 (.bld [(.b false), (.l 1 []), (.i .i64 0), (.b false)] []),
 qm 23 7,
 qn (.st 4 (.t 4) (.t 22)),
 qm 5 23])
 (.ret))
 (.skip))))
 (.seq (.reg [qr 25 (.ld true 3 (.t 2)),
 qm 26 1,
 qr 27 (.call 49 [(1, (.t 25)), (1, (.t 26))]),
 qm 24 27,
 qr 28 (.ext (.t 24) 0),
 qr 29 (.ext (.t 24) 1),
 qr 8 (.al 25 [(.b false), (.l 1 [])]),
 qn (.st 2 (.t 8) (.t 28)),
 qm 9 29])
 (.seq (.seq (.reg [qm 30 9,
 qr 31 (.bin .neq (.t 30) (.k (.i .i64 0)))])
 (.cond (.t 31)
 (.seq (.reg [qr 32 (.bld [(.b false), (.l 1 []), (.i .i64 0), (.b false)] []),
 qm 33 9,
 qn (.st 4 (.t 4) (.t 32)),
 qm 5 33])
 (.ret))
 (.skip)))
 (.seq (.reg [qr 35 (.ld true 3 (.t 2)),
 qm 36 1,
 qr 37 (.call 50 [(1, (.t 35)), (1, (.t 36))]),
 qm 34 37,
 qr 38 (.ext (.t 34) 0),
 qr 39 (.ext (.t 34) 1),
 qr 10 (.al 25 [(.b false), (.l 1 [])]),
 qn (.st 2 (.t 10) (.t 38)),
 qm 9 39])
 (.seq (.seq (.reg [qm 40 9,
 qr 41 (.bin .neq (.t 40) (.k (.i .i64 0)))])
 (.cond (.t 41)
 (.seq (.reg [qr 42 (.bld [(.b false), (.l 1 []), (.i .i64 0), (.b false)] []),
 qm 43 9,
 qn (.st 4 (.t 4) (.t 42)),
 qm 5 43])
 (.ret))
 (.skip)))
 (.seq (.dreg [qr 44 (.ld true 2 (.t 8)),
 qm 45 1,
 qr 46 (.ld true 2 (.t 8)),
 qr 47 (.ld true 2 (.t 10)),
 qr 48 (.call 46 [(1, (.t 46)), (1, (.t 47))]),
 qr 49 (.bin .eql (.t 48) (.k (.i .i64 0))),
 qr 50 (.bld [(.b false), (.l 1 []), (.i .i64 0), (.b false)] [(0, 2, (.t 44)), (2, 1, (.t 45)), (3, 1, (.t 49))]),
 qn (.st 4 (.t 4) (.t 50)),
 qr 5 (.mv (.k (.i .i64 0)))])
 (.ret))))))))
theorem cof_spec (s : Bool) (a d : List Nat) (k m : Nat) (hk : k ≤ 1048576) (ha : Wd a) (hd : Wd d) (la : a.length ≤ m) (ld : d.length ≤ m) (h0 : nv B d ≠ 0) (hm : 20000 ≤ m) (hm1 : m ≤ 3000000) :
    AFun Tryz.prog J0 13 [rL s a d, .i .i64 (k : Int)] (.t [cN (plZ (zv s a) (nv B d) k) (k : Int) (plP (zv s a) (nv B d) k), .i .i64 0]) := by
  have h1 := qcheck_spec s a d hd (by omega)
  rw [if_neg h0] at h1
  have h2 := ccheck_spec false [] (k : Int) false
  rw [ckE_0 (by omega) (by omega)] at h2
  replace h2 : AFun Tryz.prog J0 42 [.g [.b false, .l 1 [], .i .i64 (k : Int), .b false]] (.i .i64 0) := h2
  have h3 := qfloor_spec s a d (k : Int) m (by omega) (by omega) ha hd la ld
  have h4 := qceil_spec s a d (k : Int) m (by omega) (by omega) ha hd la ld
  have hE : glE (nv B d) (k : Int) = 0 := by unfold glE; rw [if_neg h0, if_neg (by omega)]
  rw [hE, glV_p h0 hk] at h3
  rw [hE, glV_p h0 hk] at h4
  rw [Int.neg_mul] at h4
  have hP : plP (zv s a) (nv B d) k = decide (cz ((zv s a * 2 ^ k).fdiv (nv B d : Int)) (-((-(zv s a * 2 ^ k)).fdiv (nv B d : Int))) = 0) := by
    unfold plP plZ
    refine decide_eq_decide.2 ?_
    rw [cz_0]
    exact Iff.of_eq (fc_same (zv s a * 2 ^ k) h0).symm
  rw [hP]
  unfold plZ
  have b0 := shlz (zv_lt (s := s) ha la) hk
  have b1 : ((zv s a * 2 ^ k).fdiv (nv B d : Int)).natAbs < B ^ (m + 16384 + 1) := fl_abs b0
  have b2 : (-((-(zv s a * 2 ^ k)).fdiv (nv B d : Int))).natAbs < B ^ (m + 16384 + 1) := by rw [Int.natAbs_neg]; exact fl_abs (by rw [Int.natAbs_neg]; exact b0)
  clear hP
  generalize (zv s a * 2 ^ k).fdiv (nv B d : Int) = x at *
  generalize -((-(zv s a * 2 ^ k)).fdiv (nv B d : Int)) = y at *
  have h5 := zcmp_spec (decide (x < 0)) (decide (y < 0)) (dg B x.natAbs) (dg B y.natAbs) (Wd_dg _) (Wd_dg _) (Nat.le_trans (dlen b1) (by omega)) (Nat.le_trans (dlen b2) (by omega))
  rw [zv_N, zv_N] at h5
  generalize cz x y = c at *
  clear hE
  refine mkcQ fol J0s Tryz.func13 a13 [.c 4 true 4, .t 5] ?_
  unfold a13
  simp only [init_eq, initE, qm, qr, qn]
  exact wcQ @bz_C3
theorem cofE_spec (s : Bool) (a d : List Nat) (k : Int) (hd : Wd d) (ld : d.length ≤ 3000000) (h : oeE (nv B d) k ≠ 0) : AFun Tryz.prog J0 13 [rL s a d, .i .i64 k] (.t [(.g [.b false, .l 1 [], .i .i64 0, .b false]), .i .i64 (oeE (nv B d) k)]) := by
  have h1 := qcheck_spec s a d hd (by omega)
  by_cases h0 : nv B d = 0
  · rw [if_pos h0] at h1
    rw [show oeE (nv B d) k = 1 from if_pos h0]
    refine mkcQ fol J0s Tryz.func13 a13 [.c 4 true 4, .t 5] ?_
    unfold a13
    simp only [init_eq, initE, qm, qr, qn]
    exact wcQ @bz_C3
  · rw [if_neg h0] at h1
    have e : oeE (nv B d) k = ckE k := if_neg h0
    rw [e] at h ⊢
    have h2 := ccheck_spec false [] k false
    replace h2 : AFun Tryz.prog J0 42 [.g [.b false, .l 1 [], .i .i64 k, .b false]] (.i .i64 (ckE k)) := h2
    generalize ckE k = x at *
    refine mkcQ fol J0s Tryz.func13 a13 [.c 4 true 4, .t 5] ?_
    unfold a13
    simp only [init_eq, initE, qm, qr, qn]
    exact wcQ (ai @h @bz_C3)
end Go.Proofs.YtfcpigjmagbnkaaGreatDoor
