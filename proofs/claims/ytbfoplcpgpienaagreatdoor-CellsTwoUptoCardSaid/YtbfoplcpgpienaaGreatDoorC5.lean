/-
  Cells, by the document: halves, coarser ones, the cell of a number, numbers that it holds.
-/
import Derived.Test.YtbfoplcpgpienaaGreatDoorC4
namespace Go.Proofs.YtbfoplcpgpienaaGreatDoor
open Go Go.RowKit Ab
set_option linter.unusedSimpArgs false
set_option linter.unusedVariables false
set_option maxHeartbeats 10000000
theorem bz_C5 : type_of% (And.intro @W_len (And.intro @D_len (And.intro @Nat.div_one (And.intro @Nat.mul_one (And.intro @tn_nat (And.intro @W_nf (And.intro @D_nf (And.intro @W_nil (And.intro @D_nil (And.intro @wi (And.intro @nf_g (And.intro @Bool.false_and (@W_cell))))))))))))) := And.intro @W_len (And.intro @D_len (And.intro @Nat.div_one (And.intro @Nat.mul_one (And.intro @tn_nat (And.intro @W_nf (And.intro @D_nf (And.intro @W_nil (And.intro @D_nil (And.intro @wi (And.intro @nf_g (And.intro @Bool.false_and (@W_cell))))))))))))
def a16 : AC := .seq (.reg [qr 1 (.bx 27 (.t 0)),
 qr 2 (.al 27 [(.b false), (.l 1 []), (.i .i64 0), (.b false)]),
 qr 3 (.al 27 [(.b false), (.l 1 []), (.i .i64 0), (.b false)]),
 qr 4 (.al 27 [(.b false), (.l 1 []), (.i .i64 0), (.b false)]),
 qr 5 (.mv (.k (.i .i64 0)))])
 (.seq (.reg [qr 9 (.ld true 4 (.t 1)),
 qr 10 (.call 11 [(1, (.t 9))]),
 qm 6 10])
 (.seq (.blk 0
 (.seq (.reg [qm 12 6,
 qr 13 (.bin .neq (.t 12) (.k (.i .i64 0))),
 qm 11 13])
 (.cond (.t 11)
 (.skip)
 (.seq (.reg [qr 15 (.fad 3 (.t 1)),
 qr 16 (.ld false 1 (.t 15)),
 qm 14 16])
 (.cond (.t 14)
 (.reg [qr 6 (.mv (.k (.i .i64 3)))])
 (.seq (.reg [qr 18 (.fad 2 (.t 1)),
 qr 19 (.ld false 1 (.t 18)),
 qr 20 (.bin .eql (.t 19) (.k (.i .i64 1048576))),
 qm 17 20])
 (.cond (.t 17)
 (.reg [qr 6 (.mv (.k (.i .i64 13)))])
 (.skip))))))))
 (.seq (.seq (.reg [qm 21 6,
 qr 22 (.bin .neq (.t 21) (.k (.i .i64 0)))])
 (.cond (.t 22)
 (.seq (.reg [qr 23 (.bld [(.b false), (.l 1 []), (.i .i64 0), (.b false)] []),
 qr 24 (.bld [(.b false), (.l 1 []), (.i .i64 0), (.b false)] []),
 qr 25 (.bld [(.b false), (.l 1 []), (.i .i64 0), (.b false)] []),
 qm 26 6,
 qn (.st 4 (.t 2) (.t 23)),
 qn (.st 4 (.t 3) (.t 24)),
 qn (.st 4 (.t 4) (.t 25)),
 qm 5 26])
 (.ret))
 (.skip)))
 (.seq (.dreg [qr 27 (.fad 0 (.t 1)),
 qr 28 (.ld true 2 (.t 27)),
 qr 29 (.call 51 [(1, (.k (.i .i64 2)))]),
 qr 30 (.call 56 [(1, (.t 28)), (1, (.t 29))]),
 qr 7 (.al 25 [(.b false), (.l 1 [])]),
 qn (.st 2 (.t 7) (.t 30))])
 (.seq (.dreg [qr 31 (.ld true 2 (.t 7)),
 qr 32 (.call 51 [(1, (.k (.i .i64 1)))]),
 qr 33 (.call 57 [(1, (.t 31)), (1, (.t 32))]),
 qr 8 (.al 25 [(.b false), (.l 1 [])]),
 qn (.st 2 (.t 8) (.t 33))])
 (.seq (.dregx [(34, 8), (37, 8), (34, 40), (37, 40), (7, 39), (7, 42), (35, 39), (35, 42), (34, 39), (34, 42), (37, 39), (37, 42), (34, 8), (37, 8), (39, 8), (42, 8), (34, 45), (37, 45), (39, 45), (42, 45), (7, 44), (7, 47), (35, 44), (35, 47), (34, 44), (34, 47), (37, 44), (37, 47), (8, 44), (8, 47), (40, 44), (40, 47), (39, 44), (39, 47), (42, 44), (42, 47), (8, 2), (8, 38), (40, 2), (40, 38), (39, 2), (39, 38), (42, 2), (42, 38), (8, 2), (8, 38), (45, 2), (45, 38), (44, 2), (44, 38), (47, 2), (47, 38), (8, 3), (8, 43), (45, 3), (45, 43), (44, 3), (44, 43), (47, 3), (47, 43)] [qr 34 (.ld true 2 (.t 7)),
 qr 35 (.fad 2 (.t 1)),
 qr 36 (.ld false 1 (.t 35)),
 qr 37 (.bin .add (.t 36) (.k (.i .i64 1))),
 qr 38 (.bld [(.b false), (.l 1 []), (.i .i64 0), (.b false)] [(0, 2, (.t 34)), (2, 1, (.t 37))]),
 qr 39 (.ld true 2 (.t 8)),
 qr 40 (.fad 2 (.t 1)),
 qr 41 (.ld false 1 (.t 40)),
 qr 42 (.bin .add (.t 41) (.k (.i .i64 1))),
 qr 43 (.bld [(.b false), (.l 1 []), (.i .i64 0), (.b false)] [(0, 2, (.t 39)), (2, 1, (.t 42)), (3, 1, (.k (.b true)))]),
 qr 44 (.ld true 2 (.t 8)),
 qr 45 (.fad 2 (.t 1)),
 qr 46 (.ld false 1 (.t 45)),
 qr 47 (.bin .add (.t 46) (.k (.i .i64 1))),
 qr 48 (.bld [(.b false), (.l 1 []), (.i .i64 0), (.b false)] [(0, 2, (.t 44)), (2, 1, (.t 47))]),
 qn (.st 4 (.t 2) (.t 38)),
 qn (.st 4 (.t 3) (.t 43)),
 qn (.st 4 (.t 4) (.t 48)),
 qr 5 (.mv (.k (.i .i64 0)))])
 (.ret)))))))
theorem rhalve_spec (s : Bool) (a : List Nat) (k : Int) (p : Bool) (ha : Wd a) (la : a.length ≤ 10000000) :
    AFun Tryz.prog J0 16 [cL s a k p] (.t [if hvE k p = 0 then cN (zv s a * 2) (k + 1) false else (.g [.b false, .l 1 [], .i .i64 0, .b false]), if hvE k p = 0 then cN (zv s a * 2 + 1) (k + 1) true else (.g [.b false, .l 1 [], .i .i64 0, .b false]), if hvE k p = 0 then cN (zv s a * 2 + 1) (k + 1) false else (.g [.b false, .l 1 [], .i .i64 0, .b false]), .i .i64 (hvE k p)]) := by
  have h1 := rccheck_spec s a k p
  by_cases c1 : ckE k = 0
  · obtain ⟨k1, k2⟩ := ckE_z.1 c1
    rw [c1] at h1
    cases p
    · by_cases c2 : k = 1048576
      · rw [show hvE k false = 13 from by unfold hvE; rw [if_neg (not_not_intro c1), if_neg (by decide), if_pos c2], if_neg (by decide), if_neg (by decide), if_neg (by decide)]
        subst c2
        clear c1
        refine mkcQ fol J0s Tryz.func16 a16 [.c 2 true 4, .c 3 true 4, .c 4 true 4, .t 5] ?_
        unfold a16
        simp only [init_eq, initE, qm, qr, qn]
        exact wcQ @bz_C5
      · rw [show hvE k false = 0 from by unfold hvE; rw [if_neg (not_not_intro c1), if_neg (by decide), if_neg c2], if_pos rfl, if_pos rfl, if_pos rfl]
        have z2 := hZ_spec 2 (by decide) (by decide)
        have z1 := hZ_spec 1 (by decide) (by decide)
        have h2 := hzmul_spec s (decide ((2 : Int) < 0)) a (dg B (2 : Int).natAbs) 10000000 (by decide) ha (Wd_dg _) la (Nat.le_trans (dlen (k := 1) (by decide)) (by decide))
        rw [zv_N] at h2
        obtain ⟨M, hM⟩ : ∃ M : Nat, M = 10000000 := ⟨_, rfl⟩
        have b1 : (zv s a * 2).natAbs < B ^ (M + 1) := by
          have b0 : (zv s a).natAbs < B ^ M := zv_lt (s := s) ha (by omega)
          rw [Int.natAbs_mul, show (2 : Int).natAbs = 2 from rfl, Nat.mul_two]
          exact padd b0 b0
        generalize zv s a * 2 = z at *
        have h3 := hzadd_spec (decide (z < 0)) (decide ((1 : Int) < 0)) (dg B z.natAbs) (dg B (1 : Int).natAbs) (M + 1) (by omega) (Wd_dg _) (Wd_dg _) (dlen b1) (Nat.le_trans (dlen (k := 1) (by decide)) (by omega))
        rw [zv_N, zv_N] at h3
        generalize z + 1 = w at *
        have wk : IntKind.i64.wrap (k + 1) = k + 1 := wi (by omega)
        clear c1
        refine mkcQ fol J0s Tryz.func16 a16 [.c 2 true 4, .c 3 true 4, .c 4 true 4, .t 5] ?_
        unfold a16
        simp only [init_eq, initE, qm, qr, qn]
        exact wcQ (ai @wk (ai @c2 @bz_C5))
    · rw [show hvE k true = 3 from by unfold hvE; rw [if_neg (not_not_intro c1), if_pos rfl], if_neg (by decide), if_neg (by decide), if_neg (by decide)]
      clear c1
      refine mkcQ fol J0s Tryz.func16 a16 [.c 2 true 4, .c 3 true 4, .c 4 true 4, .t 5] ?_
      unfold a16
      simp only [init_eq, initE, qm, qr, qn]
      exact wcQ @bz_C5
  · have e : hvE k p = ckE k := if_pos c1
    rw [e, if_neg c1, if_neg c1, if_neg c1]
    generalize ckE k = x at *
    refine mkcQ fol J0s Tryz.func16 a16 [.c 2 true 4, .c 3 true 4, .c 4 true 4, .t 5] ?_
    unfold a16
    simp only [init_eq, initE, qm, qr, qn]
    exact wcQ (ai @c1 @bz_C5)
theorem pl_red (z : Int) (d k : Nat) (h : d ≠ 0) : plZ (rz z d) (rden z d) k = plZ z d k ∧ plP (rz z d) (rden z d) k = plP z d k := by
  have h1 := rz_back (z := z) (d := d)
  have h2 := rden_back (z := z) (d := d)
  have p1 := rG_pos (z := z) h
  generalize rz z d = a at *
  generalize rden z d = b at *
  generalize rG z d = g at *
  subst h1 h2
  have e : plZ a b k = plZ (a * (g : Int)) (b * g) k := by
    unfold plZ
    rw [Int.mul_right_comm]
    exact (fdiv_scale _ p1).symm
  refine ⟨e, ?_⟩
  unfold plP
  rw [← e]
  refine decide_eq_decide.2 ?_
  rw [Int.natCast_mul, ← Int.mul_assoc, Int.mul_right_comm a]
  have hg : (g : Int) ≠ 0 := by omega
  exact ⟨fun h => by rw [h], fun h => Int.eq_of_mul_eq_mul_right hg h⟩
theorem plQ (p : Rat) (z : Int) (d k : Nat) (hd : d ≠ 0) (h : p = mkRat z d) : plZ p.num p.den k = plZ z d k ∧ plP p.num p.den k = plP z d k := by
  subst h
  rw [← r_num hd, ← r_den hd]
  exact pl_red z d k hd
theorem mid_eq (z : Int) (p : Bool) (k : Nat) : (loQ z k + loQ (hiN z p) k) / 2 = mkRat (z + hiN z p) (2 ^ (k + 1)) := by
  rw [← mk_mid z (hiN z p) (two_ne k) (two_ne k), Rat.mkRat_eq_iff (by have := two_ne k; have := Nat.mul_ne_zero this this; omega) (two_ne (k + 1))]
  rw [Nat.pow_succ, ← Int.add_mul, Int.natCast_mul, Int.natCast_mul, Int.natCast_mul]
  simp only [Int.mul_assoc]
theorem mid_R (z : Int) (p : Bool) (k m : Nat) (hz : z.natAbs < B ^ m) (hk : k ≤ 1048576) (hm : 20000 ≤ m) : Rr (rN ((loQ z k + loQ (hiN z p) k) / 2).num ((loQ z k + loQ (hiN z p) k) / 2).den) ((loQ z k + loQ (hiN z p) k) / 2) (m + 2) := by
  rw [mid_eq]
  obtain ⟨_, _, e3⟩ := rv_q (z := z + hiN z p) (d := 2 ^ (k + 1)) (m := m + 2) (two_ne (k + 1)) rfl (Nat.lt_of_le_of_lt (Int.natAbs_add_le _ _) (padd (pup hz (Nat.le_succ m)) (hiN_abs hz))) (pow2_B (k + 1) (by omega))
  exact e3
theorem up_law (z : Int) (p : Bool) (k : Nat) (hk : 0 < k) : plZ ((loQ z k + loQ (hiN z p) k) / 2).num ((loQ z k + loQ (hiN z p) k) / 2).den (k - 1) = z.fdiv 2 ∧ plP ((loQ z k + loQ (hiN z p) k) / 2).num ((loQ z k + loQ (hiN z p) k) / 2).den (k - 1) = (p && decide (z % 2 = 0)) := by
  have hM := mid_eq z p k
  obtain ⟨h1, h2⟩ := plQ _ _ _ (k - 1) (two_ne (k + 1)) hM
  rw [h1, h2]
  have key : plZ (z + hiN z p) (2 ^ (k + 1)) (k - 1) = (z + hiN z p).fdiv 4 := by
    unfold plZ
    have e : 2 ^ (k + 1) = 4 * 2 ^ (k - 1) := by rw [show k + 1 = (k - 1) + 2 from by omega, Nat.pow_add, Nat.mul_comm]
    have e2 : (2 : Int) ^ (k - 1) = ((2 ^ (k - 1) : Nat) : Int) := (Int.natCast_pow 2 (k - 1)).symm
    rw [e, e2]
    exact fdiv_scale (d := 4) _ (Nat.two_pow_pos _)
  have key2 : plP (z + hiN z p) (2 ^ (k + 1)) (k - 1) = decide ((z + hiN z p).fdiv 4 * 4 = z + hiN z p) := by
    unfold plP
    rw [key]
    refine decide_eq_decide.2 ?_
    have e : ((2 ^ (k + 1) : Nat) : Int) = 4 * 2 ^ (k - 1) := by
      rw [show k + 1 = (k - 1) + 2 from by omega, Nat.pow_add, Nat.mul_comm, Int.natCast_mul, Int.natCast_pow]; rfl
    rw [e, ← Int.mul_assoc]
    have hp : (2 : Int) ^ (k - 1) ≠ 0 := Int.ne_of_gt (Int.pow_pos (by decide))
    exact ⟨fun h => Int.eq_of_mul_eq_mul_right hp h, fun h => by rw [h]⟩
  rw [key, key2, Int.fdiv_eq_ediv_of_nonneg _ (by decide), Int.fdiv_eq_ediv_of_nonneg _ (by decide)]
  unfold hiN
  cases p
  · simp only [Bool.false_eq_true, if_false, Bool.false_and, decide_eq_false_iff_not]
    omega
  · simp only [if_true, Bool.true_and, decide_eq_decide]
    omega
end Go.Proofs.YtbfoplcpgpienaaGreatDoor
