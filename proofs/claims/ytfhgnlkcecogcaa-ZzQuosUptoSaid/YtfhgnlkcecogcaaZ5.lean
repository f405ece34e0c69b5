/-
  zz, surdref07: quotients.
-/
import Derived.Test.YtfhgnlkcecogcaaZ4
namespace Go.Proofs.Ytfhgnlkcecogcaa
open Go Go.RowKit Ab
set_option linter.unusedSimpArgs false
set_option linter.unusedVariables false
set_option maxHeartbeats 10000000
theorem bz_Z5 : type_of% (And.intro @Bool.false_and (And.intro @wi (And.intro @tn_nat (And.intro @Nat.div_one (And.intro @Nat.mul_one (And.intro @W_len (And.intro @W_nf (And.intro @W_cell (And.intro @W_nil (And.intro @W_get (@nf_g))))))))))) := And.intro @Bool.false_and (And.intro @wi (And.intro @tn_nat (And.intro @Nat.div_one (And.intro @Nat.mul_one (And.intro @W_len (And.intro @W_nf (And.intro @W_cell (And.intro @W_nil (And.intro @W_get (@nf_g))))))))))

theorem rzaddN {x y : Int} {m : Nat} (hx : x.natAbs < B ^ m) (hy : y.natAbs < B ^ m) (hm : m ≤ 100000000) : AFun Try.prog J0 34 [zN x, zN y] (zN (x + y)) := by
  have := rzadd_spec (decide (x < 0)) (decide (y < 0)) (dg B x.natAbs) (dg B y.natAbs) (Wd_dg _) (Wd_dg _) (Nat.le_trans (dlen hx) hm) (Nat.le_trans (dlen hy) hm)
  rwa [zv_N, zv_N] at this
theorem rzsubN {x y : Int} {m : Nat} (hx : x.natAbs < B ^ m) (hy : y.natAbs < B ^ m) (hm : m ≤ 100000000) : AFun Try.prog J0 35 [zN x, zN y] (zN (x - y)) := by
  have := rzsub_spec (decide (x < 0)) (decide (y < 0)) (dg B x.natAbs) (dg B y.natAbs) (Wd_dg _) (Wd_dg _) (Nat.le_trans (dlen hx) hm) (Nat.le_trans (dlen hy) hm)
  rwa [zv_N, zv_N] at this
theorem rzsignN {z : Int} {m : Nat} (hz : z.natAbs < B ^ m) (hm : m ≤ 1000000000) : AFun Try.prog J0 33 [zN z] (.i .i64 (sgz z)) := by
  have := rzsign_spec (decide (z < 0)) (dg B z.natAbs) (Wd_dg _) (Nat.le_trans (dlen hz) hm)
  rwa [zv_N] at this
theorem sgz_neg {z : Int} : (sgz z < 0) = (z < 0) := by
  unfold sgz; split
  · rename_i h; exact propext ⟨fun _ => h, fun _ => by decide⟩
  · rename_i h; split <;> exact propext ⟨fun h' => absurd h' (by decide), fun h' => absurd h' h⟩

-- surd/surdref07.Quo
def a13 : AC := .seq (.reg [⟨some 2, none, .bx 30 (.t 0)⟩, 
      ⟨some 3, none, .bx 30 (.t 1)⟩, 
      ⟨some 4, none, .al 30 [(.b false), (.l 1 [])]⟩, 
      ⟨some 5, none, .al 30 [(.b false), (.l 1 [])]⟩, 
      ⟨some 6, none, .mv (.k (.i .i64 0))⟩])
  (.seq (.dreg [⟨some 10, none, .ld true 2 (.t 2)⟩, 
      ⟨some 11, none, .call 38 [(1, (.t 10))]⟩, 
      ⟨some 12, none, .ld true 2 (.t 3)⟩, 
      ⟨some 13, none, .call 38 [(1, (.t 12))]⟩, 
      ⟨none, none, .st 2 (.t 2) (.t 11)⟩, 
      ⟨none, none, .st 2 (.t 3) (.t 13)⟩])
  (.seq (.reg [⟨some 15, none, .fad 1 (.t 2)⟩, 
      ⟨some 16, none, .ld false 1 (.t 15)⟩, 
      ⟨some 17, none, .fad 1 (.t 3)⟩, 
      ⟨some 18, none, .ld false 1 (.t 17)⟩, 
      ⟨some 19, none, .call 39 [(1, (.t 16)), (1, (.t 18))]⟩, 
      ⟨some 14, none, .mv (.t 19)⟩, 
      ⟨some 20, none, .ext (.t 14) 0⟩, 
      ⟨some 21, none, .ext (.t 14) 1⟩, 
      ⟨some 22, none, .ext (.t 14) 2⟩, 
      ⟨some 7, none, .mv (.t 20)⟩, 
      ⟨some 8, none, .mv (.t 21)⟩, 
      ⟨some 9, none, .mv (.t 22)⟩])
  (.seq (.seq (.reg [⟨some 23, none, .mv (.t 9)⟩, 
        ⟨some 24, none, .bin .neq (.t 23) (.k (.i .i64 0))⟩])
    (.cond (.t 24)
    (.seq (.reg [⟨some 25, none, .bld [(.b false), (.l 1 [])] []⟩, 
          ⟨some 26, none, .bld [(.b false), (.l 1 [])] []⟩, 
          ⟨none, none, .st 2 (.t 4) (.t 25)⟩, 
          ⟨none, none, .st 2 (.t 5) (.t 26)⟩, 
          ⟨some 6, none, .mv (.k (.i .i64 1))⟩])
      (.ret))
    (.skip)))
  (.seq (.dreg [⟨some 27, none, .fad 0 (.t 2)⟩, 
      ⟨some 28, none, .ld false 1 (.t 27)⟩, 
      ⟨some 29, none, .fad 0 (.t 3)⟩, 
      ⟨some 30, none, .ld false 1 (.t 29)⟩, 
      ⟨some 31, none, .eqb true (.t 28) (.t 30)⟩, 
      ⟨some 32, none, .mv (.t 7)⟩, 
      ⟨some 33, none, .call 40 [(1, (.t 31)), (1, (.t 32))]⟩, 
      ⟨some 34, none, .fad 0 (.t 2)⟩, 
      ⟨some 35, none, .ld false 1 (.t 34)⟩, 
      ⟨some 36, none, .mv (.t 8)⟩, 
      ⟨some 37, none, .call 40 [(1, (.t 35)), (1, (.t 36))]⟩, 
      ⟨none, none, .st 2 (.t 4) (.t 33)⟩, 
      ⟨none, none, .st 2 (.t 5) (.t 37)⟩, 
      ⟨some 6, none, .mv (.k (.i .i64 0))⟩])
  (.ret)))))
theorem rzquo_spec (s t : Bool) (a b : List Nat) (ha : Wd a) (hb : Wd b) (la : a.length ≤ 100000000) (lb : b.length ≤ 100000000) :
    AFun Try.prog J0 13 [zL s a, zL t b] (.t [zN (zq (zv s a) (zv t b)), zN (zr (zv s a) (zv t b)), .i .i64 (ze (zv t b))]) := by
  obtain ⟨m, hm⟩ : ∃ m, m = 100000000 := ⟨_, rfl⟩
  rw [← hm] at la lb
  have h1 := rznorm_spec s a ha (by omega)
  have h2 := rznorm_spec t b hb (by omega)
  have l1 := zv_lt (s := s) ha la
  have l2 := zv_lt (s := t) hb lb
  generalize zv s a = x at *
  generalize zv t b = y at *
  have d1 := dlen l1
  have d2 := dlen l2
  have hq := rquo_spec (dg B x.natAbs) (dg B y.natAbs) (Wd_dg _) (Wd_dg _) (by omega) (by omega)
  rw [nv_dgB, nv_dgB] at hq
  by_cases h0 : y = 0
  · subst h0
    rw [show (0 : Int).natAbs = 0 from rfl, qQ_0, qR_0, qE_0] at hq
    rw [zq_0, zr_0, show ze 0 = 1 from rfl]
    refine AFun.mkc fol J0s Try.func13 rfl (ac := a13) (by kernel_rfl) (rs := [.c 4 true 2, .c 5 true 2, .t 6]) (by kernel_rfl) rfl ?_
    apply vm_start
    unfold a13
    simp only [init_eq, initE]
    have zc1 := h1
    have zc2 := h2
    have zc3 := hq
    repeat first | (refine hK _ ?_; clear hK K) | simp only [Sv, ↓reduceIte, Nat.reduceEqDiff] | ((first | refine vm_reg (fun K hK => ?_) | refine vm_dreg (fun K hK => ?_) | refine vm_dregx (fun K hK => ?_) | refine clp_q ?_ | refine clq_mk (by assumption) ?_); simp (disch := (first | omega | assumption)) only [S1, ↓reduceIte, Nat.reduceEqDiff, Nat.reduceAdd, Nat.reduceMul, Nat.reduceDiv, AOp.sb, AOp.mut, ↓Bool.false_eq_true, beq_self_eq_true, ite_self, Nat.reduceLeDiff, Int.reduceEq, Int.reduceSub, Int.reduceAdd, Int.reduceNeg, Int.reduceLT, Int.reduceLE, Nat.reduceLT, bz_Z5, List.length_nil, zN_0])
    simp (disch := (first | omega | assumption)) only [retC, rsVs_nil, rsVs_cons, rsV_t, rsV_c, rsp_pt, rsq_t, rsq_f, ocons_ss, retV_1, retV_2, retNV_nil, retNV_cons, retOk, retN, ret1, retF, ret1F, V.okArg, and_true, true_and, S1, ↓reduceIte, Nat.reduceEqDiff, Nat.reduceAdd, Nat.reduceMul, Nat.reduceDiv, AOp.sb, AOp.mut, ↓Bool.false_eq_true, beq_self_eq_true, ite_self, Nat.reduceLeDiff, Int.reduceEq, Int.reduceSub, Int.reduceAdd, Int.reduceNeg, Int.reduceLT, Int.reduceLE, Nat.reduceLT, bz_Z5, List.length_nil, zN_0]
  · have hp : 0 < y.natAbs := by omega
    rw [zr_p h0, ze_p h0]
    rw [qE_p hp, qR_p hp, qQ] at hq
    have h3 := rmakeD (!(decide (x < 0) == decide (y < 0))) (Nat.lt_of_le_of_lt (Nat.div_le_self x.natAbs y.natAbs) l1) (by omega)
    have h4 := rmakeD (decide (x < 0)) (Nat.lt_of_le_of_lt (Nat.mod_le x.natAbs y.natAbs) l1) (by omega)
    rw [tdiv_eq, zI_self, zI_self] at h3
    rw [tmod_eq (decide (x < 0)) (decide (y < 0)), zI_self, zI_self] at h4
    refine AFun.mkc fol J0s Try.func13 rfl (ac := a13) (by kernel_rfl) (rs := [.c 4 true 2, .c 5 true 2, .t 6]) (by kernel_rfl) rfl ?_
    apply vm_start
    unfold a13
    simp only [init_eq, initE]
    have zc4 := h1
    have zc5 := h2
    have zc6 := hq
    have zc7 := h3
    have zc8 := h4
    repeat first | (refine hK _ ?_; clear hK K) | simp only [Sv, ↓reduceIte, Nat.reduceEqDiff] | ((first | refine vm_reg (fun K hK => ?_) | refine vm_dreg (fun K hK => ?_) | refine vm_dregx (fun K hK => ?_) | refine clp_q ?_ | refine clq_mk (by assumption) ?_); simp (disch := (first | omega | assumption)) only [S1, ↓reduceIte, Nat.reduceEqDiff, Nat.reduceAdd, Nat.reduceMul, Nat.reduceDiv, AOp.sb, AOp.mut, ↓Bool.false_eq_true, beq_self_eq_true, ite_self, Nat.reduceLeDiff, Int.reduceEq, Int.reduceSub, Int.reduceAdd, Int.reduceNeg, Int.reduceLT, Int.reduceLE, Nat.reduceLT, bz_Z5, List.length_nil, zq])
    simp (disch := (first | omega | assumption)) only [retC, rsVs_nil, rsVs_cons, rsV_t, rsV_c, rsp_pt, rsq_t, rsq_f, ocons_ss, retV_1, retV_2, retNV_nil, retNV_cons, retOk, retN, ret1, retF, ret1F, V.okArg, and_true, true_and, S1, ↓reduceIte, Nat.reduceEqDiff, Nat.reduceAdd, Nat.reduceMul, Nat.reduceDiv, AOp.sb, AOp.mut, ↓Bool.false_eq_true, beq_self_eq_true, ite_self, Nat.reduceLeDiff, Int.reduceEq, Int.reduceSub, Int.reduceAdd, Int.reduceNeg, Int.reduceLT, Int.reduceLE, Nat.reduceLT, bz_Z5, List.length_nil, zq]

-- surd/surdref07.Floor
def a15 : AC := .seq (.reg [⟨some 2, none, .bx 30 (.t 0)⟩, 
      ⟨some 3, none, .bx 30 (.t 1)⟩, 
      ⟨some 4, none, .al 30 [(.b false), (.l 1 [])]⟩, 
      ⟨some 5, none, .mv (.k (.i .i64 0))⟩])
  (.seq (.reg [⟨some 10, none, .ld true 2 (.t 2)⟩, 
      ⟨some 11, none, .ld true 2 (.t 3)⟩, 
      ⟨some 12, none, .call 13 [(1, (.t 10)), (1, (.t 11))]⟩, 
      ⟨some 9, none, .mv (.t 12)⟩, 
      ⟨some 13, none, .ext (.t 9) 0⟩, 
      ⟨some 14, none, .ext (.t 9) 1⟩, 
      ⟨some 15, none, .ext (.t 9) 2⟩, 
      ⟨some 6, none, .al 30 [(.b false), (.l 1 [])]⟩, 
      ⟨some 7, none, .al 30 [(.b false), (.l 1 [])]⟩, 
      ⟨none, none, .st 2 (.t 6) (.t 13)⟩, 
      ⟨none, none, .st 2 (.t 7) (.t 14)⟩, 
      ⟨some 8, none, .mv (.t 15)⟩])
  (.seq (.seq (.reg [⟨some 16, none, .mv (.t 8)⟩, 
        ⟨some 17, none, .bin .neq (.t 16) (.k (.i .i64 0))⟩])
    (.cond (.t 17)
    (.seq (.reg [⟨some 18, none, .bld [(.b false), (.l 1 [])] []⟩, 
          ⟨some 19, none, .mv (.t 8)⟩, 
          ⟨none, none, .st 2 (.t 4) (.t 18)⟩, 
          ⟨some 5, none, .mv (.t 19)⟩])
      (.ret))
    (.skip)))
  (.seq (.seq (.dreg [⟨some 20, none, .ld true 2 (.t 7)⟩, 
        ⟨some 21, none, .call 33 [(1, (.t 20))]⟩, 
        ⟨some 22, none, .ld true 2 (.t 3)⟩, 
        ⟨some 23, none, .call 33 [(1, (.t 22))]⟩, 
        ⟨some 24, none, .bin .mul (.t 21) (.t 23)⟩, 
        ⟨some 25, none, .bin .lss (.t 24) (.k (.i .i64 0))⟩])
    (.cond (.t 25)
    (.dreg [⟨some 26, none, .ld true 2 (.t 6)⟩, 
        ⟨some 27, none, .call 29 [(1, (.k (.i .i64 1)))]⟩, 
        ⟨some 28, none, .call 35 [(1, (.t 26)), (1, (.t 27))]⟩, 
        ⟨none, none, .st 2 (.t 6) (.t 28)⟩])
    (.skip)))
  (.seq (.reg [⟨some 29, none, .ld true 2 (.t 6)⟩, 
      ⟨none, none, .st 2 (.t 4) (.t 29)⟩, 
      ⟨some 5, none, .mv (.k (.i .i64 0))⟩])
  (.ret)))))
theorem fdiv_eq' (x y : Int) (h : y ≠ 0) : x.fdiv y = if sgz (x.tmod y) * sgz y < 0 then x.tdiv y - 1 else x.tdiv y := by
  rw [fdiv_eq x y h]
  have sn : ∀ z : Int, z < 0 → sgz z = -1 := fun z h => if_pos h
  have sp : ∀ z : Int, 0 < z → sgz z = 1 := fun z h => (if_neg (by omega)).trans (if_pos h)
  by_cases h1 : x.tmod y = 0
  · rw [if_neg (fun h => h.1 h1), h1, if_neg (by show ¬ sgz 0 * _ < 0; rw [show sgz 0 = 0 from rfl, Int.zero_mul]; decide)]
  · have hx : sgz (x.tmod y) = sgz x := by
      rcases Int.lt_or_gt_of_ne h1 with h2 | h2
      · have : x < 0 := by
          rcases Int.lt_or_le x 0 with h3 | h3
          · exact h3
          · have := Int.tmod_nonneg y h3; omega
        rw [sn _ h2, sn _ this]
      · have : 0 < x := by
          rcases Int.lt_or_le 0 x with h3 | h3
          · exact h3
          · have h4 : (-x).tmod y = -(x.tmod y) := Int.neg_tmod x y
            have := Int.tmod_nonneg y (show 0 ≤ -x by omega); omega
        rw [sp _ h2, sp _ this]
    have hx0 : x ≠ 0 := fun h0 => h1 (by rw [h0, Int.zero_tmod])
    rw [hx]
    rcases Int.lt_or_gt_of_ne h with hy | hy <;> rcases Int.lt_or_gt_of_ne hx0 with h3 | h3
    · rw [sn x h3, sn y hy, if_neg (fun h => h.2 rfl), if_neg (by decide)]
    · rw [sp x h3, sn y hy, if_pos ⟨h1, by decide⟩, if_pos (by decide)]
    · rw [sn x h3, sp y hy, if_pos ⟨h1, by decide⟩, if_pos (by decide)]
    · rw [sp x h3, sp y hy, if_neg (fun h => h.2 rfl), if_neg (by decide)]
theorem rzfloor_spec (s t : Bool) (a b : List Nat) (m : Nat) (hm : m ≤ 10000000) (ha : Wd a) (hb : Wd b) (la : a.length ≤ m) (lb : b.length ≤ m) :
    AFun Try.prog J0 15 [zL s a, zL t b] (.t [zN ((zv s a).fdiv (zv t b)), .i .i64 (ze (zv t b))]) := by
  have hq := rzquo_spec s t a b ha hb (by omega) (by omega)
  have hl := zv_lt (s := s) ha la
  have hl1 := Nat.lt_of_le_of_lt (zq_abs (zv s a) (zv t b)) hl
  have hl2 := Nat.lt_of_le_of_lt (zr_abs (zv s a) (zv t b)) hl
  have hsr := rzsignN hl2 (by omega)
  have hsb := rzsign_spec t b hb (by omega)
  have hone := rzof_spec 1 (by decide) (by decide)
  have hsu := rzsubN (zabs1 hl1) (one_lt m) (by omega)
  generalize zv s a = x at *
  generalize zv t b = y at *
  by_cases h0 : y = 0
  · subst h0
    rw [zq_0, zr_0, show ze 0 = 1 from rfl] at hq
    rw [Int.fdiv_zero, show ze 0 = 1 from rfl]
    refine AFun.mkc fol J0s Try.func15 rfl (ac := a15) (by kernel_rfl) (rs := [.c 4 true 2, .t 5]) (by kernel_rfl) rfl ?_
    apply vm_start
    unfold a15
    simp only [init_eq, initE]
    have zc9 := hq
    repeat first | (refine hK _ ?_; clear hK K) | simp only [Sv, ↓reduceIte, Nat.reduceEqDiff] | ((first | refine vm_reg (fun K hK => ?_) | refine vm_dreg (fun K hK => ?_) | refine vm_dregx (fun K hK => ?_) | refine clp_q ?_ | refine clq_mk (by assumption) ?_); simp (disch := (first | omega | assumption)) only [S1, ↓reduceIte, Nat.reduceEqDiff, Nat.reduceAdd, Nat.reduceMul, Nat.reduceDiv, AOp.sb, AOp.mut, ↓Bool.false_eq_true, beq_self_eq_true, ite_self, Nat.reduceLeDiff, Int.reduceEq, Int.reduceSub, Int.reduceAdd, Int.reduceNeg, Int.reduceLT, Int.reduceLE, Nat.reduceLT, bz_Z5, List.length_nil, zN_0])
    simp (disch := (first | omega | assumption)) only [retC, rsVs_nil, rsVs_cons, rsV_t, rsV_c, rsp_pt, rsq_t, rsq_f, ocons_ss, retV_1, retV_2, retNV_nil, retNV_cons, retOk, retN, ret1, retF, ret1F, V.okArg, and_true, true_and, S1, ↓reduceIte, Nat.reduceEqDiff, Nat.reduceAdd, Nat.reduceMul, Nat.reduceDiv, AOp.sb, AOp.mut, ↓Bool.false_eq_true, beq_self_eq_true, ite_self, Nat.reduceLeDiff, Int.reduceEq, Int.reduceSub, Int.reduceAdd, Int.reduceNeg, Int.reduceLT, Int.reduceLE, Nat.reduceLT, bz_Z5, List.length_nil, zN_0]
  · rw [fdiv_eq' x y h0, ze_p h0]
    rw [ze_p h0, zr_p h0] at hq
    rw [zr_p h0] at hsr
    have hw := mul1_bnd (sgz_bnd (x.tmod y)) (sgz_bnd y)
    generalize sgz (x.tmod y) = u at *
    generalize sgz y = v at *
    by_cases h2 : u * v < 0
    · rw [if_pos h2]
      refine AFun.mkc fol J0s Try.func15 rfl (ac := a15) (by kernel_rfl) (rs := [.c 4 true 2, .t 5]) (by kernel_rfl) rfl ?_
      apply vm_start
      unfold a15
      simp only [init_eq, initE]
      have zc10 := hq
      have zc11 := hsr
      have zc12 := hsb
      have zc13 := hone
      have zc14 := hsu
      repeat first | (refine hK _ ?_; clear hK K) | simp only [Sv, ↓reduceIte, Nat.reduceEqDiff] | ((first | refine vm_reg (fun K hK => ?_) | refine vm_dreg (fun K hK => ?_) | refine vm_dregx (fun K hK => ?_) | refine clp_q ?_ | refine clq_mk (by assumption) ?_); simp (disch := (first | omega | assumption)) only [S1, ↓reduceIte, Nat.reduceEqDiff, Nat.reduceAdd, Nat.reduceMul, Nat.reduceDiv, AOp.sb, AOp.mut, ↓Bool.false_eq_true, beq_self_eq_true, ite_self, Nat.reduceLeDiff, Int.reduceEq, Int.reduceSub, Int.reduceAdd, Int.reduceNeg, Int.reduceLT, Int.reduceLE, Nat.reduceLT, bz_Z5, List.length_nil, hw, h2, zq])
      simp (disch := (first | omega | assumption)) only [retC, rsVs_nil, rsVs_cons, rsV_t, rsV_c, rsp_pt, rsq_t, rsq_f, ocons_ss, retV_1, retV_2, retNV_nil, retNV_cons, retOk, retN, ret1, retF, ret1F, V.okArg, and_true, true_and, S1, ↓reduceIte, Nat.reduceEqDiff, Nat.reduceAdd, Nat.reduceMul, Nat.reduceDiv, AOp.sb, AOp.mut, ↓Bool.false_eq_true, beq_self_eq_true, ite_self, Nat.reduceLeDiff, Int.reduceEq, Int.reduceSub, Int.reduceAdd, Int.reduceNeg, Int.reduceLT, Int.reduceLE, Nat.reduceLT, bz_Z5, List.length_nil, hw, h2, zq]
    · rw [if_neg h2]
      refine AFun.mkc fol J0s Try.func15 rfl (ac := a15) (by kernel_rfl) (rs := [.c 4 true 2, .t 5]) (by kernel_rfl) rfl ?_
      apply vm_start
      unfold a15
      simp only [init_eq, initE]
      have zc15 := hq
      have zc16 := hsr
      have zc17 := hsb
      repeat first | (refine hK _ ?_; clear hK K) | simp only [Sv, ↓reduceIte, Nat.reduceEqDiff] | ((first | refine vm_reg (fun K hK => ?_) | refine vm_dreg (fun K hK => ?_) | refine vm_dregx (fun K hK => ?_) | refine clp_q ?_ | refine clq_mk (by assumption) ?_); simp (disch := (first | omega | assumption)) only [S1, ↓reduceIte, Nat.reduceEqDiff, Nat.reduceAdd, Nat.reduceMul, Nat.reduceDiv, AOp.sb, AOp.mut, ↓Bool.false_eq_true, beq_self_eq_true, ite_self, Nat.reduceLeDiff, Int.reduceEq, Int.reduceSub, Int.reduceAdd, Int.reduceNeg, Int.reduceLT, Int.reduceLE, Nat.reduceLT, bz_Z5, List.length_nil, hw, h2, zq])
      simp (disch := (first | omega | assumption)) only [retC, rsVs_nil, rsVs_cons, rsV_t, rsV_c, rsp_pt, rsq_t, rsq_f, ocons_ss, retV_1, retV_2, retNV_nil, retNV_cons, retOk, retN, ret1, retF, ret1F, V.okArg, and_true, true_and, S1, ↓reduceIte, Nat.reduceEqDiff, Nat.reduceAdd, Nat.reduceMul, Nat.reduceDiv, AOp.sb, AOp.mut, ↓Bool.false_eq_true, beq_self_eq_true, ite_self, Nat.reduceLeDiff, Int.reduceEq, Int.reduceSub, Int.reduceAdd, Int.reduceNeg, Int.reduceLT, Int.reduceLE, Nat.reduceLT, bz_Z5, List.length_nil, hw, h2, zq]

-- surd/surdref07.Exact
def a17 : AC := .seq (.reg [⟨some 2, none, .bx 30 (.t 0)⟩, 
      ⟨some 3, none, .bx 30 (.t 1)⟩, 
      ⟨some 4, none, .al 30 [(.b false), (.l 1 [])]⟩, 
      ⟨some 5, none, .mv (.k (.i .i64 0))⟩])
  (.seq (.reg [⟨some 10, none, .ld true 2 (.t 2)⟩, 
      ⟨some 11, none, .ld true 2 (.t 3)⟩, 
      ⟨some 12, none, .call 13 [(1, (.t 10)), (1, (.t 11))]⟩, 
      ⟨some 9, none, .mv (.t 12)⟩, 
      ⟨some 13, none, .ext (.t 9) 0⟩, 
      ⟨some 14, none, .ext (.t 9) 1⟩, 
      ⟨some 15, none, .ext (.t 9) 2⟩, 
      ⟨some 6, none, .al 30 [(.b false), (.l 1 [])]⟩, 
      ⟨some 7, none, .al 30 [(.b false), (.l 1 [])]⟩, 
      ⟨none, none, .st 2 (.t 6) (.t 13)⟩, 
      ⟨none, none, .st 2 (.t 7) (.t 14)⟩, 
      ⟨some 8, none, .mv (.t 15)⟩])
  (.seq (.seq (.reg [⟨some 16, none, .mv (.t 8)⟩, 
        ⟨some 17, none, .bin .neq (.t 16) (.k (.i .i64 0))⟩])
    (.cond (.t 17)
    (.seq (.reg [⟨some 18, none, .bld [(.b false), (.l 1 [])] []⟩, 
          ⟨some 19, none, .mv (.t 8)⟩, 
          ⟨none, none, .st 2 (.t 4) (.t 18)⟩, 
          ⟨some 5, none, .mv (.t 19)⟩])
      (.ret))
    (.skip)))
  (.seq (.seq (.reg [⟨some 20, none, .ld true 2 (.t 7)⟩, 
        ⟨some 21, none, .call 33 [(1, (.t 20))]⟩, 
        ⟨some 22, none, .bin .neq (.t 21) (.k (.i .i64 0))⟩])
    (.cond (.t 22)
    (.seq (.reg [⟨some 23, none, .bld [(.b false), (.l 1 [])] []⟩, 
          ⟨none, none, .st 2 (.t 4) (.t 23)⟩, 
          ⟨some 5, none, .mv (.k (.i .i64 4))⟩])
      (.ret))
    (.skip)))
  (.seq (.reg [⟨some 24, none, .ld true 2 (.t 6)⟩, 
      ⟨none, none, .st 2 (.t 4) (.t 24)⟩, 
      ⟨some 5, none, .mv (.k (.i .i64 0))⟩])
  (.ret)))))
theorem rzexact_spec (s t : Bool) (a b : List Nat) (m : Nat) (hm : m ≤ 10000000) (ha : Wd a) (hb : Wd b) (la : a.length ≤ m) (lb : b.length ≤ m) :
    AFun Try.prog J0 17 [zL s a, zL t b] (.t [zN (zxQ (zv s a) (zv t b)), .i .i64 (zxE (zv s a) (zv t b))]) := by
  have hq := rzquo_spec s t a b ha hb (by omega) (by omega)
  have hl := zv_lt (s := s) ha la
  have hl2 := Nat.lt_of_le_of_lt (zr_abs (zv s a) (zv t b)) hl
  have hsr := rzsignN hl2 (by omega)
  generalize zv s a = x at *
  generalize zv t b = y at *
  by_cases h0 : y = 0
  · subst h0
    rw [zq_0, zr_0, show ze 0 = 1 from rfl] at hq
    rw [show zxQ x 0 = 0 from by unfold zxQ; split <;> first | rfl | exact Int.tdiv_zero _, show zxE x 0 = 1 from rfl]
    refine AFun.mkc fol J0s Try.func17 rfl (ac := a17) (by kernel_rfl) (rs := [.c 4 true 2, .t 5]) (by kernel_rfl) rfl ?_
    apply vm_start
    unfold a17
    simp only [init_eq, initE]
    have zc18 := hq
    repeat first | (refine hK _ ?_; clear hK K) | simp only [Sv, ↓reduceIte, Nat.reduceEqDiff] | ((first | refine vm_reg (fun K hK => ?_) | refine vm_dreg (fun K hK => ?_) | refine vm_dregx (fun K hK => ?_) | refine clp_q ?_ | refine clq_mk (by assumption) ?_); simp (disch := (first | omega | assumption)) only [S1, ↓reduceIte, Nat.reduceEqDiff, Nat.reduceAdd, Nat.reduceMul, Nat.reduceDiv, AOp.sb, AOp.mut, ↓Bool.false_eq_true, beq_self_eq_true, ite_self, Nat.reduceLeDiff, Int.reduceEq, Int.reduceSub, Int.reduceAdd, Int.reduceNeg, Int.reduceLT, Int.reduceLE, Nat.reduceLT, bz_Z5, List.length_nil, zN_0])
    simp (disch := (first | omega | assumption)) only [retC, rsVs_nil, rsVs_cons, rsV_t, rsV_c, rsp_pt, rsq_t, rsq_f, ocons_ss, retV_1, retV_2, retNV_nil, retNV_cons, retOk, retN, ret1, retF, ret1F, V.okArg, and_true, true_and, S1, ↓reduceIte, Nat.reduceEqDiff, Nat.reduceAdd, Nat.reduceMul, Nat.reduceDiv, AOp.sb, AOp.mut, ↓Bool.false_eq_true, beq_self_eq_true, ite_self, Nat.reduceLeDiff, Int.reduceEq, Int.reduceSub, Int.reduceAdd, Int.reduceNeg, Int.reduceLT, Int.reduceLE, Nat.reduceLT, bz_Z5, List.length_nil, zN_0]
  · rw [ze_p h0, zr_p h0] at hq
    rw [zr_p h0] at hsr
    by_cases h1 : x.tmod y = 0
    · rw [show zxQ x y = x.tdiv y from if_pos h1, show zxE x y = 0 from (if_neg h0).trans (if_pos h1)]
      rw [h1, show sgz 0 = 0 from rfl] at hsr
      rw [h1] at hq
      refine AFun.mkc fol J0s Try.func17 rfl (ac := a17) (by kernel_rfl) (rs := [.c 4 true 2, .t 5]) (by kernel_rfl) rfl ?_
      apply vm_start
      unfold a17
      simp only [init_eq, initE]
      have zc19 := hq
      have zc20 := hsr
      repeat first | (refine hK _ ?_; clear hK K) | simp only [Sv, ↓reduceIte, Nat.reduceEqDiff] | ((first | refine vm_reg (fun K hK => ?_) | refine vm_dreg (fun K hK => ?_) | refine vm_dregx (fun K hK => ?_) | refine clp_q ?_ | refine clq_mk (by assumption) ?_); simp (disch := (first | omega | assumption)) only [S1, ↓reduceIte, Nat.reduceEqDiff, Nat.reduceAdd, Nat.reduceMul, Nat.reduceDiv, AOp.sb, AOp.mut, ↓Bool.false_eq_true, beq_self_eq_true, ite_self, Nat.reduceLeDiff, Int.reduceEq, Int.reduceSub, Int.reduceAdd, Int.reduceNeg, Int.reduceLT, Int.reduceLE, Nat.reduceLT, bz_Z5, List.length_nil, zq])
      simp (disch := (first | omega | assumption)) only [retC, rsVs_nil, rsVs_cons, rsV_t, rsV_c, rsp_pt, rsq_t, rsq_f, ocons_ss, retV_1, retV_2, retNV_nil, retNV_cons, retOk, retN, ret1, retF, ret1F, V.okArg, and_true, true_and, S1, ↓reduceIte, Nat.reduceEqDiff, Nat.reduceAdd, Nat.reduceMul, Nat.reduceDiv, AOp.sb, AOp.mut, ↓Bool.false_eq_true, beq_self_eq_true, ite_self, Nat.reduceLeDiff, Int.reduceEq, Int.reduceSub, Int.reduceAdd, Int.reduceNeg, Int.reduceLT, Int.reduceLE, Nat.reduceLT, bz_Z5, List.length_nil, zq]
    · have hs : ¬ sgz (x.tmod y) = 0 := by
        unfold sgz; generalize x.tmod y = z at *; split
        · omega
        · split <;> omega
      rw [show zxQ x y = 0 from if_neg h1, show zxE x y = 4 from (if_neg h0).trans (if_neg h1)]
      refine AFun.mkc fol J0s Try.func17 rfl (ac := a17) (by kernel_rfl) (rs := [.c 4 true 2, .t 5]) (by kernel_rfl) rfl ?_
      apply vm_start
      unfold a17
      simp only [init_eq, initE]
      have zc21 := hq
      have zc22 := hsr
      repeat first | (refine hK _ ?_; clear hK K) | simp only [Sv, ↓reduceIte, Nat.reduceEqDiff] | ((first | refine vm_reg (fun K hK => ?_) | refine vm_dreg (fun K hK => ?_) | refine vm_dregx (fun K hK => ?_) | refine clp_q ?_ | refine clq_mk (by assumption) ?_); simp (disch := (first | omega | assumption)) only [S1, ↓reduceIte, Nat.reduceEqDiff, Nat.reduceAdd, Nat.reduceMul, Nat.reduceDiv, AOp.sb, AOp.mut, ↓Bool.false_eq_true, beq_self_eq_true, ite_self, Nat.reduceLeDiff, Int.reduceEq, Int.reduceSub, Int.reduceAdd, Int.reduceNeg, Int.reduceLT, Int.reduceLE, Nat.reduceLT, bz_Z5, List.length_nil, hs, zN_0])
      simp (disch := (first | omega | assumption)) only [retC, rsVs_nil, rsVs_cons, rsV_t, rsV_c, rsp_pt, rsq_t, rsq_f, ocons_ss, retV_1, retV_2, retNV_nil, retNV_cons, retOk, retN, ret1, retF, ret1F, V.okArg, and_true, true_and, S1, ↓reduceIte, Nat.reduceEqDiff, Nat.reduceAdd, Nat.reduceMul, Nat.reduceDiv, AOp.sb, AOp.mut, ↓Bool.false_eq_true, beq_self_eq_true, ite_self, Nat.reduceLeDiff, Int.reduceEq, Int.reduceSub, Int.reduceAdd, Int.reduceNeg, Int.reduceLT, Int.reduceLE, Nat.reduceLT, bz_Z5, List.length_nil, hs, zN_0]

/-! ### with a remainder from 0 on -/
theorem ediv_eq (x y : Int) (h : y ≠ 0) : (x.tmod y < 0 → x.ediv y = x.tdiv y - sgz y ∧ x.emod y = x.tmod y + y.natAbs) ∧ (¬ x.tmod y < 0 → x.ediv y = x.tdiv y ∧ x.emod y = x.tmod y) := by
  have sg1 : y.sign = sgz y := by
    rcases Int.lt_or_gt_of_ne h with hy | hy
    · rw [Int.sign_eq_neg_one_of_neg hy]; exact (if_pos hy).symm
    · rw [Int.sign_eq_one_of_pos hy]; exact ((if_neg (by omega)).trans (if_pos hy)).symm
  refine ⟨fun hn => ?_, fun hn => ?_⟩
  · have hx : ¬ (0 ≤ x ∨ y ∣ x) := by
      rintro (h1 | h1)
      · have := Int.tmod_nonneg y h1; omega
      · rw [Int.tmod_eq_zero_of_dvd h1] at hn; omega
    refine ⟨?_, ?_⟩
    · show x / y = _
      rw [Int.ediv_eq_tdiv, if_neg hx, sg1]
    · show x % y = _
      rw [Int.emod_eq_tmod, if_neg hx]
  · have hx : 0 ≤ x ∨ y ∣ x := by
      rcases Int.lt_or_le x 0 with h1 | h1
      · right
        have h2 : (-x).tmod y = -(x.tmod y) := Int.neg_tmod x y
        have := Int.tmod_nonneg y (show 0 ≤ -x by omega)
        exact Int.dvd_of_tmod_eq_zero (by omega)
      · exact .inl h1
    refine ⟨?_, ?_⟩
    · show x / y = _
      rw [Int.ediv_eq_tdiv, if_pos hx, Int.sub_zero]
    · show x % y = _
      rw [Int.emod_eq_tmod, if_pos hx]; simp
def zdR (x y : Int) : Nat := if y = 0 then 0 else (x.emod y).natAbs
theorem zabs_pos (y : Int) : zI false y.natAbs = (y.natAbs : Int) := rfl
-- surd/zz.Div
def a11 : AC := .seq (.reg [⟨some 2, none, .bx 30 (.t 0)⟩, 
      ⟨some 3, none, .bx 30 (.t 1)⟩, 
      ⟨some 4, none, .al 30 [(.b false), (.l 1 [])]⟩, 
      ⟨some 5, none, .mv (.k .nl)⟩, 
      ⟨some 6, none, .mv (.k (.i .i64 0))⟩])
  (.seq (.reg [⟨some 12, none, .ld true 2 (.t 2)⟩, 
      ⟨some 13, none, .ld true 2 (.t 3)⟩, 
      ⟨some 14, none, .call 14 [(1, (.t 12)), (1, (.t 13))]⟩, 
      ⟨some 11, none, .mv (.t 14)⟩, 
      ⟨some 15, none, .ext (.t 11) 0⟩, 
      ⟨some 16, none, .ext (.t 11) 1⟩, 
      ⟨some 17, none, .ext (.t 11) 2⟩, 
      ⟨some 7, none, .al 30 [(.b false), (.l 1 [])]⟩, 
      ⟨some 8, none, .al 30 [(.b false), (.l 1 [])]⟩, 
      ⟨none, none, .st 2 (.t 7) (.t 15)⟩, 
      ⟨none, none, .st 2 (.t 8) (.t 16)⟩, 
      ⟨some 9, none, .mv (.t 17)⟩])
  (.seq (.seq (.reg [⟨some 18, none, .mv (.t 9)⟩, 
        ⟨some 19, none, .bin .neq (.t 18) (.k (.i .i64 0))⟩])
    (.cond (.t 19)
    (.seq (.reg [⟨some 20, none, .bld [(.b false), (.l 1 [])] []⟩, 
          ⟨some 21, none, .mv (.t 9)⟩, 
          ⟨none, none, .st 2 (.t 4) (.t 20)⟩, 
          ⟨some 5, none, .mv (.k .nl)⟩, 
          ⟨some 6, none, .mv (.t 21)⟩])
      (.ret))
    (.skip)))
  (.seq (.seq (.reg [⟨some 22, none, .fad 0 (.t 8)⟩, 
        ⟨some 23, none, .ld false 1 (.t 22)⟩])
    (.cond (.t 23)
    (.seq (.reg [⟨some 24, none, .call 27 [(1, (.k (.i .i64 1)))]⟩, 
          ⟨some 10, none, .al 30 [(.b false), (.l 1 [])]⟩, 
          ⟨none, none, .st 2 (.t 10) (.t 24)⟩])
      (.seq (.seq (.reg [⟨some 25, none, .ld true 2 (.t 3)⟩, 
            ⟨some 26, none, .call 24 [(1, (.t 25))]⟩, 
            ⟨some 27, none, .bin .lss (.t 26) (.k (.i .i64 0))⟩])
        (.cond (.t 27)
        (.reg [⟨some 28, none, .call 27 [(1, (.k (.i .i64 (-1))))]⟩, 
            ⟨none, none, .st 2 (.t 10) (.t 28)⟩])
        (.skip)))
      (.seq (.reg [⟨some 29, none, .ld true 2 (.t 7)⟩, 
          ⟨some 30, none, .ld true 2 (.t 10)⟩, 
          ⟨some 31, none, .call 21 [(1, (.t 29)), (1, (.t 30))]⟩, 
          ⟨none, none, .st 2 (.t 7) (.t 31)⟩])
      (.dreg [⟨some 32, none, .ld true 2 (.t 8)⟩, 
        ⟨some 33, none, .fad 1 (.t 3)⟩, 
        ⟨some 34, none, .ld false 1 (.t 33)⟩, 
        ⟨some 35, none, .call 37 [(1, (.t 34))]⟩, 
        ⟨some 36, none, .call 36 [(1, (.k (.b false))), (1, (.t 35))]⟩, 
        ⟨some 37, none, .call 19 [(1, (.t 32)), (1, (.t 36))]⟩, 
        ⟨none, none, .st 2 (.t 8) (.t 37)⟩]))))
    (.skip)))
  (.seq (.dregx [(39, 4), (39, 38)] [⟨some 38, none, .ld true 2 (.t 7)⟩, 
      ⟨some 39, none, .fad 1 (.t 8)⟩, 
      ⟨some 40, none, .ld false 1 (.t 39)⟩, 
      ⟨none, none, .st 2 (.t 4) (.t 38)⟩, 
      ⟨some 5, none, .mv (.t 40)⟩, 
      ⟨some 6, none, .mv (.k (.i .i64 0))⟩])
  (.ret)))))
theorem zdiv_spec (s t : Bool) (a b : List Nat) (m : Nat) (hm : m ≤ 10000000) (ha : Wd a) (hb : Wd b) (la : a.length ≤ m) (lb : b.length ≤ m) :
    AFun Try.prog J0 11 [zL s a, zL t b] (.t [zN ((zv s a).ediv (zv t b)), .l 1 (W (dg B (zdR (zv s a) (zv t b)))), .i .i64 (ze (zv t b))]) := by
  have hq := zquo_spec s t a b ha hb (by omega) (by omega)
  have hl := zv_lt (s := s) ha la
  have hlb := zv_lt (s := t) hb lb
  have hl1 := Nat.lt_of_le_of_lt (zq_abs (zv s a) (zv t b)) hl
  have hl2 := Nat.lt_of_le_of_lt (zr_abs (zv s a) (zv t b)) hl
  have hsb := zsign_spec t b hb (by omega)
  have ho1 := zofn_spec 1 (by decide) (by decide)
  have ho2 := zofn_spec (-1) (by decide) (by decide)
  have hno := (norm_dg b hb (by omega)).frozen
  have hof := zof_spec false (nv B b)
  rw [show nv B b = (zv t b).natAbs from (zv_abs t b).symm] at hno hof
  generalize zv s a = x at *
  generalize zv t b = y at *
  by_cases h0 : y = 0
  · subst h0
    rw [zq_0, zr_0, show ze 0 = 1 from rfl] at hq
    rw [show x.ediv 0 = 0 from Int.ediv_zero x, show zdR x 0 = 0 from rfl, dg_zero, show ze 0 = 1 from rfl]
    refine AFun.mkc fol J0s Try.func11 rfl (ac := a11) (by kernel_rfl) (rs := [.c 4 true 2, .t 5, .t 6]) (by kernel_rfl) rfl ?_
    apply vm_start
    unfold a11
    simp only [init_eq, initE]
    have zc23 := hq
    repeat first | (refine hK _ ?_; clear hK K) | simp only [Sv, ↓reduceIte, Nat.reduceEqDiff] | ((first | refine vm_reg (fun K hK => ?_) | refine vm_dreg (fun K hK => ?_) | refine vm_dregx (fun K hK => ?_) | refine clp_q ?_ | refine clq_mk (by assumption) ?_); simp (disch := (first | omega | assumption)) only [S1, ↓reduceIte, Nat.reduceEqDiff, Nat.reduceAdd, Nat.reduceMul, Nat.reduceDiv, AOp.sb, AOp.mut, ↓Bool.false_eq_true, beq_self_eq_true, ite_self, Nat.reduceLeDiff, Int.reduceEq, Int.reduceSub, Int.reduceAdd, Int.reduceNeg, Int.reduceLT, Int.reduceLE, Nat.reduceLT, bz_Z5, List.length_nil, zN_0])
    simp (disch := (first | omega | assumption)) only [retC, rsVs_nil, rsVs_cons, rsV_t, rsV_c, rsp_pt, rsq_t, rsq_f, ocons_ss, retV_1, retV_2, retNV_nil, retNV_cons, retOk, retN, ret1, retF, ret1F, V.okArg, and_true, true_and, S1, ↓reduceIte, Nat.reduceEqDiff, Nat.reduceAdd, Nat.reduceMul, Nat.reduceDiv, AOp.sb, AOp.mut, ↓Bool.false_eq_true, beq_self_eq_true, ite_self, Nat.reduceLeDiff, Int.reduceEq, Int.reduceSub, Int.reduceAdd, Int.reduceNeg, Int.reduceLT, Int.reduceLE, Nat.reduceLT, bz_Z5, List.length_nil, zN_0]
  · obtain ⟨e1, e2⟩ := ediv_eq x y h0
    rw [ze_p h0, zr_p h0] at hq
    rw [zr_p h0] at hl2
    rw [ze_p h0, show zdR x y = (x.emod y).natAbs from if_neg h0]
    by_cases h1 : x.tmod y < 0
    · obtain ⟨e3, e4⟩ := e1 h1
      rw [e3, e4]
      have had := zaddN (y := (y.natAbs : Int)) hl2 (by rw [Int.natAbs_natCast]; exact hlb) (by omega)
      have hb1 : decide (x.tmod y < 0) = true := decide_eq_true h1
      rw [show zN (x.tmod y) = .g [.b true, .l 1 (W (dg B (x.tmod y).natAbs))] from by show V.g [V.b (decide _), _] = _; rw [hb1]] at had
      rw [zabs_pos] at hof
      by_cases h2 : y < 0
      · have hs : sgz y = -1 := if_pos h2
        have hsu := zsubN (y := -1) (zabs1 hl1) (show (-1 : Int).natAbs < B ^ (m + 1) from one_lt m) (by omega)
        rw [hs] at hsb ⊢
        refine AFun.mkc fol J0s Try.func11 rfl (ac := a11) (by kernel_rfl) (rs := [.c 4 true 2, .t 5, .t 6]) (by kernel_rfl) rfl ?_
        apply vm_start
        unfold a11
        simp only [init_eq, initE]
        have zc24 := hq
        have zc25 := ho1
        have zc26 := hsb
        have zc27 := ho2
        have zc28 := hsu
        have zc29 := hno
        have zc30 := hof
        have zc31 := had
        repeat first | (refine hK _ ?_; clear hK K) | simp only [Sv, ↓reduceIte, Nat.reduceEqDiff] | ((first | refine vm_reg (fun K hK => ?_) | refine vm_dreg (fun K hK => ?_) | refine vm_dregx (fun K hK => ?_) | refine clp_q ?_ | refine clq_mk (by assumption) ?_); simp (disch := (first | omega | assumption)) only [S1, ↓reduceIte, Nat.reduceEqDiff, Nat.reduceAdd, Nat.reduceMul, Nat.reduceDiv, AOp.sb, AOp.mut, ↓Bool.false_eq_true, beq_self_eq_true, ite_self, Nat.reduceLeDiff, Int.reduceEq, Int.reduceSub, Int.reduceAdd, Int.reduceNeg, Int.reduceLT, Int.reduceLE, Nat.reduceLT, bz_Z5, List.length_nil, hb1, zq])
        simp (disch := (first | omega | assumption)) only [retC, rsVs_nil, rsVs_cons, rsV_t, rsV_c, rsp_pt, rsq_t, rsq_f, ocons_ss, retV_1, retV_2, retNV_nil, retNV_cons, retOk, retN, ret1, retF, ret1F, V.okArg, and_true, true_and, S1, ↓reduceIte, Nat.reduceEqDiff, Nat.reduceAdd, Nat.reduceMul, Nat.reduceDiv, AOp.sb, AOp.mut, ↓Bool.false_eq_true, beq_self_eq_true, ite_self, Nat.reduceLeDiff, Int.reduceEq, Int.reduceSub, Int.reduceAdd, Int.reduceNeg, Int.reduceLT, Int.reduceLE, Nat.reduceLT, bz_Z5, List.length_nil, hb1, zq]
      · have hs : sgz y = 1 := (if_neg h2).trans (if_pos (by omega))
        have hsu := zsubN (y := 1) (zabs1 hl1) (one_lt m) (by omega)
        rw [hs] at hsb ⊢
        refine AFun.mkc fol J0s Try.func11 rfl (ac := a11) (by kernel_rfl) (rs := [.c 4 true 2, .t 5, .t 6]) (by kernel_rfl) rfl ?_
        apply vm_start
        unfold a11
        simp only [init_eq, initE]
        have zc32 := hq
        have zc33 := ho1
        have zc34 := hsb
        have zc35 := hsu
        have zc36 := hno
        have zc37 := hof
        have zc38 := had
        repeat first | (refine hK _ ?_; clear hK K) | simp only [Sv, ↓reduceIte, Nat.reduceEqDiff] | ((first | refine vm_reg (fun K hK => ?_) | refine vm_dreg (fun K hK => ?_) | refine vm_dregx (fun K hK => ?_) | refine clp_q ?_ | refine clq_mk (by assumption) ?_); simp (disch := (first | omega | assumption)) only [S1, ↓reduceIte, Nat.reduceEqDiff, Nat.reduceAdd, Nat.reduceMul, Nat.reduceDiv, AOp.sb, AOp.mut, ↓Bool.false_eq_true, beq_self_eq_true, ite_self, Nat.reduceLeDiff, Int.reduceEq, Int.reduceSub, Int.reduceAdd, Int.reduceNeg, Int.reduceLT, Int.reduceLE, Nat.reduceLT, bz_Z5, List.length_nil, hb1, zq])
        simp (disch := (first | omega | assumption)) only [retC, rsVs_nil, rsVs_cons, rsV_t, rsV_c, rsp_pt, rsq_t, rsq_f, ocons_ss, retV_1, retV_2, retNV_nil, retNV_cons, retOk, retN, ret1, retF, ret1F, V.okArg, and_true, true_and, S1, ↓reduceIte, Nat.reduceEqDiff, Nat.reduceAdd, Nat.reduceMul, Nat.reduceDiv, AOp.sb, AOp.mut, ↓Bool.false_eq_true, beq_self_eq_true, ite_self, Nat.reduceLeDiff, Int.reduceEq, Int.reduceSub, Int.reduceAdd, Int.reduceNeg, Int.reduceLT, Int.reduceLE, Nat.reduceLT, bz_Z5, List.length_nil, hb1, zq]
    · obtain ⟨e3, e4⟩ := e2 h1
      rw [e3, e4]
      have hb1 : decide (x.tmod y < 0) = false := decide_eq_false h1
      refine AFun.mkc fol J0s Try.func11 rfl (ac := a11) (by kernel_rfl) (rs := [.c 4 true 2, .t 5, .t 6]) (by kernel_rfl) rfl ?_
      apply vm_start
      unfold a11
      simp only [init_eq, initE]
      have zc39 := hq
      repeat first | (refine hK _ ?_; clear hK K) | simp only [Sv, ↓reduceIte, Nat.reduceEqDiff] | ((first | refine vm_reg (fun K hK => ?_) | refine vm_dreg (fun K hK => ?_) | refine vm_dregx (fun K hK => ?_) | refine clp_q ?_ | refine clq_mk (by assumption) ?_); simp (disch := (first | omega | assumption)) only [S1, ↓reduceIte, Nat.reduceEqDiff, Nat.reduceAdd, Nat.reduceMul, Nat.reduceDiv, AOp.sb, AOp.mut, ↓Bool.false_eq_true, beq_self_eq_true, ite_self, Nat.reduceLeDiff, Int.reduceEq, Int.reduceSub, Int.reduceAdd, Int.reduceNeg, Int.reduceLT, Int.reduceLE, Nat.reduceLT, bz_Z5, List.length_nil, hb1, zq])
      simp (disch := (first | omega | assumption)) only [retC, rsVs_nil, rsVs_cons, rsV_t, rsV_c, rsp_pt, rsq_t, rsq_f, ocons_ss, retV_1, retV_2, retNV_nil, retNV_cons, retOk, retN, ret1, retF, ret1F, V.okArg, and_true, true_and, S1, ↓reduceIte, Nat.reduceEqDiff, Nat.reduceAdd, Nat.reduceMul, Nat.reduceDiv, AOp.sb, AOp.mut, ↓Bool.false_eq_true, beq_self_eq_true, ite_self, Nat.reduceLeDiff, Int.reduceEq, Int.reduceSub, Int.reduceAdd, Int.reduceNeg, Int.reduceLT, Int.reduceLE, Nat.reduceLT, bz_Z5, List.length_nil, hb1, zq]
-- surd/surdref07.Div
def a10 : AC := .seq (.reg [⟨some 2, none, .bx 30 (.t 0)⟩, 
      ⟨some 3, none, .bx 30 (.t 1)⟩, 
      ⟨some 4, none, .al 30 [(.b false), (.l 1 [])]⟩, 
      ⟨some 5, none, .mv (.k .nl)⟩, 
      ⟨some 6, none, .mv (.k (.i .i64 0))⟩])
  (.seq (.reg [⟨some 11, none, .ld true 2 (.t 2)⟩, 
      ⟨some 12, none, .ld true 2 (.t 3)⟩, 
      ⟨some 13, none, .call 13 [(1, (.t 11)), (1, (.t 12))]⟩, 
      ⟨some 10, none, .mv (.t 13)⟩, 
      ⟨some 14, none, .ext (.t 10) 0⟩, 
      ⟨some 15, none, .ext (.t 10) 1⟩, 
      ⟨some 16, none, .ext (.t 10) 2⟩, 
      ⟨some 7, none, .al 30 [(.b false), (.l 1 [])]⟩, 
      ⟨some 8, none, .al 30 [(.b false), (.l 1 [])]⟩, 
      ⟨none, none, .st 2 (.t 7) (.t 14)⟩, 
      ⟨none, none, .st 2 (.t 8) (.t 15)⟩, 
      ⟨some 9, none, .mv (.t 16)⟩])
  (.seq (.seq (.reg [⟨some 17, none, .mv (.t 9)⟩, 
        ⟨some 18, none, .bin .neq (.t 17) (.k (.i .i64 0))⟩])
    (.cond (.t 18)
    (.seq (.reg [⟨some 19, none, .bld [(.b false), (.l 1 [])] []⟩, 
          ⟨some 20, none, .mv (.t 9)⟩, 
          ⟨none, none, .st 2 (.t 4) (.t 19)⟩, 
          ⟨some 5, none, .mv (.k .nl)⟩, 
          ⟨some 6, none, .mv (.t 20)⟩])
      (.ret))
    (.skip)))
  (.seq (.seq (.reg [⟨some 21, none, .fad 0 (.t 8)⟩, 
        ⟨some 22, none, .ld false 1 (.t 21)⟩])
    (.cond (.t 22)
    (.seq (.reg [⟨some 23, none, .ld true 2 (.t 3)⟩, 
          ⟨some 24, none, .call 33 [(1, (.t 23))]⟩, 
          ⟨some 25, none, .bin .lss (.t 24) (.k (.i .i64 0))⟩])
      (.cond (.t 25)
      (.dreg [⟨some 26, none, .ld true 2 (.t 7)⟩, 
          ⟨some 27, none, .call 29 [(1, (.k (.i .i64 1)))]⟩, 
          ⟨some 28, none, .call 34 [(1, (.t 26)), (1, (.t 27))]⟩, 
          ⟨some 29, none, .ld true 2 (.t 8)⟩, 
          ⟨some 30, none, .ld true 2 (.t 3)⟩, 
          ⟨some 31, none, .call 35 [(1, (.t 29)), (1, (.t 30))]⟩, 
          ⟨none, none, .st 2 (.t 7) (.t 28)⟩, 
          ⟨none, none, .st 2 (.t 8) (.t 31)⟩])
      (.dreg [⟨some 32, none, .ld true 2 (.t 7)⟩, 
          ⟨some 33, none, .call 29 [(1, (.k (.i .i64 1)))]⟩, 
          ⟨some 34, none, .call 35 [(1, (.t 32)), (1, (.t 33))]⟩, 
          ⟨some 35, none, .ld true 2 (.t 8)⟩, 
          ⟨some 36, none, .ld true 2 (.t 3)⟩, 
          ⟨some 37, none, .call 34 [(1, (.t 35)), (1, (.t 36))]⟩, 
          ⟨none, none, .st 2 (.t 7) (.t 34)⟩, 
          ⟨none, none, .st 2 (.t 8) (.t 37)⟩])))
    (.skip)))
  (.seq (.dregx [(39, 4), (39, 38)] [⟨some 38, none, .ld true 2 (.t 7)⟩, 
      ⟨some 39, none, .fad 1 (.t 8)⟩, 
      ⟨some 40, none, .ld false 1 (.t 39)⟩, 
      ⟨none, none, .st 2 (.t 4) (.t 38)⟩, 
      ⟨some 5, none, .mv (.t 40)⟩, 
      ⟨some 6, none, .mv (.k (.i .i64 0))⟩])
  (.ret)))))
theorem rzdiv_spec (s t : Bool) (a b : List Nat) (m : Nat) (hm : m ≤ 10000000) (ha : Wd a) (hb : Wd b) (la : a.length ≤ m) (lb : b.length ≤ m) :
    AFun Try.prog J0 10 [zL s a, zL t b] (.t [zN ((zv s a).ediv (zv t b)), .l 1 (W (dg B (zdR (zv s a) (zv t b)))), .i .i64 (ze (zv t b))]) := by
  have hq := rzquo_spec s t a b ha hb (by omega) (by omega)
  have hl := zv_lt (s := s) ha la
  have hlb := zv_lt (s := t) hb lb
  have hl1 := Nat.lt_of_le_of_lt (zq_abs (zv s a) (zv t b)) hl
  have hl2 := Nat.lt_of_le_of_lt (zr_abs (zv s a) (zv t b)) hl
  have hsb := rzsign_spec t b hb (by omega)
  have ho1 := rzof_spec 1 (by decide) (by decide)
  have had0 := rzadd_spec (decide (zr (zv s a) (zv t b) < 0)) t (dg B (zr (zv s a) (zv t b)).natAbs) b (Wd_dg _) hb (Nat.le_trans (dlen hl2) (by omega)) (by omega)
  have hsu0 := rzsub_spec (decide (zr (zv s a) (zv t b) < 0)) t (dg B (zr (zv s a) (zv t b)).natAbs) b (Wd_dg _) hb (Nat.le_trans (dlen hl2) (by omega)) (by omega)
  rw [zv_N] at had0 hsu0
  generalize zv s a = x at *
  generalize zv t b = y at *
  by_cases h0 : y = 0
  · subst h0
    rw [zq_0, zr_0, show ze 0 = 1 from rfl] at hq
    rw [show x.ediv 0 = 0 from Int.ediv_zero x, show zdR x 0 = 0 from rfl, dg_zero, show ze 0 = 1 from rfl]
    refine AFun.mkc fol J0s Try.func10 rfl (ac := a10) (by kernel_rfl) (rs := [.c 4 true 2, .t 5, .t 6]) (by kernel_rfl) rfl ?_
    apply vm_start
    unfold a10
    simp only [init_eq, initE]
    have zc40 := hq
    repeat first | (refine hK _ ?_; clear hK K) | simp only [Sv, ↓reduceIte, Nat.reduceEqDiff] | ((first | refine vm_reg (fun K hK => ?_) | refine vm_dreg (fun K hK => ?_) | refine vm_dregx (fun K hK => ?_) | refine clp_q ?_ | refine clq_mk (by assumption) ?_); simp (disch := (first | omega | assumption)) only [S1, ↓reduceIte, Nat.reduceEqDiff, Nat.reduceAdd, Nat.reduceMul, Nat.reduceDiv, AOp.sb, AOp.mut, ↓Bool.false_eq_true, beq_self_eq_true, ite_self, Nat.reduceLeDiff, Int.reduceEq, Int.reduceSub, Int.reduceAdd, Int.reduceNeg, Int.reduceLT, Int.reduceLE, Nat.reduceLT, bz_Z5, List.length_nil, zN_0])
    simp (disch := (first | omega | assumption)) only [retC, rsVs_nil, rsVs_cons, rsV_t, rsV_c, rsp_pt, rsq_t, rsq_f, ocons_ss, retV_1, retV_2, retNV_nil, retNV_cons, retOk, retN, ret1, retF, ret1F, V.okArg, and_true, true_and, S1, ↓reduceIte, Nat.reduceEqDiff, Nat.reduceAdd, Nat.reduceMul, Nat.reduceDiv, AOp.sb, AOp.mut, ↓Bool.false_eq_true, beq_self_eq_true, ite_self, Nat.reduceLeDiff, Int.reduceEq, Int.reduceSub, Int.reduceAdd, Int.reduceNeg, Int.reduceLT, Int.reduceLE, Nat.reduceLT, bz_Z5, List.length_nil, zN_0]
  · obtain ⟨e1, e2⟩ := ediv_eq x y h0
    rw [ze_p h0, zr_p h0] at hq
    rw [zr_p h0] at had0 hsu0
    rw [ze_p h0, show zdR x y = (x.emod y).natAbs from if_neg h0]
    by_cases h1 : x.tmod y < 0
    · obtain ⟨e3, e4⟩ := e1 h1
      rw [e3, e4]
      have hb1 : decide (x.tmod y < 0) = true := decide_eq_true h1
      rw [hb1] at had0 hsu0
      by_cases h2 : y < 0
      · have hs : sgz y = -1 := if_pos h2
        have hsu := rzaddN (y := 1) (zabs1 hl1) (one_lt m) (by omega)
        rw [hs] at hsb ⊢
        rw [show x.tdiv y - -1 = x.tdiv y + 1 from by omega, show x.tmod y + (y.natAbs : Int) = x.tmod y - y from by omega]
        refine AFun.mkc fol J0s Try.func10 rfl (ac := a10) (by kernel_rfl) (rs := [.c 4 true 2, .t 5, .t 6]) (by kernel_rfl) rfl ?_
        apply vm_start
        unfold a10
        simp only [init_eq, initE]
        have zc41 := hq
        have zc42 := hsb
        have zc43 := ho1
        have zc44 := hsu
        have zc45 := hsu0
        repeat first | (refine hK _ ?_; clear hK K) | simp only [Sv, ↓reduceIte, Nat.reduceEqDiff] | ((first | refine vm_reg (fun K hK => ?_) | refine vm_dreg (fun K hK => ?_) | refine vm_dregx (fun K hK => ?_) | refine clp_q ?_ | refine clq_mk (by assumption) ?_); simp (disch := (first | omega | assumption)) only [S1, ↓reduceIte, Nat.reduceEqDiff, Nat.reduceAdd, Nat.reduceMul, Nat.reduceDiv, AOp.sb, AOp.mut, ↓Bool.false_eq_true, beq_self_eq_true, ite_self, Nat.reduceLeDiff, Int.reduceEq, Int.reduceSub, Int.reduceAdd, Int.reduceNeg, Int.reduceLT, Int.reduceLE, Nat.reduceLT, bz_Z5, List.length_nil, hb1, zq])
        simp (disch := (first | omega | assumption)) only [retC, rsVs_nil, rsVs_cons, rsV_t, rsV_c, rsp_pt, rsq_t, rsq_f, ocons_ss, retV_1, retV_2, retNV_nil, retNV_cons, retOk, retN, ret1, retF, ret1F, V.okArg, and_true, true_and, S1, ↓reduceIte, Nat.reduceEqDiff, Nat.reduceAdd, Nat.reduceMul, Nat.reduceDiv, AOp.sb, AOp.mut, ↓Bool.false_eq_true, beq_self_eq_true, ite_self, Nat.reduceLeDiff, Int.reduceEq, Int.reduceSub, Int.reduceAdd, Int.reduceNeg, Int.reduceLT, Int.reduceLE, Nat.reduceLT, bz_Z5, List.length_nil, hb1, zq]
      · have hs : sgz y = 1 := (if_neg h2).trans (if_pos (by omega))
        have hsu := rzsubN (y := 1) (zabs1 hl1) (one_lt m) (by omega)
        rw [hs] at hsb ⊢
        rw [show x.tmod y + (y.natAbs : Int) = x.tmod y + y from by omega]
        refine AFun.mkc fol J0s Try.func10 rfl (ac := a10) (by kernel_rfl) (rs := [.c 4 true 2, .t 5, .t 6]) (by kernel_rfl) rfl ?_
        apply vm_start
        unfold a10
        simp only [init_eq, initE]
        have zc46 := hq
        have zc47 := hsb
        have zc48 := ho1
        have zc49 := hsu
        have zc50 := had0
        repeat first | (refine hK _ ?_; clear hK K) | simp only [Sv, ↓reduceIte, Nat.reduceEqDiff] | ((first | refine vm_reg (fun K hK => ?_) | refine vm_dreg (fun K hK => ?_) | refine vm_dregx (fun K hK => ?_) | refine clp_q ?_ | refine clq_mk (by assumption) ?_); simp (disch := (first | omega | assumption)) only [S1, ↓reduceIte, Nat.reduceEqDiff, Nat.reduceAdd, Nat.reduceMul, Nat.reduceDiv, AOp.sb, AOp.mut, ↓Bool.false_eq_true, beq_self_eq_true, ite_self, Nat.reduceLeDiff, Int.reduceEq, Int.reduceSub, Int.reduceAdd, Int.reduceNeg, Int.reduceLT, Int.reduceLE, Nat.reduceLT, bz_Z5, List.length_nil, hb1, zq])
        simp (disch := (first | omega | assumption)) only [retC, rsVs_nil, rsVs_cons, rsV_t, rsV_c, rsp_pt, rsq_t, rsq_f, ocons_ss, retV_1, retV_2, retNV_nil, retNV_cons, retOk, retN, ret1, retF, ret1F, V.okArg, and_true, true_and, S1, ↓reduceIte, Nat.reduceEqDiff, Nat.reduceAdd, Nat.reduceMul, Nat.reduceDiv, AOp.sb, AOp.mut, ↓Bool.false_eq_true, beq_self_eq_true, ite_self, Nat.reduceLeDiff, Int.reduceEq, Int.reduceSub, Int.reduceAdd, Int.reduceNeg, Int.reduceLT, Int.reduceLE, Nat.reduceLT, bz_Z5, List.length_nil, hb1, zq]
    · obtain ⟨e3, e4⟩ := e2 h1
      rw [e3, e4]
      have hb1 : decide (x.tmod y < 0) = false := decide_eq_false h1
      refine AFun.mkc fol J0s Try.func10 rfl (ac := a10) (by kernel_rfl) (rs := [.c 4 true 2, .t 5, .t 6]) (by kernel_rfl) rfl ?_
      apply vm_start
      unfold a10
      simp only [init_eq, initE]
      have zc51 := hq
      repeat first | (refine hK _ ?_; clear hK K) | simp only [Sv, ↓reduceIte, Nat.reduceEqDiff] | ((first | refine vm_reg (fun K hK => ?_) | refine vm_dreg (fun K hK => ?_) | refine vm_dregx (fun K hK => ?_) | refine clp_q ?_ | refine clq_mk (by assumption) ?_); simp (disch := (first | omega | assumption)) only [S1, ↓reduceIte, Nat.reduceEqDiff, Nat.reduceAdd, Nat.reduceMul, Nat.reduceDiv, AOp.sb, AOp.mut, ↓Bool.false_eq_true, beq_self_eq_true, ite_self, Nat.reduceLeDiff, Int.reduceEq, Int.reduceSub, Int.reduceAdd, Int.reduceNeg, Int.reduceLT, Int.reduceLE, Nat.reduceLT, bz_Z5, List.length_nil, hb1, zq])
      simp (disch := (first | omega | assumption)) only [retC, rsVs_nil, rsVs_cons, rsV_t, rsV_c, rsp_pt, rsq_t, rsq_f, ocons_ss, retV_1, retV_2, retNV_nil, retNV_cons, retOk, retN, ret1, retF, ret1F, V.okArg, and_true, true_and, S1, ↓reduceIte, Nat.reduceEqDiff, Nat.reduceAdd, Nat.reduceMul, Nat.reduceDiv, AOp.sb, AOp.mut, ↓Bool.false_eq_true, beq_self_eq_true, ite_self, Nat.reduceLeDiff, Int.reduceEq, Int.reduceSub, Int.reduceAdd, Int.reduceNeg, Int.reduceLT, Int.reduceLE, Nat.reduceLT, bz_Z5, List.length_nil, hb1, zq]
end Go.Proofs.Ytfhgnlkcecogcaa
