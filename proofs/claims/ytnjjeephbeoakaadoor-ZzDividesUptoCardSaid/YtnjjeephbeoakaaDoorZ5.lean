/-
  zz, surdref07: quotients.
-/
import Derived.Test.YtnjjeephbeoakaaDoorZ4
namespace Go.Proofs.YtnjjeephbeoakaaDoor
open Go Go.RowKit Ab
set_option linter.unusedSimpArgs false
set_option linter.unusedVariables false
set_option maxHeartbeats 10000000
theorem bz_Z5 : type_of% (And.intro @Bool.false_and (And.intro @wi (And.intro @tn_nat (And.intro @Nat.div_one (And.intro @Nat.mul_one (And.intro @W_len (And.intro @W_nf (And.intro @W_cell (And.intro @W_nil (And.intro @W_get (@nf_g))))))))))) := And.intro @Bool.false_and (And.intro @wi (And.intro @tn_nat (And.intro @Nat.div_one (And.intro @Nat.mul_one (And.intro @W_len (And.intro @W_nf (And.intro @W_cell (And.intro @W_nil (And.intro @W_get (@nf_g))))))))))

theorem sgz_neg {z : Int} : (sgz z < 0) = (z < 0) := by
  unfold sgz; split
  · rename_i h; exact propext ⟨fun _ => h, fun _ => by decide⟩
  · rename_i h; split <;> exact propext ⟨fun h' => absurd h' (by decide), fun h' => absurd h' h⟩

theorem fdiv_eq' (x y : Int) (h : y ≠ 0) : x.fdiv y = if sgz (x.tmod y) * sgz y < 0 then x.tdiv y - 1 else x.tdiv y := by
  rw [fdiv_eq x y h]
  have sn : ∀ z : Int, z < 0 → sgz z = -1 := fun z h => if_pos h
  have sp : ∀ z : Int, 0 < z → sgz z = 1 := fun z h => (if_neg (by omega)).trans (if_pos h)
  by_cases h1 : x.tmod y = 0
  · rw [if_neg (fun h => h.1 h1), h1, if_neg (by show ¬ sgz 0 * _ < 0; rw [show sgz 0 = 0 from rfl, Int.zero_mul]; decide)]
  · have hx : sgz (x.tmod y) = sgz x := by
      rcases Int.lt_or_gt_of_ne h1 with h2 | h2
      · have : x < 0 := by
          rcases Int.lt_or_le x 0 with h3 | h3
          · exact h3
          · have := Int.tmod_nonneg y h3; omega
        rw [sn _ h2, sn _ this]
      · have : 0 < x := by
          rcases Int.lt_or_le 0 x with h3 | h3
          · exact h3
          · have h4 : (-x).tmod y = -(x.tmod y) := Int.neg_tmod x y
            have := Int.tmod_nonneg y (show 0 ≤ -x by omega); omega
        rw [sp _ h2, sp _ this]
    have hx0 : x ≠ 0 := fun h0 => h1 (by rw [h0, Int.zero_tmod])
    rw [hx]
    rcases Int.lt_or_gt_of_ne h with hy | hy <;> rcases Int.lt_or_gt_of_ne hx0 with h3 | h3
    · rw [sn x h3, sn y hy, if_neg (fun h => h.2 rfl), if_neg (by decide)]
    · rw [sp x h3, sn y hy, if_pos ⟨h1, by decide⟩, if_pos (by decide)]
    · rw [sn x h3, sp y hy, if_pos ⟨h1, by decide⟩, if_pos (by decide)]
    · rw [sp x h3, sp y hy, if_neg (fun h => h.2 rfl), if_neg (by decide)]
/-! ### with a remainder from 0 on -/
theorem ediv_eq (x y : Int) (h : y ≠ 0) : (x.tmod y < 0 → x.ediv y = x.tdiv y - sgz y ∧ x.emod y = x.tmod y + y.natAbs) ∧ (¬ x.tmod y < 0 → x.ediv y = x.tdiv y ∧ x.emod y = x.tmod y) := by
  have sg1 : y.sign = sgz y := by
    rcases Int.lt_or_gt_of_ne h with hy | hy
    · rw [Int.sign_eq_neg_one_of_neg hy]; exact (if_pos hy).symm
    · rw [Int.sign_eq_one_of_pos hy]; exact ((if_neg (by omega)).trans (if_pos hy)).symm
  refine ⟨fun hn => ?_, fun hn => ?_⟩
  · have hx : ¬ (0 ≤ x ∨ y ∣ x) := by
      rintro (h1 | h1)
      · have := Int.tmod_nonneg y h1; omega
      · rw [Int.tmod_eq_zero_of_dvd h1] at hn; omega
    refine ⟨?_, ?_⟩
    · show x / y = _
      rw [Int.ediv_eq_tdiv, if_neg hx, sg1]
    · show x % y = _
      rw [Int.emod_eq_tmod, if_neg hx]
  · have hx : 0 ≤ x ∨ y ∣ x := by
      rcases Int.lt_or_le x 0 with h1 | h1
      · right
        have h2 : (-x).tmod y = -(x.tmod y) := Int.neg_tmod x y
        have := Int.tmod_nonneg y (show 0 ≤ -x by omega)
        exact Int.dvd_of_tmod_eq_zero (by omega)
      · exact .inl h1
    refine ⟨?_, ?_⟩
    · show x / y = _
      rw [Int.ediv_eq_tdiv, if_pos hx, Int.sub_zero]
    · show x % y = _
      rw [Int.emod_eq_tmod, if_pos hx]; simp
def zdR (x y : Int) : Nat := if y = 0 then 0 else (x.emod y).natAbs
theorem zabs_pos (y : Int) : zI false y.natAbs = (y.natAbs : Int) := rfl
-- surd/zz.Div
def a19 : AC := .seq (.reg [⟨some 2, none, .bx 25 (.t 0)⟩, 
      ⟨some 3, none, .bx 25 (.t 1)⟩, 
      ⟨some 4, none, .al 25 [(.b false), (.l 1 [])]⟩, 
      ⟨some 5, none, .mv (.k .nl)⟩, 
      ⟨some 6, none, .mv (.k (.i .i64 0))⟩])
  (.seq (.reg [⟨some 12, none, .ld true 2 (.t 2)⟩, 
      ⟨some 13, none, .ld true 2 (.t 3)⟩, 
      ⟨some 14, none, .call 20 [(1, (.t 12)), (1, (.t 13))]⟩, 
      ⟨some 11, none, .mv (.t 14)⟩, 
      ⟨some 15, none, .ext (.t 11) 0⟩, 
      ⟨some 16, none, .ext (.t 11) 1⟩, 
      ⟨some 17, none, .ext (.t 11) 2⟩, 
      ⟨some 7, none, .al 25 [(.b false), (.l 1 [])]⟩, 
      ⟨some 8, none, .al 25 [(.b false), (.l 1 [])]⟩, 
      ⟨none, none, .st 2 (.t 7) (.t 15)⟩, 
      ⟨none, none, .st 2 (.t 8) (.t 16)⟩, 
      ⟨some 9, none, .mv (.t 17)⟩])
  (.seq (.seq (.reg [⟨some 18, none, .mv (.t 9)⟩, 
        ⟨some 19, none, .bin .neq (.t 18) (.k (.i .i64 0))⟩])
    (.cond (.t 19)
    (.seq (.reg [⟨some 20, none, .bld [(.b false), (.l 1 [])] []⟩, 
          ⟨some 21, none, .mv (.t 9)⟩, 
          ⟨none, none, .st 2 (.t 4) (.t 20)⟩, 
          ⟨some 5, none, .mv (.k .nl)⟩, 
          ⟨some 6, none, .mv (.t 21)⟩])
      (.ret))
    (.skip)))
  (.seq (.seq (.reg [⟨some 22, none, .fad 0 (.t 8)⟩, 
        ⟨some 23, none, .ld false 1 (.t 22)⟩])
    (.cond (.t 23)
    (.seq (.reg [⟨some 24, none, .call 14 [(1, (.k (.i .i64 1)))]⟩, 
          ⟨some 10, none, .al 25 [(.b false), (.l 1 [])]⟩, 
          ⟨none, none, .st 2 (.t 10) (.t 24)⟩])
      (.seq (.seq (.reg [⟨some 25, none, .ld true 2 (.t 3)⟩, 
            ⟨some 26, none, .call 18 [(1, (.t 25))]⟩, 
            ⟨some 27, none, .bin .lss (.t 26) (.k (.i .i64 0))⟩])
        (.cond (.t 27)
        (.reg [⟨some 28, none, .call 14 [(1, (.k (.i .i64 (-1))))]⟩, 
            ⟨none, none, .st 2 (.t 10) (.t 28)⟩])
        (.skip)))
      (.seq (.reg [⟨some 29, none, .ld true 2 (.t 7)⟩, 
          ⟨some 30, none, .ld true 2 (.t 10)⟩, 
          ⟨some 31, none, .call 45 [(1, (.t 29)), (1, (.t 30))]⟩, 
          ⟨none, none, .st 2 (.t 7) (.t 31)⟩])
      (.dreg [⟨some 32, none, .ld true 2 (.t 8)⟩, 
        ⟨some 33, none, .fad 1 (.t 3)⟩, 
        ⟨some 34, none, .ld false 1 (.t 33)⟩, 
        ⟨some 35, none, .call 31 [(1, (.t 34))]⟩, 
        ⟨some 36, none, .call 34 [(1, (.k (.b false))), (1, (.t 35))]⟩, 
        ⟨some 37, none, .call 25 [(1, (.t 32)), (1, (.t 36))]⟩, 
        ⟨none, none, .st 2 (.t 8) (.t 37)⟩]))))
    (.skip)))
  (.seq (.dregx [(39, 4), (39, 38)] [⟨some 38, none, .ld true 2 (.t 7)⟩, 
      ⟨some 39, none, .fad 1 (.t 8)⟩, 
      ⟨some 40, none, .ld false 1 (.t 39)⟩, 
      ⟨none, none, .st 2 (.t 4) (.t 38)⟩, 
      ⟨some 5, none, .mv (.t 40)⟩, 
      ⟨some 6, none, .mv (.k (.i .i64 0))⟩])
  (.ret)))))
theorem zdiv_spec (s t : Bool) (a b : List Nat) (m : Nat) (hm : m ≤ 10000000) (ha : Wd a) (hb : Wd b) (la : a.length ≤ m) (lb : b.length ≤ m) :
    AFun Tryd.prog J0 19 [zL s a, zL t b] (.t [zN ((zv s a).ediv (zv t b)), .l 1 (W (dg B (zdR (zv s a) (zv t b)))), .i .i64 (ze (zv t b))]) := by
  have hq := zquo_spec s t a b ha hb (by omega) (by omega)
  have hl := zv_lt (s := s) ha la
  have hlb := zv_lt (s := t) hb lb
  have hl1 := Nat.lt_of_le_of_lt (zq_abs (zv s a) (zv t b)) hl
  have hl2 := Nat.lt_of_le_of_lt (zr_abs (zv s a) (zv t b)) hl
  have hsb := zsign_spec t b hb (by omega)
  have ho1 := zofn_spec 1 (by decide) (by decide)
  have ho2 := zofn_spec (-1) (by decide) (by decide)
  have hno := (norm_dg b hb (by omega)).frozen
  have hof := zof_spec false (nv B b)
  rw [show nv B b = (zv t b).natAbs from (zv_abs t b).symm] at hno hof
  generalize zv s a = x at *
  generalize zv t b = y at *
  by_cases h0 : y = 0
  · subst h0
    rw [zq_0, zr_0, show ze 0 = 1 from rfl] at hq
    rw [show x.ediv 0 = 0 from Int.ediv_zero x, show zdR x 0 = 0 from rfl, dg_zero, show ze 0 = 1 from rfl]
    refine AFun.mkc fol J0s Tryd.func19 rfl (ac := a19) (by kernel_rfl) (rs := [.c 4 true 2, .t 5, .t 6]) (by kernel_rfl) rfl ?_
    apply vm_start
    unfold a19
    simp only [init_eq, initE]
    have zc1 := hq
    repeat first | (refine hK _ ?_; clear hK K) | simp only [Sv, ↓reduceIte, Nat.reduceEqDiff] | ((first | refine vm_reg (fun K hK => ?_) | refine vm_dreg (fun K hK => ?_) | refine vm_dregx (fun K hK => ?_) | refine clp_q ?_ | refine clq_mk (by assumption) ?_); simp (disch := (first | omega | assumption)) only [S1, ↓reduceIte, Nat.reduceEqDiff, Nat.reduceAdd, Nat.reduceMul, Nat.reduceDiv, AOp.sb, AOp.mut, ↓Bool.false_eq_true, beq_self_eq_true, ite_self, Nat.reduceLeDiff, Int.reduceEq, Int.reduceSub, Int.reduceAdd, Int.reduceNeg, Int.reduceLT, Int.reduceLE, Nat.reduceLT, bz_Z5, List.length_nil, zN_0])
    simp (disch := (first | omega | assumption)) only [retC, rsVs_nil, rsVs_cons, rsV_t, rsV_c, rsp_pt, rsq_t, rsq_f, ocons_ss, retV_1, retV_2, retNV_nil, retNV_cons, retOk, retN, ret1, retF, ret1F, V.okArg, and_true, true_and, S1, ↓reduceIte, Nat.reduceEqDiff, Nat.reduceAdd, Nat.reduceMul, Nat.reduceDiv, AOp.sb, AOp.mut, ↓Bool.false_eq_true, beq_self_eq_true, ite_self, Nat.reduceLeDiff, Int.reduceEq, Int.reduceSub, Int.reduceAdd, Int.reduceNeg, Int.reduceLT, Int.reduceLE, Nat.reduceLT, bz_Z5, List.length_nil, zN_0]
  · obtain ⟨e1, e2⟩ := ediv_eq x y h0
    rw [ze_p h0, zr_p h0] at hq
    rw [zr_p h0] at hl2
    rw [ze_p h0, show zdR x y = (x.emod y).natAbs from if_neg h0]
    by_cases h1 : x.tmod y < 0
    · obtain ⟨e3, e4⟩ := e1 h1
      rw [e3, e4]
      have had := zaddN (y := (y.natAbs : Int)) hl2 (by rw [Int.natAbs_natCast]; exact hlb) (by omega)
      have hb1 : decide (x.tmod y < 0) = true := decide_eq_true h1
      rw [show zN (x.tmod y) = .g [.b true, .l 1 (W (dg B (x.tmod y).natAbs))] from by show V.g [V.b (decide _), _] = _; rw [hb1]] at had
      rw [zabs_pos] at hof
      by_cases h2 : y < 0
      · have hs : sgz y = -1 := if_pos h2
        have hsu := zsubN (y := -1) (zabs1 hl1) (show (-1 : Int).natAbs < B ^ (m + 1) from one_lt m) (by omega)
        rw [hs] at hsb ⊢
        refine AFun.mkc fol J0s Tryd.func19 rfl (ac := a19) (by kernel_rfl) (rs := [.c 4 true 2, .t 5, .t 6]) (by kernel_rfl) rfl ?_
        apply vm_start
        unfold a19
        simp only [init_eq, initE]
        have zc2 := hq
        have zc3 := ho1
        have zc4 := hsb
        have zc5 := ho2
        have zc6 := hsu
        have zc7 := hno
        have zc8 := hof
        have zc9 := had
        repeat first | (refine hK _ ?_; clear hK K) | simp only [Sv, ↓reduceIte, Nat.reduceEqDiff] | ((first | refine vm_reg (fun K hK => ?_) | refine vm_dreg (fun K hK => ?_) | refine vm_dregx (fun K hK => ?_) | refine clp_q ?_ | refine clq_mk (by assumption) ?_); simp (disch := (first | omega | assumption)) only [S1, ↓reduceIte, Nat.reduceEqDiff, Nat.reduceAdd, Nat.reduceMul, Nat.reduceDiv, AOp.sb, AOp.mut, ↓Bool.false_eq_true, beq_self_eq_true, ite_self, Nat.reduceLeDiff, Int.reduceEq, Int.reduceSub, Int.reduceAdd, Int.reduceNeg, Int.reduceLT, Int.reduceLE, Nat.reduceLT, bz_Z5, List.length_nil, hb1, zq])
        simp (disch := (first | omega | assumption)) only [retC, rsVs_nil, rsVs_cons, rsV_t, rsV_c, rsp_pt, rsq_t, rsq_f, ocons_ss, retV_1, retV_2, retNV_nil, retNV_cons, retOk, retN, ret1, retF, ret1F, V.okArg, and_true, true_and, S1, ↓reduceIte, Nat.reduceEqDiff, Nat.reduceAdd, Nat.reduceMul, Nat.reduceDiv, AOp.sb, AOp.mut, ↓Bool.false_eq_true, beq_self_eq_true, ite_self, Nat.reduceLeDiff, Int.reduceEq, Int.reduceSub, Int.reduceAdd, Int.reduceNeg, Int.reduceLT, Int.reduceLE, Nat.reduceLT, bz_Z5, List.length_nil, hb1, zq]
      · have hs : sgz y = 1 := (if_neg h2).trans (if_pos (by omega))
        have hsu := zsubN (y := 1) (zabs1 hl1) (one_lt m) (by omega)
        rw [hs] at hsb ⊢
        refine AFun.mkc fol J0s Tryd.func19 rfl (ac := a19) (by kernel_rfl) (rs := [.c 4 true 2, .t 5, .t 6]) (by kernel_rfl) rfl ?_
        apply vm_start
        unfold a19
        simp only [init_eq, initE]
        have zc10 := hq
        have zc11 := ho1
        have zc12 := hsb
        have zc13 := hsu
        have zc14 := hno
        have zc15 := hof
        have zc16 := had
        repeat first | (refine hK _ ?_; clear hK K) | simp only [Sv, ↓reduceIte, Nat.reduceEqDiff] | ((first | refine vm_reg (fun K hK => ?_) | refine vm_dreg (fun K hK => ?_) | refine vm_dregx (fun K hK => ?_) | refine clp_q ?_ | refine clq_mk (by assumption) ?_); simp (disch := (first | omega | assumption)) only [S1, ↓reduceIte, Nat.reduceEqDiff, Nat.reduceAdd, Nat.reduceMul, Nat.reduceDiv, AOp.sb, AOp.mut, ↓Bool.false_eq_true, beq_self_eq_true, ite_self, Nat.reduceLeDiff, Int.reduceEq, Int.reduceSub, Int.reduceAdd, Int.reduceNeg, Int.reduceLT, Int.reduceLE, Nat.reduceLT, bz_Z5, List.length_nil, hb1, zq])
        simp (disch := (first | omega | assumption)) only [retC, rsVs_nil, rsVs_cons, rsV_t, rsV_c, rsp_pt, rsq_t, rsq_f, ocons_ss, retV_1, retV_2, retNV_nil, retNV_cons, retOk, retN, ret1, retF, ret1F, V.okArg, and_true, true_and, S1, ↓reduceIte, Nat.reduceEqDiff, Nat.reduceAdd, Nat.reduceMul, Nat.reduceDiv, AOp.sb, AOp.mut, ↓Bool.false_eq_true, beq_self_eq_true, ite_self, Nat.reduceLeDiff, Int.reduceEq, Int.reduceSub, Int.reduceAdd, Int.reduceNeg, Int.reduceLT, Int.reduceLE, Nat.reduceLT, bz_Z5, List.length_nil, hb1, zq]
    · obtain ⟨e3, e4⟩ := e2 h1
      rw [e3, e4]
      have hb1 : decide (x.tmod y < 0) = false := decide_eq_false h1
      refine AFun.mkc fol J0s Tryd.func19 rfl (ac := a19) (by kernel_rfl) (rs := [.c 4 true 2, .t 5, .t 6]) (by kernel_rfl) rfl ?_
      apply vm_start
      unfold a19
      simp only [init_eq, initE]
      have zc17 := hq
      repeat first | (refine hK _ ?_; clear hK K) | simp only [Sv, ↓reduceIte, Nat.reduceEqDiff] | ((first | refine vm_reg (fun K hK => ?_) | refine vm_dreg (fun K hK => ?_) | refine vm_dregx (fun K hK => ?_) | refine clp_q ?_ | refine clq_mk (by assumption) ?_); simp (disch := (first | omega | assumption)) only [S1, ↓reduceIte, Nat.reduceEqDiff, Nat.reduceAdd, Nat.reduceMul, Nat.reduceDiv, AOp.sb, AOp.mut, ↓Bool.false_eq_true, beq_self_eq_true, ite_self, Nat.reduceLeDiff, Int.reduceEq, Int.reduceSub, Int.reduceAdd, Int.reduceNeg, Int.reduceLT, Int.reduceLE, Nat.reduceLT, bz_Z5, List.length_nil, hb1, zq])
      simp (disch := (first | omega | assumption)) only [retC, rsVs_nil, rsVs_cons, rsV_t, rsV_c, rsp_pt, rsq_t, rsq_f, ocons_ss, retV_1, retV_2, retNV_nil, retNV_cons, retOk, retN, ret1, retF, ret1F, V.okArg, and_true, true_and, S1, ↓reduceIte, Nat.reduceEqDiff, Nat.reduceAdd, Nat.reduceMul, Nat.reduceDiv, AOp.sb, AOp.mut, ↓Bool.false_eq_true, beq_self_eq_true, ite_self, Nat.reduceLeDiff, Int.reduceEq, Int.reduceSub, Int.reduceAdd, Int.reduceNeg, Int.reduceLT, Int.reduceLE, Nat.reduceLT, bz_Z5, List.length_nil, hb1, zq]
end Go.Proofs.YtnjjeephbeoakaaDoor
