/-
  gauss: powers; zpoly.Norm; values.
-/
import Derived.Test.YtfkldohgiifgbaaG2
namespace Go.Proofs.Ytfkldohgiifgbaa
open Go Go.RowKit Ab
set_option linter.unusedSimpArgs false
set_option linter.unusedVariables false
set_option maxHeartbeats 10000000
theorem bz_G3 : type_of% (And.intro @W_len (And.intro @D_len (And.intro @Nat.div_one (And.intro @Nat.mul_one (And.intro @tn_nat (And.intro @W_nf (And.intro @D_nf (And.intro @W_nil (And.intro @D_nil (And.intro @wi (And.intro @nf_g (And.intro @Bool.false_and (And.intro @W_cell (And.intro @ZC_cell (@ZC_nil))))))))))))))) := And.intro @W_len (And.intro @D_len (And.intro @Nat.div_one (And.intro @Nat.mul_one (And.intro @tn_nat (And.intro @W_nf (And.intro @D_nf (And.intro @W_nil (And.intro @D_nil (And.intro @wi (And.intro @nf_g (And.intro @Bool.false_and (And.intro @W_cell (And.intro @ZC_cell (@ZC_nil))))))))))))))

def pE (x : GZ) (n : Int) : Int := if n < 0 then 3 else if gsz x < SM then (if gsz x ^ n.toNat < SM then 0 else 13) else 13
def pF (x : GZ) (n : Int) : GZ := if pE x n = 0 then gpow x n.toNat else (0, 0)
theorem pow_small {s k m : Nat} (hs : 1 ≤ s) (h : k ≤ m) (hm : s ^ m < SM) : s ^ k < SM := Nat.lt_of_le_of_lt (Nat.pow_le_pow_right hs h) hm
theorem pow_big {s m : Nat} (hs : 2 ≤ s) (hm : 50 < m) : ¬ s ^ m < SM := fun h => by
  have h1 : 2 ^ m ≤ s ^ m := Nat.pow_le_pow_left hs m
  have h2 : 2 ^ 51 ≤ 2 ^ m := Nat.pow_le_pow_right (by decide) hm
  simp only [SM] at h; omega
theorem tmod_4 (a : Nat) : (a : Int).tmod 4 = ((a % 4 : Nat) : Int) := rfl
-- surd/gauss.Pow
def a45 : AC := .seq (.reg [⟨some 2, none, .bx 31 (.t 0)⟩, 
      ⟨some 4, none, .al 31 [(.i .i64 0), (.i .i64 0)]⟩, 
      ⟨some 5, none, .mv (.k (.i .i64 0))⟩])
  (.seq (.seq (.reg [⟨some 10, none, .mv (.t 1)⟩, 
        ⟨some 11, none, .bin .lss (.t 10) (.k (.i .i64 0))⟩])
    (.cond (.t 11)
    (.seq (.reg [⟨some 12, none, .bld [(.i .i64 0), (.i .i64 0)] []⟩, 
          ⟨none, none, .st 2 (.t 4) (.t 12)⟩, 
          ⟨some 5, none, .mv (.k (.i .i64 3))⟩])
      (.ret))
    (.skip)))
  (.seq (.reg [⟨some 14, none, .ld true 2 (.t 2)⟩, 
      ⟨some 15, none, .call 35 [(1, (.t 14))]⟩, 
      ⟨some 13, none, .mv (.t 15)⟩, 
      ⟨some 16, none, .ext (.t 13) 0⟩, 
      ⟨some 17, none, .ext (.t 13) 1⟩, 
      ⟨some 6, none, .mv (.t 16)⟩, 
      ⟨some 7, none, .mv (.t 17)⟩])
  (.seq (.seq (.reg [⟨some 18, none, .mv (.t 7)⟩, 
        ⟨some 19, none, .bin .neq (.t 18) (.k (.i .i64 0))⟩])
    (.cond (.t 19)
    (.seq (.reg [⟨some 20, none, .bld [(.i .i64 0), (.i .i64 0)] []⟩, 
          ⟨some 21, none, .mv (.t 7)⟩, 
          ⟨none, none, .st 2 (.t 4) (.t 20)⟩, 
          ⟨some 5, none, .mv (.t 21)⟩])
      (.ret))
    (.skip)))
  (.seq (.blk 0
    (.seq (.reg [⟨some 23, none, .mv (.t 1)⟩, 
          ⟨some 24, none, .bin .eql (.t 23) (.k (.i .i64 0))⟩, 
          ⟨some 22, none, .mv (.t 24)⟩])
      (.cond (.t 22)
      (.seq (.reg [⟨some 25, none, .bld [(.i .i64 0), (.i .i64 0)] [(0, 1, (.k (.i .i64 1))), (1, 1, (.k (.i .i64 0)))]⟩, 
            ⟨none, none, .st 2 (.t 4) (.t 25)⟩, 
            ⟨some 5, none, .mv (.k (.i .i64 0))⟩])
        (.ret))
      (.seq (.reg [⟨some 27, none, .mv (.t 6)⟩, 
            ⟨some 28, none, .bin .eql (.t 27) (.k (.i .i64 0))⟩, 
            ⟨some 26, none, .mv (.t 28)⟩])
        (.cond (.t 26)
        (.seq (.reg [⟨some 29, none, .bld [(.i .i64 0), (.i .i64 0)] []⟩, 
              ⟨none, none, .st 2 (.t 4) (.t 29)⟩, 
              ⟨some 5, none, .mv (.k (.i .i64 0))⟩])
          (.ret))
        (.seq (.reg [⟨some 31, none, .mv (.t 6)⟩, 
              ⟨some 32, none, .bin .eql (.t 31) (.k (.i .i64 1))⟩, 
              ⟨some 30, none, .mv (.t 32)⟩])
          (.cond (.t 30)
          (.reg [⟨some 33, none, .mv (.t 1)⟩, 
              ⟨some 34, none, .bin .rem (.t 33) (.k (.i .i64 4))⟩, 
              ⟨some 1, none, .mv (.t 34)⟩])
          (.seq (.reg [⟨some 36, none, .mv (.t 1)⟩, 
                ⟨some 37, none, .bin .gtr (.t 36) (.k (.i .i64 50))⟩, 
                ⟨some 35, none, .mv (.t 37)⟩])
            (.cond (.t 35)
            (.seq (.reg [⟨some 38, none, .bld [(.i .i64 0), (.i .i64 0)] []⟩, 
                  ⟨none, none, .st 2 (.t 4) (.t 38)⟩, 
                  ⟨some 5, none, .mv (.k (.i .i64 13))⟩])
              (.ret))
            (.skip))))))))))
  (.seq (.reg [⟨some 8, none, .mv (.k (.i .i64 1))⟩, 
      ⟨some 9, none, .mv (.k (.z 1 0))⟩])
  (.seq (.seq (.reg [⟨some 39, none, .mv (.t 1)⟩, 
        ⟨some 40, none, .mv (.k (.i .i64 0))⟩])
    (.blk 1
    (.loop
      (.seq (.reg [⟨some 41, none, .bin .lss (.t 40) (.t 39)⟩])
        (.seq (.cond (.t 41)
          (.skip)
          (.exit 1))
        (.seq (.blk 2
          (.seq (.seq (.reg [⟨some 42, none, .mv (.t 8)⟩, 
                  ⟨some 43, none, .mv (.t 6)⟩, 
                  ⟨some 44, none, .call 66 [(1, (.t 42)), (1, (.t 43))]⟩, 
                  ⟨some 45, none, .un .not (.t 44)⟩])
              (.cond (.t 45)
              (.seq (.reg [⟨some 46, none, .bld [(.i .i64 0), (.i .i64 0)] []⟩, 
                    ⟨none, none, .st 2 (.t 4) (.t 46)⟩, 
                    ⟨some 5, none, .mv (.k (.i .i64 13))⟩])
                (.ret))
              (.skip)))
            (.seq (.reg [⟨some 47, none, .mv (.t 8)⟩, 
                ⟨some 48, none, .mv (.t 6)⟩, 
                ⟨some 49, none, .bin .mul (.t 47) (.t 48)⟩, 
                ⟨some 8, none, .mv (.t 49)⟩])
            (.reg [⟨some 50, none, .mv (.t 9)⟩, 
              ⟨some 51, none, .ld true 2 (.t 2)⟩, 
              ⟨some 52, none, .call 67 [(1, (.t 51))]⟩, 
              ⟨some 53, none, .pur (.nm .zmul) [(.t 50), (.t 52)]⟩, 
              ⟨some 9, none, .mv (.t 53)⟩]))))
        (.reg [⟨some 54, none, .bin .add (.t 40) (.k (.i .i64 1))⟩, 
          ⟨some 40, none, .mv (.t 54)⟩])))))))
  (.seq (.reg [⟨some 55, none, .mv (.t 9)⟩, 
      ⟨some 56, none, .call 68 [(1, (.t 55))]⟩, 
      ⟨none, none, .st 2 (.t 4) (.t 56)⟩, 
      ⟨some 5, none, .mv (.k (.i .i64 0))⟩])
  (.ret))))))))
theorem gpowS (x : GZ) (n : Int) (hn : Pi n) : AFun Try.prog J0 45 [nV x, .i .i64 n] (.t [nV (pF x n), .i .i64 (pE x n)]) := by
  by_cases h0 : n < 0
  · have e : pE x n = 3 := if_pos h0
    rw [show pF x n = (0, 0) from if_neg (by rw [e]; decide), e]
    simp only [nV]
    refine AFun.mkc fol J0s Try.func45 rfl (ac := a45) (by kernel_rfl) (rs := [.c 4 true 2, .t 5]) (by kernel_rfl) rfl ?_
    apply vm_start
    unfold a45
    simp only [init_eq, initE]
    repeat first
      | (refine hK _ ?_; clear hK K)
      | ((first | refine vm_reg (fun K hK => ?_) | refine vm_dreg (fun K hK => ?_)); simp (disch := (first | omega | assumption)) only [S1, ↓reduceIte, Nat.reduceEqDiff, Nat.reduceAdd, Nat.reduceMul, Nat.reduceDiv, AOp.sb, AOp.mut, ↓Bool.false_eq_true, beq_self_eq_true, ite_self, Nat.reduceLeDiff, Int.reduceEq, Int.reduceSub, Int.reduceAdd, Int.reduceNeg, Int.reduceLT, Int.reduceLE, Nat.reduceLT, bz_G3, h0]; refine hK _ ?_; clear hK K)
      | simp only [Sv, ↓reduceIte, Nat.reduceEqDiff]
    simp (disch := (first | omega | assumption)) only [retC, rsVs_nil, rsVs_cons, rsV_t, rsV_c, rsp_pt, rsq_t, rsq_f, ocons_ss, retV_1, retV_2, retNV_nil, retNV_cons, retOk, retN, ret1, retF, ret1F, V.okArg, and_true, true_and, S1, ↓reduceIte, Nat.reduceEqDiff, Nat.reduceAdd, Nat.reduceMul, Nat.reduceDiv, AOp.sb, AOp.mut, ↓Bool.false_eq_true, beq_self_eq_true, ite_self, Nat.reduceLeDiff, Int.reduceEq, Int.reduceSub, Int.reduceAdd, Int.reduceNeg, Int.reduceLT, Int.reduceLE, Nat.reduceLT, bz_G3]
  · obtain ⟨m, rfl⟩ : ∃ m : Nat, n = (m : Int) := ⟨n.toNat, by omega⟩
    by_cases h1 : gsz x < SM
    · have p1 := gsize_ok h1
      have hin := inside_spec x h1
      obtain ⟨s, hs⟩ : ∃ s, s = gsz x := ⟨_, rfl⟩
      have e : pE x m = if s ^ m < SM then 0 else 13 := by
        unfold pE; rw [if_neg h0, if_pos h1, ← hs]; rfl
      rcases Nat.eq_zero_or_pos m with hm | hm
      · subst hm
        have e0 : pE x ((0 : Nat) : Int) = 0 := by rw [e]; exact if_pos (by rw [Nat.pow_zero]; decide)
        rw [show pF x ((0 : Nat) : Int) = (1, 0) from if_pos e0, e0]
        simp only [nV] at *
        refine AFun.mkc fol J0s Try.func45 rfl (ac := a45) (by kernel_rfl) (rs := [.c 4 true 2, .t 5]) (by kernel_rfl) rfl ?_
        apply vm_start
        unfold a45
        simp only [init_eq, initE]
        have zc1 := p1
        repeat first | (refine hK _ ?_; clear hK K) | simp only [Sv, ↓reduceIte, Nat.reduceEqDiff] | ((first | refine vm_reg (fun K hK => ?_) | refine vm_dreg (fun K hK => ?_) | refine clp_q ?_ | refine clq_mk (by assumption) ?_); simp (disch := (first | omega | assumption)) only [S1, ↓reduceIte, Nat.reduceEqDiff, Nat.reduceAdd, Nat.reduceMul, Nat.reduceDiv, AOp.sb, AOp.mut, ↓Bool.false_eq_true, beq_self_eq_true, ite_self, Nat.reduceLeDiff, Int.reduceEq, Int.reduceSub, Int.reduceAdd, Int.reduceNeg, Int.reduceLT, Int.reduceLE, Nat.reduceLT, bz_G3])
        simp (disch := (first | omega | assumption)) only [retC, rsVs_nil, rsVs_cons, rsV_t, rsV_c, rsp_pt, rsq_t, rsq_f, ocons_ss, retV_1, retV_2, retNV_nil, retNV_cons, retOk, retN, ret1, retF, ret1F, V.okArg, and_true, true_and, S1, ↓reduceIte, Nat.reduceEqDiff, Nat.reduceAdd, Nat.reduceMul, Nat.reduceDiv, AOp.sb, AOp.mut, ↓Bool.false_eq_true, beq_self_eq_true, ite_self, Nat.reduceLeDiff, Int.reduceEq, Int.reduceSub, Int.reduceAdd, Int.reduceNeg, Int.reduceLT, Int.reduceLE, Nat.reduceLT, bz_G3]
      · have hm0 : ¬ (m : Int) = 0 := by omega
        rcases Nat.eq_zero_or_pos s with hs0 | hs0
        · have e0 : pE x m = 0 := by rw [e, hs0]; exact if_pos (by rw [Nat.zero_pow hm]; decide)
          rw [show pF x m = gpow x m from if_pos e0, e0, gpow0 (by omega) hm]
          rw [← hs, hs0] at p1
          simp only [nV] at *
          refine AFun.mkc fol J0s Try.func45 rfl (ac := a45) (by kernel_rfl) (rs := [.c 4 true 2, .t 5]) (by kernel_rfl) rfl ?_
          apply vm_start
          unfold a45
          simp only [init_eq, initE]
          have zc2 := p1
          repeat first | (refine hK _ ?_; clear hK K) | simp only [Sv, ↓reduceIte, Nat.reduceEqDiff] | ((first | refine vm_reg (fun K hK => ?_) | refine vm_dreg (fun K hK => ?_) | refine clp_q ?_ | refine clq_mk (by assumption) ?_); simp (disch := (first | omega | assumption)) only [S1, ↓reduceIte, Nat.reduceEqDiff, Nat.reduceAdd, Nat.reduceMul, Nat.reduceDiv, AOp.sb, AOp.mut, ↓Bool.false_eq_true, beq_self_eq_true, ite_self, Nat.reduceLeDiff, Int.reduceEq, Int.reduceSub, Int.reduceAdd, Int.reduceNeg, Int.reduceLT, Int.reduceLE, Nat.reduceLT, bz_G3, h0, hm0])
          simp (disch := (first | omega | assumption)) only [retC, rsVs_nil, rsVs_cons, rsV_t, rsV_c, rsp_pt, rsq_t, rsq_f, ocons_ss, retV_1, retV_2, retNV_nil, retNV_cons, retOk, retN, ret1, retF, ret1F, V.okArg, and_true, true_and, S1, ↓reduceIte, Nat.reduceEqDiff, Nat.reduceAdd, Nat.reduceMul, Nat.reduceDiv, AOp.sb, AOp.mut, ↓Bool.false_eq_true, beq_self_eq_true, ite_self, Nat.reduceLeDiff, Int.reduceEq, Int.reduceSub, Int.reduceAdd, Int.reduceNeg, Int.reduceLT, Int.reduceLE, Nat.reduceLT, bz_G3]
        · have hs0' : ¬ (s : Int) = 0 := by omega
          have pw := fun k => gpow_sz x k
          rw [← hs] at pw
          have hok := fun k => gmul_ok (x := gpow x k) (y := x)
          rw [← hs] at hok p1 h1
          have hout := fun k => outside_spec (gpow x k)
          simp only [nV] at hin p1
          by_cases hs1 : s = 1
          · have hs1I : (s : Int) = 1 := by omega
            have e0 : pE x m = 0 := by rw [e, hs1, Nat.one_pow]; rfl
            have ef : pF x m = gpow x (m % 4) := by rw [show pF x m = gpow x m from if_pos e0, gpow_mod (by omega)]
            rw [ef, e0]
            have hm4 : m % 4 < 4 := Nat.mod_lt _ (by decide)
            obtain ⟨M, hM⟩ : ∃ M, M = m % 4 := ⟨_, rfl⟩
            have htm : (m : Int).tmod 4 = (M : Int) := by rw [hM]; rfl
            rw [← hM] at hm4 ⊢
            refine AFun.mkc fol J0s Try.func45 rfl (ac := a45) (by kernel_rfl) (rs := [.c 4 true 2, .t 5]) (by kernel_rfl) rfl ?_
            apply vm_start
            unfold a45
            simp only [init_eq, initE]
            have zc3 := p1
            repeat first | (refine hK _ ?_; clear hK K) | simp only [Sv, ↓reduceIte, Nat.reduceEqDiff] | ((first | refine vm_reg (fun K hK => ?_) | refine vm_dreg (fun K hK => ?_) | refine clp_q ?_ | refine clq_mk (by assumption) ?_); simp (disch := (first | omega | assumption)) only [S1, ↓reduceIte, Nat.reduceEqDiff, Nat.reduceAdd, Nat.reduceMul, Nat.reduceDiv, AOp.sb, AOp.mut, ↓Bool.false_eq_true, beq_self_eq_true, ite_self, Nat.reduceLeDiff, Int.reduceEq, Int.reduceSub, Int.reduceAdd, Int.reduceNeg, Int.reduceLT, Int.reduceLE, Nat.reduceLT, bz_G3, h0, hm0, hs1I, htm])
            refine vm_loopA [] Nat (fun k => ⟨[(2, .pt 0 0), (4, .pt 1 0), (6, .i .i64 (s : Int)), (8, .i .i64 ((s ^ k : Nat) : Int)), (9, .z (gpow x k).1 (gpow x k).2), (39, .i .i64 (M : Int)), (40, .i .i64 (k : Int))],
                [(0, some ⟨31, 2, [.i .i64 x.1, .i .i64 x.2], true, true⟩), (1, some ⟨31, 2, [.i .i64 0, .i .i64 0], true, true⟩)], 2⟩)
              (fun k => k ≤ M ∧ s ^ k < SM) (fun k => M - k) 0 ⟨Nat.zero_le _, by rw [Nat.pow_zero]; decide⟩ (by simp (disch := (first | omega | assumption)) only [Sl, Sa, Sw, ↓reduceIte, Nat.reduceEqDiff, Nat.reduceLT, List.all_nil, List.all_cons, Nat.reduceBneDiff, Nat.reduceAdd, bne_iff_ne, ne_eq, reduceCtorEq, not_false_eq_true, not_true_eq_false, Bool.and_true, Bool.true_and, and_true, true_and, and_self]) (by
              simp (disch := (first | omega | assumption)) only [Sl, Sa, Sw, ↓reduceIte, Nat.reduceEqDiff, Nat.reduceLT, List.all_nil, List.all_cons, Nat.reduceBneDiff, Nat.reduceAdd, bne_iff_ne, ne_eq, reduceCtorEq, not_false_eq_true, not_true_eq_false, Bool.and_true, Bool.true_and, and_true, true_and, and_self, i_eq]
              repeat' first | rfl | omega | (simp only [List.length_append, List.length_cons, List.length_nil]; done) | apply And.intro) ?_
            rintro k ⟨hk, hsk⟩ Q' hQ he hr
            have pf := gfits_spec (s ^ k) s (Nat.le_of_lt h1)
            rw [← Nat.pow_succ] at pf
            by_cases hkm : (k : Int) < (M : Int)
            · by_cases hb : s ^ (k + 1) < SM
              · have hz := hok k (Nat.lt_of_le_of_lt (Nat.mul_le_mul_right _ (pw k)) (by rw [← Nat.pow_succ]; exact hb))
                have wm : IntKind.i64.wrap (((s ^ k : Nat) : Int) * (s : Int)) = ((s ^ (k + 1) : Nat) : Int) := by
                  have e2 : ((s ^ k : Nat) : Int) * (s : Int) = ((s ^ (k + 1) : Nat) : Int) := by rw [Nat.pow_succ, Int.natCast_mul]
                  rw [e2]; refine wi ?_
                  simp only [SM] at hb; omega
                rw [decide_eq_true hb] at pf
                have zc4 := pf
                have zc5 := hin
                repeat first | (refine hK _ ?_; clear hK K) | simp only [Sv, ↓reduceIte, Nat.reduceEqDiff] | ((first | refine vm_reg (fun K hK => ?_) | refine vm_dreg (fun K hK => ?_) | refine clp_q ?_ | refine clq_mk (by assumption) ?_); simp (disch := (first | omega | assumption)) only [S1, ↓reduceIte, Nat.reduceEqDiff, Nat.reduceAdd, Nat.reduceMul, Nat.reduceDiv, AOp.sb, AOp.mut, ↓Bool.false_eq_true, beq_self_eq_true, ite_self, Nat.reduceLeDiff, Int.reduceEq, Int.reduceSub, Int.reduceAdd, Int.reduceNeg, Int.reduceLT, Int.reduceLE, Nat.reduceLT, bz_G3, hkm, wm, hz])
                refine hQ _ (k + 1) ⟨by omega, hb⟩ (by omega) ?_
                simp (disch := (first | omega | assumption)) only [Sl, Sa, Sw, ↓reduceIte, Nat.reduceEqDiff, Nat.reduceLT, List.all_nil, List.all_cons, Nat.reduceBneDiff, Nat.reduceAdd, bne_iff_ne, ne_eq, reduceCtorEq, not_false_eq_true, not_true_eq_false, Bool.and_true, Bool.true_and, and_true, true_and, and_self, i_eq]
                repeat' first | rfl | omega | (simp only [List.length_append, List.length_cons, List.length_nil]; done) | apply And.intro
              · rw [decide_eq_false hb] at pf
                have e13 : ¬ s ^ M < SM := fun h => hb (pow_small hs0 (by omega) h)
                exact absurd (by rw [hs1, Nat.one_pow]; decide) e13
            · obtain rfl : k = M := by omega
              skip
              have ho := hout k (Nat.lt_of_le_of_lt (pw k) hsk)
              simp only [nV] at *
              repeat first
                | (refine hK _ ?_; clear hK K)
                | ((first | refine vm_reg (fun K hK => ?_) | refine vm_dreg (fun K hK => ?_)); simp (disch := (first | omega | assumption)) only [S1, ↓reduceIte, Nat.reduceEqDiff, Nat.reduceAdd, Nat.reduceMul, Nat.reduceDiv, AOp.sb, AOp.mut, ↓Bool.false_eq_true, beq_self_eq_true, ite_self, Nat.reduceLeDiff, Int.reduceEq, Int.reduceSub, Int.reduceAdd, Int.reduceNeg, Int.reduceLT, Int.reduceLE, Nat.reduceLT, bz_G3, hkm]; refine hK _ ?_; clear hK K)
                | simp only [Sv, ↓reduceIte, Nat.reduceEqDiff]
              refine he _ _ ?_
              have zc6 := ho
              repeat first | (refine hK _ ?_; clear hK K) | simp only [Sv, ↓reduceIte, Nat.reduceEqDiff] | ((first | refine vm_reg (fun K hK => ?_) | refine vm_dreg (fun K hK => ?_) | refine clp_q ?_ | refine clq_mk (by assumption) ?_); simp (disch := (first | omega | assumption)) only [S1, ↓reduceIte, Nat.reduceEqDiff, Nat.reduceAdd, Nat.reduceMul, Nat.reduceDiv, AOp.sb, AOp.mut, ↓Bool.false_eq_true, beq_self_eq_true, ite_self, Nat.reduceLeDiff, Int.reduceEq, Int.reduceSub, Int.reduceAdd, Int.reduceNeg, Int.reduceLT, Int.reduceLE, Nat.reduceLT, bz_G3])
              simp (disch := (first | omega | assumption)) only [retC, rsVs_nil, rsVs_cons, rsV_t, rsV_c, rsp_pt, rsq_t, rsq_f, ocons_ss, retV_1, retV_2, retNV_nil, retNV_cons, retOk, retN, ret1, retF, ret1F, V.okArg, and_true, true_and, S1, ↓reduceIte, Nat.reduceEqDiff, Nat.reduceAdd, Nat.reduceMul, Nat.reduceDiv, AOp.sb, AOp.mut, ↓Bool.false_eq_true, beq_self_eq_true, ite_self, Nat.reduceLeDiff, Int.reduceEq, Int.reduceSub, Int.reduceAdd, Int.reduceNeg, Int.reduceLT, Int.reduceLE, Nat.reduceLT, bz_G3]
          · have hs1I : ¬ (s : Int) = 1 := by omega
            by_cases h50 : (50 : Int) < (m : Int)
            · have e0 : pE x m = 13 := by rw [e]; exact if_neg (pow_big (by omega) (by omega))
              rw [show pF x m = (0, 0) from if_neg (by rw [e0]; decide), e0]
              refine AFun.mkc fol J0s Try.func45 rfl (ac := a45) (by kernel_rfl) (rs := [.c 4 true 2, .t 5]) (by kernel_rfl) rfl ?_
              apply vm_start
              unfold a45
              simp only [init_eq, initE]
              have zc7 := p1
              repeat first | (refine hK _ ?_; clear hK K) | simp only [Sv, ↓reduceIte, Nat.reduceEqDiff] | ((first | refine vm_reg (fun K hK => ?_) | refine vm_dreg (fun K hK => ?_) | refine clp_q ?_ | refine clq_mk (by assumption) ?_); simp (disch := (first | omega | assumption)) only [S1, ↓reduceIte, Nat.reduceEqDiff, Nat.reduceAdd, Nat.reduceMul, Nat.reduceDiv, AOp.sb, AOp.mut, ↓Bool.false_eq_true, beq_self_eq_true, ite_self, Nat.reduceLeDiff, Int.reduceEq, Int.reduceSub, Int.reduceAdd, Int.reduceNeg, Int.reduceLT, Int.reduceLE, Nat.reduceLT, bz_G3, h0, hm0, hs0', hs1I, h50])
              simp (disch := (first | omega | assumption)) only [retC, rsVs_nil, rsVs_cons, rsV_t, rsV_c, rsp_pt, rsq_t, rsq_f, ocons_ss, retV_1, retV_2, retNV_nil, retNV_cons, retOk, retN, ret1, retF, ret1F, V.okArg, and_true, true_and, S1, ↓reduceIte, Nat.reduceEqDiff, Nat.reduceAdd, Nat.reduceMul, Nat.reduceDiv, AOp.sb, AOp.mut, ↓Bool.false_eq_true, beq_self_eq_true, ite_self, Nat.reduceLeDiff, Int.reduceEq, Int.reduceSub, Int.reduceAdd, Int.reduceNeg, Int.reduceLT, Int.reduceLE, Nat.reduceLT, bz_G3]
            · refine AFun.mkc fol J0s Try.func45 rfl (ac := a45) (by kernel_rfl) (rs := [.c 4 true 2, .t 5]) (by kernel_rfl) rfl ?_
              apply vm_start
              unfold a45
              simp only [init_eq, initE]
              have zc8 := p1
              repeat first | (refine hK _ ?_; clear hK K) | simp only [Sv, ↓reduceIte, Nat.reduceEqDiff] | ((first | refine vm_reg (fun K hK => ?_) | refine vm_dreg (fun K hK => ?_) | refine clp_q ?_ | refine clq_mk (by assumption) ?_); simp (disch := (first | omega | assumption)) only [S1, ↓reduceIte, Nat.reduceEqDiff, Nat.reduceAdd, Nat.reduceMul, Nat.reduceDiv, AOp.sb, AOp.mut, ↓Bool.false_eq_true, beq_self_eq_true, ite_self, Nat.reduceLeDiff, Int.reduceEq, Int.reduceSub, Int.reduceAdd, Int.reduceNeg, Int.reduceLT, Int.reduceLE, Nat.reduceLT, bz_G3, h0, hm0, hs0', hs1I, h50])
              refine vm_loopA [] Nat (fun k => ⟨[(2, .pt 0 0), (4, .pt 1 0), (6, .i .i64 (s : Int)), (8, .i .i64 ((s ^ k : Nat) : Int)), (9, .z (gpow x k).1 (gpow x k).2), (39, .i .i64 (m : Int)), (40, .i .i64 (k : Int))],
                  [(0, some ⟨31, 2, [.i .i64 x.1, .i .i64 x.2], true, true⟩), (1, some ⟨31, 2, [.i .i64 0, .i .i64 0], true, true⟩)], 2⟩)
                (fun k => k ≤ m ∧ s ^ k < SM) (fun k => m - k) 0 ⟨Nat.zero_le _, by rw [Nat.pow_zero]; decide⟩ (by simp (disch := (first | omega | assumption)) only [Sl, Sa, Sw, ↓reduceIte, Nat.reduceEqDiff, Nat.reduceLT, List.all_nil, List.all_cons, Nat.reduceBneDiff, Nat.reduceAdd, bne_iff_ne, ne_eq, reduceCtorEq, not_false_eq_true, not_true_eq_false, Bool.and_true, Bool.true_and, and_true, true_and, and_self]) (by
                simp (disch := (first | omega | assumption)) only [Sl, Sa, Sw, ↓reduceIte, Nat.reduceEqDiff, Nat.reduceLT, List.all_nil, List.all_cons, Nat.reduceBneDiff, Nat.reduceAdd, bne_iff_ne, ne_eq, reduceCtorEq, not_false_eq_true, not_true_eq_false, Bool.and_true, Bool.true_and, and_true, true_and, and_self, i_eq]
                repeat' first | rfl | omega | (simp only [List.length_append, List.length_cons, List.length_nil]; done) | apply And.intro) ?_
              rintro k ⟨hk, hsk⟩ Q' hQ he hr
              have pf := gfits_spec (s ^ k) s (Nat.le_of_lt h1)
              rw [← Nat.pow_succ] at pf
              by_cases hkm : (k : Int) < (m : Int)
              · by_cases hb : s ^ (k + 1) < SM
                · have hz := hok k (Nat.lt_of_le_of_lt (Nat.mul_le_mul_right _ (pw k)) (by rw [← Nat.pow_succ]; exact hb))
                  have wm : IntKind.i64.wrap (((s ^ k : Nat) : Int) * (s : Int)) = ((s ^ (k + 1) : Nat) : Int) := by
                    have e2 : ((s ^ k : Nat) : Int) * (s : Int) = ((s ^ (k + 1) : Nat) : Int) := by rw [Nat.pow_succ, Int.natCast_mul]
                    rw [e2]; refine wi ?_
                    simp only [SM] at hb; omega
                  rw [decide_eq_true hb] at pf
                  have zc9 := pf
                  have zc10 := hin
                  repeat first | (refine hK _ ?_; clear hK K) | simp only [Sv, ↓reduceIte, Nat.reduceEqDiff] | ((first | refine vm_reg (fun K hK => ?_) | refine vm_dreg (fun K hK => ?_) | refine clp_q ?_ | refine clq_mk (by assumption) ?_); simp (disch := (first | omega | assumption)) only [S1, ↓reduceIte, Nat.reduceEqDiff, Nat.reduceAdd, Nat.reduceMul, Nat.reduceDiv, AOp.sb, AOp.mut, ↓Bool.false_eq_true, beq_self_eq_true, ite_self, Nat.reduceLeDiff, Int.reduceEq, Int.reduceSub, Int.reduceAdd, Int.reduceNeg, Int.reduceLT, Int.reduceLE, Nat.reduceLT, bz_G3, hkm, wm, hz])
                  refine hQ _ (k + 1) ⟨by omega, hb⟩ (by omega) ?_
                  simp (disch := (first | omega | assumption)) only [Sl, Sa, Sw, ↓reduceIte, Nat.reduceEqDiff, Nat.reduceLT, List.all_nil, List.all_cons, Nat.reduceBneDiff, Nat.reduceAdd, bne_iff_ne, ne_eq, reduceCtorEq, not_false_eq_true, not_true_eq_false, Bool.and_true, Bool.true_and, and_true, true_and, and_self, i_eq]
                  repeat' first | rfl | omega | (simp only [List.length_append, List.length_cons, List.length_nil]; done) | apply And.intro
                · rw [decide_eq_false hb] at pf
                  have e13 : ¬ s ^ m < SM := fun h => hb (pow_small hs0 (by omega) h)
                  have e0 : pE x m = 13 := by rw [e]; exact if_neg e13
                  rw [show pF x m = (0, 0) from if_neg (by rw [e0]; decide), e0] at hr
                  have zc11 := pf
                  repeat first | (refine hK _ ?_; clear hK K) | simp only [Sv, ↓reduceIte, Nat.reduceEqDiff] | ((first | refine vm_reg (fun K hK => ?_) | refine vm_dreg (fun K hK => ?_) | refine clp_q ?_ | refine clq_mk (by assumption) ?_); simp (disch := (first | omega | assumption)) only [S1, ↓reduceIte, Nat.reduceEqDiff, Nat.reduceAdd, Nat.reduceMul, Nat.reduceDiv, AOp.sb, AOp.mut, ↓Bool.false_eq_true, beq_self_eq_true, ite_self, Nat.reduceLeDiff, Int.reduceEq, Int.reduceSub, Int.reduceAdd, Int.reduceNeg, Int.reduceLT, Int.reduceLE, Nat.reduceLT, bz_G3, hkm])
                  refine hr _ ?_
                  simp (disch := (first | omega | assumption)) only [retC, rsVs_nil, rsVs_cons, rsV_t, rsV_c, rsp_pt, rsq_t, rsq_f, ocons_ss, retV_1, retV_2, retNV_nil, retNV_cons, retOk, retN, ret1, retF, ret1F, V.okArg, and_true, true_and, S1, ↓reduceIte, Nat.reduceEqDiff, Nat.reduceAdd, Nat.reduceMul, Nat.reduceDiv, AOp.sb, AOp.mut, ↓Bool.false_eq_true, beq_self_eq_true, ite_self, Nat.reduceLeDiff, Int.reduceEq, Int.reduceSub, Int.reduceAdd, Int.reduceNeg, Int.reduceLT, Int.reduceLE, Nat.reduceLT, bz_G3]
              · obtain rfl : k = m := by omega
                (have e0 : pE x k = 0 := by rw [e]; exact if_pos hsk); rw [show pF x k = gpow x k from if_pos e0, e0] at he
                have ho := hout k (Nat.lt_of_le_of_lt (pw k) hsk)
                simp only [nV] at *
                repeat first
                  | (refine hK _ ?_; clear hK K)
                  | ((first | refine vm_reg (fun K hK => ?_) | refine vm_dreg (fun K hK => ?_)); simp (disch := (first | omega | assumption)) only [S1, ↓reduceIte, Nat.reduceEqDiff, Nat.reduceAdd, Nat.reduceMul, Nat.reduceDiv, AOp.sb, AOp.mut, ↓Bool.false_eq_true, beq_self_eq_true, ite_self, Nat.reduceLeDiff, Int.reduceEq, Int.reduceSub, Int.reduceAdd, Int.reduceNeg, Int.reduceLT, Int.reduceLE, Nat.reduceLT, bz_G3, hkm]; refine hK _ ?_; clear hK K)
                  | simp only [Sv, ↓reduceIte, Nat.reduceEqDiff]
                refine he _ _ ?_
                have zc12 := ho
                repeat first | (refine hK _ ?_; clear hK K) | simp only [Sv, ↓reduceIte, Nat.reduceEqDiff] | ((first | refine vm_reg (fun K hK => ?_) | refine vm_dreg (fun K hK => ?_) | refine clp_q ?_ | refine clq_mk (by assumption) ?_); simp (disch := (first | omega | assumption)) only [S1, ↓reduceIte, Nat.reduceEqDiff, Nat.reduceAdd, Nat.reduceMul, Nat.reduceDiv, AOp.sb, AOp.mut, ↓Bool.false_eq_true, beq_self_eq_true, ite_self, Nat.reduceLeDiff, Int.reduceEq, Int.reduceSub, Int.reduceAdd, Int.reduceNeg, Int.reduceLT, Int.reduceLE, Nat.reduceLT, bz_G3])
                simp (disch := (first | omega | assumption)) only [retC, rsVs_nil, rsVs_cons, rsV_t, rsV_c, rsp_pt, rsq_t, rsq_f, ocons_ss, retV_1, retV_2, retNV_nil, retNV_cons, retOk, retN, ret1, retF, ret1F, V.okArg, and_true, true_and, S1, ↓reduceIte, Nat.reduceEqDiff, Nat.reduceAdd, Nat.reduceMul, Nat.reduceDiv, AOp.sb, AOp.mut, ↓Bool.false_eq_true, beq_self_eq_true, ite_self, Nat.reduceLeDiff, Int.reduceEq, Int.reduceSub, Int.reduceAdd, Int.reduceNeg, Int.reduceLT, Int.reduceLE, Nat.reduceLT, bz_G3]
    · have p1 := gsize_bad h1
      have e : pE x m = 13 := by unfold pE; rw [if_neg h0, if_neg h1]
      rw [show pF x m = (0, 0) from if_neg (by rw [e]; decide), e]
      simp only [nV] at *
      refine AFun.mkc fol J0s Try.func45 rfl (ac := a45) (by kernel_rfl) (rs := [.c 4 true 2, .t 5]) (by kernel_rfl) rfl ?_
      apply vm_start
      unfold a45
      simp only [init_eq, initE]
      have zc13 := p1
      repeat first | (refine hK _ ?_; clear hK K) | simp only [Sv, ↓reduceIte, Nat.reduceEqDiff] | ((first | refine vm_reg (fun K hK => ?_) | refine vm_dreg (fun K hK => ?_) | refine clp_q ?_ | refine clq_mk (by assumption) ?_); simp (disch := (first | omega | assumption)) only [S1, ↓reduceIte, Nat.reduceEqDiff, Nat.reduceAdd, Nat.reduceMul, Nat.reduceDiv, AOp.sb, AOp.mut, ↓Bool.false_eq_true, beq_self_eq_true, ite_self, Nat.reduceLeDiff, Int.reduceEq, Int.reduceSub, Int.reduceAdd, Int.reduceNeg, Int.reduceLT, Int.reduceLE, Nat.reduceLT, bz_G3, h0])
      simp (disch := (first | omega | assumption)) only [retC, rsVs_nil, rsVs_cons, rsV_t, rsV_c, rsp_pt, rsq_t, rsq_f, ocons_ss, retV_1, retV_2, retNV_nil, retNV_cons, retOk, retN, ret1, retF, ret1F, V.okArg, and_true, true_and, S1, ↓reduceIte, Nat.reduceEqDiff, Nat.reduceAdd, Nat.reduceMul, Nat.reduceDiv, AOp.sb, AOp.mut, ↓Bool.false_eq_true, beq_self_eq_true, ite_self, Nat.reduceLeDiff, Int.reduceEq, Int.reduceSub, Int.reduceAdd, Int.reduceNeg, Int.reduceLT, Int.reduceLE, Nat.reduceLT, bz_G3]
end Go.Proofs.Ytfkldohgiifgbaa
