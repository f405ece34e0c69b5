/-
  surdref23: powers, values.
-/
import Derived.Test.YtfkldohgiifgbaaR23b
namespace Go.Proofs.Ytfkldohgiifgbaa
open Go Go.RowKit Ab
set_option linter.unusedSimpArgs false
set_option linter.unusedVariables false
set_option maxHeartbeats 10000000
theorem bz_R23c : type_of% (And.intro @W_len (And.intro @D_len (And.intro @Nat.div_one (And.intro @Nat.mul_one (And.intro @tn_nat (And.intro @W_nf (And.intro @D_nf (And.intro @W_nil (And.intro @D_nil (And.intro @wi (And.intro @nf_g (And.intro @Bool.false_and (And.intro @W_cell (And.intro @ZC_cell (@ZC_nil))))))))))))))) := And.intro @W_len (And.intro @D_len (And.intro @Nat.div_one (And.intro @Nat.mul_one (And.intro @tn_nat (And.intro @W_nf (And.intro @D_nf (And.intro @W_nil (And.intro @D_nil (And.intro @wi (And.intro @nf_g (And.intro @Bool.false_and (And.intro @W_cell (And.intro @ZC_cell (@ZC_nil))))))))))))))

theorem pow_lt51 {s k : Nat} (hs : s < B ^ 1) (hk : k ≤ 50) : s ^ k < B ^ 51 := by
  rw [Nat.pow_one] at hs
  exact Nat.lt_of_le_of_lt (Nat.pow_le_pow_left (Nat.le_of_lt hs) k) (Nat.pow_lt_pow_right (by decide) (by omega))
theorem pow_mono1 {s k m : Nat} (hk : k ≤ m) (h : s ^ m < SM) : s ^ k < SM := by
  rcases Nat.eq_zero_or_pos s with h0 | h0
  · subst h0
    rcases Nat.eq_zero_or_pos k with h1 | h1
    · rw [h1, Nat.pow_zero]; decide
    · rw [Nat.zero_pow h1]; decide
  · exact pow_small h0 hk h
theorem pow_le1 {s : Nat} (hs : s ≤ 1) (m : Nat) : s ^ m < SM := by
  have : s ^ m ≤ 1 ^ m := Nat.pow_le_pow_left hs m
  rw [Nat.one_pow] at this
  simp only [SM]; omega
theorem gpow_le1 {x : GZ} (h : gsz x ≤ 1) {m : Nat} (hm : 4 < m) : gpow x m = gpow x (4 + m % 4) := by
  rcases Nat.eq_zero_or_pos (gsz x) with h0 | h0
  · rw [gpow0 h0 (by omega), gpow0 h0 (by omega)]
  · have h1 : gsz x = 1 := by omega
    rw [gpow_mod h1 m, gpow_mod h1 (4 + m % 4)]
    congr 1
    omega
theorem sg_one (s : Nat) : ((0 : Int) < sg s 1) = (1 < s) ∧ (sg s 1 ≤ 0) = (s ≤ 1) := by
  unfold sg
  constructor <;> (repeat' split) <;> refine propext ⟨fun h' => ?_, fun h' => ?_⟩ <;> first | omega | (exact absurd h' (by decide)) | decide
-- surd/surdref23.Pow
def a44 : AC := .seq (.reg [⟨some 2, none, .bx 27 (.t 0)⟩, 
      ⟨some 4, none, .al 27 [(.i .i64 0), (.i .i64 0)]⟩, 
      ⟨some 5, none, .mv (.k (.i .i64 0))⟩])
  (.seq (.seq (.reg [⟨some 9, none, .mv (.t 1)⟩, 
        ⟨some 10, none, .bin .lss (.t 9) (.k (.i .i64 0))⟩])
    (.cond (.t 10)
    (.seq (.reg [⟨some 11, none, .bld [(.i .i64 0), (.i .i64 0)] []⟩, 
          ⟨none, none, .st 2 (.t 4) (.t 11)⟩, 
          ⟨some 5, none, .mv (.k (.i .i64 3))⟩])
      (.ret))
    (.skip)))
  (.seq (.reg [⟨some 12, none, .ld true 2 (.t 2)⟩, 
      ⟨some 13, none, .call 53 [(1, (.t 12))]⟩, 
      ⟨some 14, none, .call 52 [(1, (.t 13))]⟩, 
      ⟨some 6, none, .mv (.t 14)⟩])
  (.seq (.seq (.reg [⟨some 15, none, .mv (.t 6)⟩, 
        ⟨some 16, none, .call 54 [(1, (.t 15))]⟩, 
        ⟨some 17, none, .un .not (.t 16)⟩])
    (.cond (.t 17)
    (.seq (.reg [⟨some 18, none, .bld [(.i .i64 0), (.i .i64 0)] []⟩, 
          ⟨none, none, .st 2 (.t 4) (.t 18)⟩, 
          ⟨some 5, none, .mv (.k (.i .i64 13))⟩])
      (.ret))
    (.skip)))
  (.seq (.seq (.reg [⟨some 19, none, .mv (.t 6)⟩, 
        ⟨some 20, none, .call 56 [(1, (.k (.i .i64 1)))]⟩, 
        ⟨some 21, none, .call 73 [(1, (.t 19)), (1, (.t 20))]⟩, 
        ⟨some 22, none, .bin .gtr (.t 21) (.k (.i .i64 0))⟩, 
        ⟨some 23, none, .mv (.t 22)⟩, 
        ⟨some 24, some (23, true), .mv (.t 1)⟩, 
        ⟨some 25, some (23, true), .bin .geq (.t 24) (.k (.i .i64 50))⟩, 
        ⟨some 26, none, .pick (.t 23) (.t 25) (.k (.b false))⟩, 
        ⟨some 27, none, .mv (.t 26)⟩, 
        ⟨some 28, some (27, false), .mv (.t 6)⟩, 
        ⟨some 29, some (27, false), .mv (.t 1)⟩, 
        ⟨some 30, some (27, false), .mm false (.t 29) (.k (.i .i64 50))⟩, 
        ⟨some 31, some (27, false), .call 74 [(1, (.t 28)), (1, (.t 30))]⟩, 
        ⟨some 32, some (27, false), .call 54 [(1, (.t 31))]⟩, 
        ⟨some 33, some (27, false), .un .not (.t 32)⟩, 
        ⟨some 34, none, .pick (.t 27) (.k (.b true)) (.t 33)⟩])
    (.cond (.t 34)
    (.seq (.reg [⟨some 35, none, .bld [(.i .i64 0), (.i .i64 0)] []⟩, 
          ⟨none, none, .st 2 (.t 4) (.t 35)⟩, 
          ⟨some 5, none, .mv (.k (.i .i64 13))⟩])
      (.ret))
    (.skip)))
  (.seq (.seq (.reg [⟨some 36, none, .mv (.t 1)⟩, 
        ⟨some 37, none, .bin .gtr (.t 36) (.k (.i .i64 4))⟩, 
        ⟨some 38, none, .mv (.t 37)⟩, 
        ⟨some 39, some (38, true), .mv (.t 6)⟩, 
        ⟨some 40, some (38, true), .call 56 [(1, (.k (.i .i64 1)))]⟩, 
        ⟨some 41, some (38, true), .call 73 [(1, (.t 39)), (1, (.t 40))]⟩, 
        ⟨some 42, some (38, true), .bin .leq (.t 41) (.k (.i .i64 0))⟩, 
        ⟨some 43, none, .pick (.t 38) (.t 42) (.k (.b false))⟩])
    (.cond (.t 43)
    (.reg [⟨some 44, none, .mv (.t 1)⟩, 
        ⟨some 45, none, .bin .rem (.t 44) (.k (.i .i64 4))⟩, 
        ⟨some 46, none, .bin .add (.k (.i .i64 4)) (.t 45)⟩, 
        ⟨some 1, none, .mv (.t 46)⟩])
    (.skip)))
  (.seq (.reg [⟨some 47, none, .bld [(.i .i64 0), (.i .i64 0)] [(0, 1, (.k (.i .i64 1)))]⟩, 
      ⟨some 48, none, .call 53 [(1, (.t 47))]⟩, 
      ⟨some 7, none, .al 90 [(.b false), (.l 1 []), (.b false), (.l 1 [])]⟩, 
      ⟨none, none, .st 4 (.t 7) (.t 48)⟩])
  (.seq (.seq (.reg [⟨some 8, none, .mv (.k (.i .i64 0))⟩])
    (.blk 0
    (.loop
      (.seq (.seq (.reg [⟨some 49, none, .mv (.t 8)⟩, 
              ⟨some 50, none, .mv (.t 1)⟩, 
              ⟨some 51, none, .bin .lss (.t 49) (.t 50)⟩])
          (.cond (.t 51)
          (.skip)
          (.exit 0)))
        (.seq (.blk 1
          (.dreg [⟨some 54, none, .ld true 4 (.t 7)⟩, 
              ⟨some 55, none, .ld true 2 (.t 2)⟩, 
              ⟨some 56, none, .call 53 [(1, (.t 55))]⟩, 
              ⟨some 57, none, .call 60 [(1, (.t 54)), (1, (.t 56))]⟩, 
              ⟨none, none, .st 4 (.t 7) (.t 57)⟩]))
        (.reg [⟨some 52, none, .mv (.t 8)⟩, 
          ⟨some 53, none, .bin .add (.t 52) (.k (.i .i64 1))⟩, 
          ⟨some 8, none, .mv (.t 53)⟩]))))))
  (.seq (.reg [⟨some 58, none, .ld true 4 (.t 7)⟩, 
      ⟨some 59, none, .call 62 [(1, (.t 58))]⟩, 
      ⟨none, none, .st 2 (.t 4) (.t 59)⟩, 
      ⟨some 5, none, .mv (.k (.i .i64 0))⟩])
  (.ret)))))))))
set_option maxRecDepth 100000 in
theorem rpowS (x : GZ) (n : Int) (hx : Pz x) (hn : Pi n) : AFun Try.prog J0 44 [nV x, .i .i64 n] (.t [nV (pF x n), .i .i64 (pE x n)]) := by
  have p1 := of23_spec x hx
  have p2 := size23_spec x 1 (by decide) (ZB_pi hx)
  have p3 := small23_spec (gsz x) 2 (by decide) (by decide) (gsz_B2 hx)
  have w1 := (hword_spec 1 (by decide)).frozen
  have zx := ZB_pi hx
  by_cases h0 : n < 0
  · have e : pE x n = 3 := if_pos h0
    rw [show pF x n = (0, 0) from if_neg (by rw [e]; decide), e]
    simp only [nV]
    refine AFun.mkc fol J0s Try.func44 rfl (ac := a44) (by kernel_rfl) (rs := [.c 4 true 2, .t 5]) (by kernel_rfl) rfl ?_
    apply vm_start
    unfold a44
    simp only [init_eq, initE]
    repeat first
      | (refine hK _ ?_; clear hK K)
      | ((first | refine vm_reg (fun K hK => ?_) | refine vm_dreg (fun K hK => ?_)); simp (disch := (first | omega | assumption)) only [S1, ↓reduceIte, Nat.reduceEqDiff, Nat.reduceAdd, Nat.reduceMul, Nat.reduceDiv, AOp.sb, AOp.mut, ↓Bool.false_eq_true, beq_self_eq_true, ite_self, Nat.reduceLeDiff, Int.reduceEq, Int.reduceSub, Int.reduceAdd, Int.reduceNeg, Int.reduceLT, Int.reduceLE, Nat.reduceLT, bz_R23c, h0]; refine hK _ ?_; clear hK K)
      | simp only [Sv, ↓reduceIte, Nat.reduceEqDiff]
    simp (disch := (first | omega | assumption)) only [retC, rsVs_nil, rsVs_cons, rsV_t, rsV_c, rsp_pt, rsq_t, rsq_f, ocons_ss, retV_1, retV_2, retNV_nil, retNV_cons, retOk, retN, ret1, retF, ret1F, V.okArg, and_true, true_and, S1, ↓reduceIte, Nat.reduceEqDiff, Nat.reduceAdd, Nat.reduceMul, Nat.reduceDiv, AOp.sb, AOp.mut, ↓Bool.false_eq_true, beq_self_eq_true, ite_self, Nat.reduceLeDiff, Int.reduceEq, Int.reduceSub, Int.reduceAdd, Int.reduceNeg, Int.reduceLT, Int.reduceLE, Nat.reduceLT, bz_R23c]
  · obtain ⟨m, rfl⟩ : ∃ m : Nat, n = (m : Int) := ⟨n.toNat, by omega⟩
    by_cases h1 : gsz x < SM
    · rw [decide_eq_true h1] at p3
      obtain ⟨s, hs⟩ : ∃ s, s = gsz x := ⟨_, rfl⟩
      have e : pE x m = if s ^ m < SM then 0 else 13 := by
        unfold pE; rw [if_neg h0, if_pos h1, ← hs]; rfl
      have pw := fun k => gpow_sz x k
      rw [← hs] at pw p2 p3 h1
      have w2 := hcmpN (u := s) (v := 1) (m := 1) (SM_B1 h1) (BW1 (by decide)) (by decide)
      obtain ⟨sg1, sg2⟩ := sg_one s
      have hmin : min ((m : Nat) : Int) 50 = ((min m 50 : Nat) : Int) := by omega
      obtain ⟨q, hq⟩ : ∃ q, q = min m 50 := ⟨_, rfl⟩
      rw [← hq] at hmin
      have w3 := (hpow_spec s q 1 (SM_B1 h1) (by omega) (by decide) (by omega)).frozen
      have w4 := small23_spec (s ^ q) 51 (by decide) (by decide) (pow_lt51 (SM_B1 h1) (by omega))
      generalize sg s 1 = c at *
      have hz : ∀ k, s ^ k < SM → ZB (gpow x k) 1 := fun k h => ZB_small (Nat.lt_of_le_of_lt (pw k) h)
      have pm := fun k h => mul23_spec (gpow x k) x 1 (by decide) (hz k h) zx
      have hnum := fun k (h : s ^ k < SM) => num23_spec (gpow x k) (gsz_parts (Nat.lt_of_le_of_lt (pw k) h))
      have p10 := of23_spec (1, 0) (by unfold Pi; decide)
      simp only [nV, LV, LZ] at p1 p2 p10 ⊢
      by_cases hA : 1 < s ∧ 50 ≤ m
      · have e0 : pE x m = 13 := by
          rw [e]; refine if_neg fun h => ?_
          have h2 : 2 ^ m ≤ s ^ m := Nat.pow_le_pow_left hA.1 m
          have h3 : 2 ^ 50 ≤ 2 ^ m := Nat.pow_le_pow_right (by decide) hA.2
          simp only [SM] at h; omega
        have hA1 := hA.1
        have hA2 : (50 : Int) ≤ (m : Int) := by omega
        rw [show pF x m = (0, 0) from if_neg (by rw [e0]; decide), e0]
        refine AFun.mkc fol J0s Try.func44 rfl (ac := a44) (by kernel_rfl) (rs := [.c 4 true 2, .t 5]) (by kernel_rfl) rfl ?_
        apply vm_start
        unfold a44
        simp only [init_eq, initE]
        have zc1 := p1
        have zc2 := p2
        have zc3 := p3
        have zc4 := w1
        have zc5 := w2
        repeat first | (refine hK _ ?_; clear hK K) | simp only [Sv, ↓reduceIte, Nat.reduceEqDiff] | ((first | refine vm_reg (fun K hK => ?_) | refine vm_dreg (fun K hK => ?_) | refine clp_q ?_ | refine clq_mk (by assumption) ?_); simp (disch := (first | omega | assumption)) only [S1, ↓reduceIte, Nat.reduceEqDiff, Nat.reduceAdd, Nat.reduceMul, Nat.reduceDiv, AOp.sb, AOp.mut, ↓Bool.false_eq_true, beq_self_eq_true, ite_self, Nat.reduceLeDiff, Int.reduceEq, Int.reduceSub, Int.reduceAdd, Int.reduceNeg, Int.reduceLT, Int.reduceLE, Nat.reduceLT, bz_R23c, h0, sg1, hA1, hA2])
        simp (disch := (first | omega | assumption)) only [retC, rsVs_nil, rsVs_cons, rsV_t, rsV_c, rsp_pt, rsq_t, rsq_f, ocons_ss, retV_1, retV_2, retNV_nil, retNV_cons, retOk, retN, ret1, retF, ret1F, V.okArg, and_true, true_and, S1, ↓reduceIte, Nat.reduceEqDiff, Nat.reduceAdd, Nat.reduceMul, Nat.reduceDiv, AOp.sb, AOp.mut, ↓Bool.false_eq_true, beq_self_eq_true, ite_self, Nat.reduceLeDiff, Int.reduceEq, Int.reduceSub, Int.reduceAdd, Int.reduceNeg, Int.reduceLT, Int.reduceLE, Nat.reduceLT, bz_R23c]
      · rcases Nat.lt_or_ge 1 s with c1 | c1
        · have hm50 : m < 50 := by omega
          have hA1 : ¬ (50 : Int) ≤ (m : Int) := by omega
          have hqm : q = m := by omega
          subst hqm
          by_cases hsm : s ^ q < SM
          · have e0 : pE x q = 0 := by rw [e]; exact if_pos hsm
            rw [show pF x q = gpow x q from if_pos e0, e0]
            rw [decide_eq_true hsm] at w4
            have c2 : ¬ s ≤ 1 := by omega
            by_cases h4 : (4 : Int) < (q : Int)
            · refine AFun.mkc fol J0s Try.func44 rfl (ac := a44) (by kernel_rfl) (rs := [.c 4 true 2, .t 5]) (by kernel_rfl) rfl ?_
              apply vm_start
              unfold a44
              simp only [init_eq, initE]
              have zc6 := p1
              have zc7 := p2
              have zc8 := p3
              have zc9 := w1
              have zc10 := w2
              have zc11 := w3
              have zc12 := w4
              have zc13 := p10
              repeat first | (refine hK _ ?_; clear hK K) | simp only [Sv, ↓reduceIte, Nat.reduceEqDiff] | ((first | refine vm_reg (fun K hK => ?_) | refine vm_dreg (fun K hK => ?_) | refine clp_q ?_ | refine clq_mk (by assumption) ?_); simp (disch := (first | omega | assumption)) only [S1, ↓reduceIte, Nat.reduceEqDiff, Nat.reduceAdd, Nat.reduceMul, Nat.reduceDiv, AOp.sb, AOp.mut, ↓Bool.false_eq_true, beq_self_eq_true, ite_self, Nat.reduceLeDiff, Int.reduceEq, Int.reduceSub, Int.reduceAdd, Int.reduceNeg, Int.reduceLT, Int.reduceLE, Nat.reduceLT, bz_R23c, h0, sg1, sg2, hmin, c1, hA1, c2, h4])
              refine vm_loopA [] Nat (fun k => ⟨[(1, .i .i64 (q : Int)), (2, .pt 0 0), (4, .pt 1 0), (7, .pt 2 0), (8, .i .i64 (k : Int))],
                  [(0, some ⟨27, 2, [.i .i64 x.1, .i .i64 x.2], true, true⟩), (1, some ⟨27, 2, [.i .i64 0, .i .i64 0], true, true⟩),
                   (2, some ⟨90, 4, [.b (decide ((gpow x k).1 < 0)), .l 1 (W (dg B (gpow x k).1.natAbs)), .b (decide ((gpow x k).2 < 0)), .l 1 (W (dg B (gpow x k).2.natAbs))], true, true⟩)], 3⟩)
                (fun k => k ≤ q) (fun k => q - k) 0 (Nat.zero_le _) (by simp (disch := (first | omega | assumption)) only [Sl, Sa, Sw, ↓reduceIte, Nat.reduceEqDiff, Nat.reduceLT, List.all_nil, List.all_cons, Nat.reduceBneDiff, Nat.reduceAdd, bne_iff_ne, ne_eq, reduceCtorEq, not_false_eq_true, not_true_eq_false, Bool.and_true, Bool.true_and, and_true, true_and, and_self]) (by
                simp (disch := (first | omega | assumption)) only [Sl, Sa, Sw, ↓reduceIte, Nat.reduceEqDiff, Nat.reduceLT, List.all_nil, List.all_cons, Nat.reduceBneDiff, Nat.reduceAdd, bne_iff_ne, ne_eq, reduceCtorEq, not_false_eq_true, not_true_eq_false, Bool.and_true, Bool.true_and, and_true, true_and, and_self, i_eq]
                repeat' first | rfl | omega | (simp only [List.length_append, List.length_cons, List.length_nil]; done) | apply And.intro) ?_
              rintro k hk Q' hQ he hr
              by_cases hkm : (k : Int) < (q : Int)
              · have pk := pm k (pow_mono1 hk hsm)
                rw [show gmul (gpow x k) x = gpow x (k + 1) from rfl] at pk
                simp only [LV, LZ] at pk
                have hl1 : k + 1 ≤ q := by omega
                obtain ⟨g', hg'⟩ : ∃ g', g' = gpow x (k + 1) := ⟨_, rfl⟩
                rw [← hg'] at pk
                have zc14 := p1
                have zc15 := pk
                repeat first | (refine hK _ ?_; clear hK K) | simp only [Sv, ↓reduceIte, Nat.reduceEqDiff] | ((first | refine vm_reg (fun K hK => ?_) | refine vm_dreg (fun K hK => ?_) | refine clp_q ?_ | refine clq_mk (by assumption) ?_); simp (disch := (first | omega | assumption)) only [S1, ↓reduceIte, Nat.reduceEqDiff, Nat.reduceAdd, Nat.reduceMul, Nat.reduceDiv, AOp.sb, AOp.mut, ↓Bool.false_eq_true, beq_self_eq_true, ite_self, Nat.reduceLeDiff, Int.reduceEq, Int.reduceSub, Int.reduceAdd, Int.reduceNeg, Int.reduceLT, Int.reduceLE, Nat.reduceLT, bz_R23c, hkm])
                refine hQ _ (k + 1) hl1 (by omega) ?_
                simp (disch := (first | omega | assumption)) only [Sl, Sa, Sw, ↓reduceIte, Nat.reduceEqDiff, Nat.reduceLT, List.all_nil, List.all_cons, Nat.reduceBneDiff, Nat.reduceAdd, bne_iff_ne, ne_eq, reduceCtorEq, not_false_eq_true, not_true_eq_false, Bool.and_true, Bool.true_and, and_true, true_and, and_self, i_eq]
                rw [hg']
                repeat' first | rfl | omega | (simp only [List.length_append, List.length_cons, List.length_nil]; done) | apply And.intro
              · obtain rfl : k = q := by omega
                have hnu := hnum k hsm
                simp only [nV, LV, LZ] at hnu
                repeat first
                  | (refine hK _ ?_; clear hK K)
                  | ((first | refine vm_reg (fun K hK => ?_) | refine vm_dreg (fun K hK => ?_)); simp (disch := (first | omega | assumption)) only [S1, ↓reduceIte, Nat.reduceEqDiff, Nat.reduceAdd, Nat.reduceMul, Nat.reduceDiv, AOp.sb, AOp.mut, ↓Bool.false_eq_true, beq_self_eq_true, ite_self, Nat.reduceLeDiff, Int.reduceEq, Int.reduceSub, Int.reduceAdd, Int.reduceNeg, Int.reduceLT, Int.reduceLE, Nat.reduceLT, bz_R23c, hkm]; refine hK _ ?_; clear hK K)
                  | simp only [Sv, ↓reduceIte, Nat.reduceEqDiff]
                refine he _ _ ?_
                have zc16 := hnu
                repeat first | (refine hK _ ?_; clear hK K) | simp only [Sv, ↓reduceIte, Nat.reduceEqDiff] | ((first | refine vm_reg (fun K hK => ?_) | refine vm_dreg (fun K hK => ?_) | refine clp_q ?_ | refine clq_mk (by assumption) ?_); simp (disch := (first | omega | assumption)) only [S1, ↓reduceIte, Nat.reduceEqDiff, Nat.reduceAdd, Nat.reduceMul, Nat.reduceDiv, AOp.sb, AOp.mut, ↓Bool.false_eq_true, beq_self_eq_true, ite_self, Nat.reduceLeDiff, Int.reduceEq, Int.reduceSub, Int.reduceAdd, Int.reduceNeg, Int.reduceLT, Int.reduceLE, Nat.reduceLT, bz_R23c])
                simp (disch := (first | omega | assumption)) only [retC, rsVs_nil, rsVs_cons, rsV_t, rsV_c, rsp_pt, rsq_t, rsq_f, ocons_ss, retV_1, retV_2, retNV_nil, retNV_cons, retOk, retN, ret1, retF, ret1F, V.okArg, and_true, true_and, S1, ↓reduceIte, Nat.reduceEqDiff, Nat.reduceAdd, Nat.reduceMul, Nat.reduceDiv, AOp.sb, AOp.mut, ↓Bool.false_eq_true, beq_self_eq_true, ite_self, Nat.reduceLeDiff, Int.reduceEq, Int.reduceSub, Int.reduceAdd, Int.reduceNeg, Int.reduceLT, Int.reduceLE, Nat.reduceLT, bz_R23c]
            · refine AFun.mkc fol J0s Try.func44 rfl (ac := a44) (by kernel_rfl) (rs := [.c 4 true 2, .t 5]) (by kernel_rfl) rfl ?_
              apply vm_start
              unfold a44
              simp only [init_eq, initE]
              have zc17 := p1
              have zc18 := p2
              have zc19 := p3
              have zc20 := w1
              have zc21 := w2
              have zc22 := w3
              have zc23 := w4
              have zc24 := p10
              repeat first | (refine hK _ ?_; clear hK K) | simp only [Sv, ↓reduceIte, Nat.reduceEqDiff] | ((first | refine vm_reg (fun K hK => ?_) | refine vm_dreg (fun K hK => ?_) | refine clp_q ?_ | refine clq_mk (by assumption) ?_); simp (disch := (first | omega | assumption)) only [S1, ↓reduceIte, Nat.reduceEqDiff, Nat.reduceAdd, Nat.reduceMul, Nat.reduceDiv, AOp.sb, AOp.mut, ↓Bool.false_eq_true, beq_self_eq_true, ite_self, Nat.reduceLeDiff, Int.reduceEq, Int.reduceSub, Int.reduceAdd, Int.reduceNeg, Int.reduceLT, Int.reduceLE, Nat.reduceLT, bz_R23c, h0, sg1, sg2, hmin, c1, hA1, c2, h4])
              refine vm_loopA [] Nat (fun k => ⟨[(1, .i .i64 (q : Int)), (2, .pt 0 0), (4, .pt 1 0), (7, .pt 2 0), (8, .i .i64 (k : Int))],
                  [(0, some ⟨27, 2, [.i .i64 x.1, .i .i64 x.2], true, true⟩), (1, some ⟨27, 2, [.i .i64 0, .i .i64 0], true, true⟩),
                   (2, some ⟨90, 4, [.b (decide ((gpow x k).1 < 0)), .l 1 (W (dg B (gpow x k).1.natAbs)), .b (decide ((gpow x k).2 < 0)), .l 1 (W (dg B (gpow x k).2.natAbs))], true, true⟩)], 3⟩)
                (fun k => k ≤ q) (fun k => q - k) 0 (Nat.zero_le _) (by simp (disch := (first | omega | assumption)) only [Sl, Sa, Sw, ↓reduceIte, Nat.reduceEqDiff, Nat.reduceLT, List.all_nil, List.all_cons, Nat.reduceBneDiff, Nat.reduceAdd, bne_iff_ne, ne_eq, reduceCtorEq, not_false_eq_true, not_true_eq_false, Bool.and_true, Bool.true_and, and_true, true_and, and_self]) (by
                simp (disch := (first | omega | assumption)) only [Sl, Sa, Sw, ↓reduceIte, Nat.reduceEqDiff, Nat.reduceLT, List.all_nil, List.all_cons, Nat.reduceBneDiff, Nat.reduceAdd, bne_iff_ne, ne_eq, reduceCtorEq, not_false_eq_true, not_true_eq_false, Bool.and_true, Bool.true_and, and_true, true_and, and_self, i_eq]
                repeat' first | rfl | omega | (simp only [List.length_append, List.length_cons, List.length_nil]; done) | apply And.intro) ?_
              rintro k hk Q' hQ he hr
              by_cases hkm : (k : Int) < (q : Int)
              · have pk := pm k (pow_mono1 hk hsm)
                rw [show gmul (gpow x k) x = gpow x (k + 1) from rfl] at pk
                simp only [LV, LZ] at pk
                have hl1 : k + 1 ≤ q := by omega
                obtain ⟨g', hg'⟩ : ∃ g', g' = gpow x (k + 1) := ⟨_, rfl⟩
                rw [← hg'] at pk
                have zc25 := p1
                have zc26 := pk
                repeat first | (refine hK _ ?_; clear hK K) | simp only [Sv, ↓reduceIte, Nat.reduceEqDiff] | ((first | refine vm_reg (fun K hK => ?_) | refine vm_dreg (fun K hK => ?_) | refine clp_q ?_ | refine clq_mk (by assumption) ?_); simp (disch := (first | omega | assumption)) only [S1, ↓reduceIte, Nat.reduceEqDiff, Nat.reduceAdd, Nat.reduceMul, Nat.reduceDiv, AOp.sb, AOp.mut, ↓Bool.false_eq_true, beq_self_eq_true, ite_self, Nat.reduceLeDiff, Int.reduceEq, Int.reduceSub, Int.reduceAdd, Int.reduceNeg, Int.reduceLT, Int.reduceLE, Nat.reduceLT, bz_R23c, hkm])
                refine hQ _ (k + 1) hl1 (by omega) ?_
                simp (disch := (first | omega | assumption)) only [Sl, Sa, Sw, ↓reduceIte, Nat.reduceEqDiff, Nat.reduceLT, List.all_nil, List.all_cons, Nat.reduceBneDiff, Nat.reduceAdd, bne_iff_ne, ne_eq, reduceCtorEq, not_false_eq_true, not_true_eq_false, Bool.and_true, Bool.true_and, and_true, true_and, and_self, i_eq]
                rw [hg']
                repeat' first | rfl | omega | (simp only [List.length_append, List.length_cons, List.length_nil]; done) | apply And.intro
              · obtain rfl : k = q := by omega
                have hnu := hnum k hsm
                simp only [nV, LV, LZ] at hnu
                repeat first
                  | (refine hK _ ?_; clear hK K)
                  | ((first | refine vm_reg (fun K hK => ?_) | refine vm_dreg (fun K hK => ?_)); simp (disch := (first | omega | assumption)) only [S1, ↓reduceIte, Nat.reduceEqDiff, Nat.reduceAdd, Nat.reduceMul, Nat.reduceDiv, AOp.sb, AOp.mut, ↓Bool.false_eq_true, beq_self_eq_true, ite_self, Nat.reduceLeDiff, Int.reduceEq, Int.reduceSub, Int.reduceAdd, Int.reduceNeg, Int.reduceLT, Int.reduceLE, Nat.reduceLT, bz_R23c, hkm]; refine hK _ ?_; clear hK K)
                  | simp only [Sv, ↓reduceIte, Nat.reduceEqDiff]
                refine he _ _ ?_
                have zc27 := hnu
                repeat first | (refine hK _ ?_; clear hK K) | simp only [Sv, ↓reduceIte, Nat.reduceEqDiff] | ((first | refine vm_reg (fun K hK => ?_) | refine vm_dreg (fun K hK => ?_) | refine clp_q ?_ | refine clq_mk (by assumption) ?_); simp (disch := (first | omega | assumption)) only [S1, ↓reduceIte, Nat.reduceEqDiff, Nat.reduceAdd, Nat.reduceMul, Nat.reduceDiv, AOp.sb, AOp.mut, ↓Bool.false_eq_true, beq_self_eq_true, ite_self, Nat.reduceLeDiff, Int.reduceEq, Int.reduceSub, Int.reduceAdd, Int.reduceNeg, Int.reduceLT, Int.reduceLE, Nat.reduceLT, bz_R23c])
                simp (disch := (first | omega | assumption)) only [retC, rsVs_nil, rsVs_cons, rsV_t, rsV_c, rsp_pt, rsq_t, rsq_f, ocons_ss, retV_1, retV_2, retNV_nil, retNV_cons, retOk, retN, ret1, retF, ret1F, V.okArg, and_true, true_and, S1, ↓reduceIte, Nat.reduceEqDiff, Nat.reduceAdd, Nat.reduceMul, Nat.reduceDiv, AOp.sb, AOp.mut, ↓Bool.false_eq_true, beq_self_eq_true, ite_self, Nat.reduceLeDiff, Int.reduceEq, Int.reduceSub, Int.reduceAdd, Int.reduceNeg, Int.reduceLT, Int.reduceLE, Nat.reduceLT, bz_R23c]
          · have e0 : pE x q = 13 := by rw [e]; exact if_neg hsm
            rw [decide_eq_false hsm] at w4
            rw [show pF x q = (0, 0) from if_neg (by rw [e0]; decide), e0]
            refine AFun.mkc fol J0s Try.func44 rfl (ac := a44) (by kernel_rfl) (rs := [.c 4 true 2, .t 5]) (by kernel_rfl) rfl ?_
            apply vm_start
            unfold a44
            simp only [init_eq, initE]
            have zc28 := p1
            have zc29 := p2
            have zc30 := p3
            have zc31 := w1
            have zc32 := w2
            have zc33 := w3
            have zc34 := w4
            have zc35 := p10
            repeat first | (refine hK _ ?_; clear hK K) | simp only [Sv, ↓reduceIte, Nat.reduceEqDiff] | ((first | refine vm_reg (fun K hK => ?_) | refine vm_dreg (fun K hK => ?_) | refine clp_q ?_ | refine clq_mk (by assumption) ?_); simp (disch := (first | omega | assumption)) only [S1, ↓reduceIte, Nat.reduceEqDiff, Nat.reduceAdd, Nat.reduceMul, Nat.reduceDiv, AOp.sb, AOp.mut, ↓Bool.false_eq_true, beq_self_eq_true, ite_self, Nat.reduceLeDiff, Int.reduceEq, Int.reduceSub, Int.reduceAdd, Int.reduceNeg, Int.reduceLT, Int.reduceLE, Nat.reduceLT, bz_R23c, h0, sg1, sg2, hmin, c1, hA1])
            simp (disch := (first | omega | assumption)) only [retC, rsVs_nil, rsVs_cons, rsV_t, rsV_c, rsp_pt, rsq_t, rsq_f, ocons_ss, retV_1, retV_2, retNV_nil, retNV_cons, retOk, retN, ret1, retF, ret1F, V.okArg, and_true, true_and, S1, ↓reduceIte, Nat.reduceEqDiff, Nat.reduceAdd, Nat.reduceMul, Nat.reduceDiv, AOp.sb, AOp.mut, ↓Bool.false_eq_true, beq_self_eq_true, ite_self, Nat.reduceLeDiff, Int.reduceEq, Int.reduceSub, Int.reduceAdd, Int.reduceNeg, Int.reduceLT, Int.reduceLE, Nat.reduceLT, bz_R23c]
        · have c2 : ¬ 1 < s := by omega
          have hsm0 : s ^ m < SM := pow_le1 c1 m
          have e0 : pE x m = 0 := by rw [e]; exact if_pos hsm0
          rw [decide_eq_true (pow_le1 c1 q)] at w4
          by_cases h4 : (4 : Int) < (m : Int)
          · have hN : gpow x m = gpow x (4 + m % 4) := gpow_le1 (by omega) (by omega)
            rw [show pF x m = gpow x m from if_pos e0, e0, hN]
            have hml : m % 4 < 4 := Nat.mod_lt _ (by decide)
            have htm : (m : Int).tmod 4 = ((m % 4 : Nat) : Int) := rfl
            obtain ⟨N, hNe⟩ : ∃ N, N = 4 + m % 4 := ⟨_, rfl⟩
            have hNI : (4 : Int) + ((m % 4 : Nat) : Int) = (N : Int) := by omega
            have hNw : IntKind.i64.wrap (N : Int) = (N : Int) := wi (by omega)
            have hsm : s ^ N < SM := pow_le1 c1 N
            rw [← hNe]
            refine AFun.mkc fol J0s Try.func44 rfl (ac := a44) (by kernel_rfl) (rs := [.c 4 true 2, .t 5]) (by kernel_rfl) rfl ?_
            apply vm_start
            unfold a44
            simp only [init_eq, initE]
            have zc36 := p1
            have zc37 := p2
            have zc38 := p3
            have zc39 := w1
            have zc40 := w2
            have zc41 := w3
            have zc42 := w4
            have zc43 := p10
            repeat first | (refine hK _ ?_; clear hK K) | simp only [Sv, ↓reduceIte, Nat.reduceEqDiff] | ((first | refine vm_reg (fun K hK => ?_) | refine vm_dreg (fun K hK => ?_) | refine clp_q ?_ | refine clq_mk (by assumption) ?_); simp (disch := (first | omega | assumption)) only [S1, ↓reduceIte, Nat.reduceEqDiff, Nat.reduceAdd, Nat.reduceMul, Nat.reduceDiv, AOp.sb, AOp.mut, ↓Bool.false_eq_true, beq_self_eq_true, ite_self, Nat.reduceLeDiff, Int.reduceEq, Int.reduceSub, Int.reduceAdd, Int.reduceNeg, Int.reduceLT, Int.reduceLE, Nat.reduceLT, bz_R23c, h0, sg1, sg2, hmin, c1, c2, h4, htm, hNI, hNw])
            refine vm_loopA [] Nat (fun k => ⟨[(1, .i .i64 (N : Int)), (2, .pt 0 0), (4, .pt 1 0), (7, .pt 2 0), (8, .i .i64 (k : Int))],
                [(0, some ⟨27, 2, [.i .i64 x.1, .i .i64 x.2], true, true⟩), (1, some ⟨27, 2, [.i .i64 0, .i .i64 0], true, true⟩),
                 (2, some ⟨90, 4, [.b (decide ((gpow x k).1 < 0)), .l 1 (W (dg B (gpow x k).1.natAbs)), .b (decide ((gpow x k).2 < 0)), .l 1 (W (dg B (gpow x k).2.natAbs))], true, true⟩)], 3⟩)
              (fun k => k ≤ N) (fun k => N - k) 0 (Nat.zero_le _) (by simp (disch := (first | omega | assumption)) only [Sl, Sa, Sw, ↓reduceIte, Nat.reduceEqDiff, Nat.reduceLT, List.all_nil, List.all_cons, Nat.reduceBneDiff, Nat.reduceAdd, bne_iff_ne, ne_eq, reduceCtorEq, not_false_eq_true, not_true_eq_false, Bool.and_true, Bool.true_and, and_true, true_and, and_self]) (by
              simp (disch := (first | omega | assumption)) only [Sl, Sa, Sw, ↓reduceIte, Nat.reduceEqDiff, Nat.reduceLT, List.all_nil, List.all_cons, Nat.reduceBneDiff, Nat.reduceAdd, bne_iff_ne, ne_eq, reduceCtorEq, not_false_eq_true, not_true_eq_false, Bool.and_true, Bool.true_and, and_true, true_and, and_self, i_eq]
              repeat' first | rfl | omega | (simp only [List.length_append, List.length_cons, List.length_nil]; done) | apply And.intro) ?_
            rintro k hk Q' hQ he hr
            by_cases hkm : (k : Int) < (N : Int)
            · have pk := pm k (pow_mono1 hk hsm)
              rw [show gmul (gpow x k) x = gpow x (k + 1) from rfl] at pk
              simp only [LV, LZ] at pk
              have hl1 : k + 1 ≤ N := by omega
              obtain ⟨g', hg'⟩ : ∃ g', g' = gpow x (k + 1) := ⟨_, rfl⟩
              rw [← hg'] at pk
              have zc44 := p1
              have zc45 := pk
              repeat first | (refine hK _ ?_; clear hK K) | simp only [Sv, ↓reduceIte, Nat.reduceEqDiff] | ((first | refine vm_reg (fun K hK => ?_) | refine vm_dreg (fun K hK => ?_) | refine clp_q ?_ | refine clq_mk (by assumption) ?_); simp (disch := (first | omega | assumption)) only [S1, ↓reduceIte, Nat.reduceEqDiff, Nat.reduceAdd, Nat.reduceMul, Nat.reduceDiv, AOp.sb, AOp.mut, ↓Bool.false_eq_true, beq_self_eq_true, ite_self, Nat.reduceLeDiff, Int.reduceEq, Int.reduceSub, Int.reduceAdd, Int.reduceNeg, Int.reduceLT, Int.reduceLE, Nat.reduceLT, bz_R23c, hkm])
              refine hQ _ (k + 1) hl1 (by omega) ?_
              simp (disch := (first | omega | assumption)) only [Sl, Sa, Sw, ↓reduceIte, Nat.reduceEqDiff, Nat.reduceLT, List.all_nil, List.all_cons, Nat.reduceBneDiff, Nat.reduceAdd, bne_iff_ne, ne_eq, reduceCtorEq, not_false_eq_true, not_true_eq_false, Bool.and_true, Bool.true_and, and_true, true_and, and_self, i_eq]
              rw [hg']
              repeat' first | rfl | omega | (simp only [List.length_append, List.length_cons, List.length_nil]; done) | apply And.intro
            · obtain rfl : k = N := by omega
              have hnu := hnum k hsm
              simp only [nV, LV, LZ] at hnu
              repeat first
                | (refine hK _ ?_; clear hK K)
                | ((first | refine vm_reg (fun K hK => ?_) | refine vm_dreg (fun K hK => ?_)); simp (disch := (first | omega | assumption)) only [S1, ↓reduceIte, Nat.reduceEqDiff, Nat.reduceAdd, Nat.reduceMul, Nat.reduceDiv, AOp.sb, AOp.mut, ↓Bool.false_eq_true, beq_self_eq_true, ite_self, Nat.reduceLeDiff, Int.reduceEq, Int.reduceSub, Int.reduceAdd, Int.reduceNeg, Int.reduceLT, Int.reduceLE, Nat.reduceLT, bz_R23c, hkm]; refine hK _ ?_; clear hK K)
                | simp only [Sv, ↓reduceIte, Nat.reduceEqDiff]
              refine he _ _ ?_
              have zc46 := hnu
              repeat first | (refine hK _ ?_; clear hK K) | simp only [Sv, ↓reduceIte, Nat.reduceEqDiff] | ((first | refine vm_reg (fun K hK => ?_) | refine vm_dreg (fun K hK => ?_) | refine clp_q ?_ | refine clq_mk (by assumption) ?_); simp (disch := (first | omega | assumption)) only [S1, ↓reduceIte, Nat.reduceEqDiff, Nat.reduceAdd, Nat.reduceMul, Nat.reduceDiv, AOp.sb, AOp.mut, ↓Bool.false_eq_true, beq_self_eq_true, ite_self, Nat.reduceLeDiff, Int.reduceEq, Int.reduceSub, Int.reduceAdd, Int.reduceNeg, Int.reduceLT, Int.reduceLE, Nat.reduceLT, bz_R23c])
              simp (disch := (first | omega | assumption)) only [retC, rsVs_nil, rsVs_cons, rsV_t, rsV_c, rsp_pt, rsq_t, rsq_f, ocons_ss, retV_1, retV_2, retNV_nil, retNV_cons, retOk, retN, ret1, retF, ret1F, V.okArg, and_true, true_and, S1, ↓reduceIte, Nat.reduceEqDiff, Nat.reduceAdd, Nat.reduceMul, Nat.reduceDiv, AOp.sb, AOp.mut, ↓Bool.false_eq_true, beq_self_eq_true, ite_self, Nat.reduceLeDiff, Int.reduceEq, Int.reduceSub, Int.reduceAdd, Int.reduceNeg, Int.reduceLT, Int.reduceLE, Nat.reduceLT, bz_R23c]
          · have hsm := hsm0
            rw [show pF x m = gpow x m from if_pos e0, e0]
            refine AFun.mkc fol J0s Try.func44 rfl (ac := a44) (by kernel_rfl) (rs := [.c 4 true 2, .t 5]) (by kernel_rfl) rfl ?_
            apply vm_start
            unfold a44
            simp only [init_eq, initE]
            have zc47 := p1
            have zc48 := p2
            have zc49 := p3
            have zc50 := w1
            have zc51 := w2
            have zc52 := w3
            have zc53 := w4
            have zc54 := p10
            repeat first | (refine hK _ ?_; clear hK K) | simp only [Sv, ↓reduceIte, Nat.reduceEqDiff] | ((first | refine vm_reg (fun K hK => ?_) | refine vm_dreg (fun K hK => ?_) | refine clp_q ?_ | refine clq_mk (by assumption) ?_); simp (disch := (first | omega | assumption)) only [S1, ↓reduceIte, Nat.reduceEqDiff, Nat.reduceAdd, Nat.reduceMul, Nat.reduceDiv, AOp.sb, AOp.mut, ↓Bool.false_eq_true, beq_self_eq_true, ite_self, Nat.reduceLeDiff, Int.reduceEq, Int.reduceSub, Int.reduceAdd, Int.reduceNeg, Int.reduceLT, Int.reduceLE, Nat.reduceLT, bz_R23c, h0, sg1, sg2, hmin, c1, c2, h4])
            refine vm_loopA [] Nat (fun k => ⟨[(1, .i .i64 (m : Int)), (2, .pt 0 0), (4, .pt 1 0), (7, .pt 2 0), (8, .i .i64 (k : Int))],
                [(0, some ⟨27, 2, [.i .i64 x.1, .i .i64 x.2], true, true⟩), (1, some ⟨27, 2, [.i .i64 0, .i .i64 0], true, true⟩),
                 (2, some ⟨90, 4, [.b (decide ((gpow x k).1 < 0)), .l 1 (W (dg B (gpow x k).1.natAbs)), .b (decide ((gpow x k).2 < 0)), .l 1 (W (dg B (gpow x k).2.natAbs))], true, true⟩)], 3⟩)
              (fun k => k ≤ m) (fun k => m - k) 0 (Nat.zero_le _) (by simp (disch := (first | omega | assumption)) only [Sl, Sa, Sw, ↓reduceIte, Nat.reduceEqDiff, Nat.reduceLT, List.all_nil, List.all_cons, Nat.reduceBneDiff, Nat.reduceAdd, bne_iff_ne, ne_eq, reduceCtorEq, not_false_eq_true, not_true_eq_false, Bool.and_true, Bool.true_and, and_true, true_and, and_self]) (by
              simp (disch := (first | omega | assumption)) only [Sl, Sa, Sw, ↓reduceIte, Nat.reduceEqDiff, Nat.reduceLT, List.all_nil, List.all_cons, Nat.reduceBneDiff, Nat.reduceAdd, bne_iff_ne, ne_eq, reduceCtorEq, not_false_eq_true, not_true_eq_false, Bool.and_true, Bool.true_and, and_true, true_and, and_self, i_eq]
              repeat' first | rfl | omega | (simp only [List.length_append, List.length_cons, List.length_nil]; done) | apply And.intro) ?_
            rintro k hk Q' hQ he hr
            by_cases hkm : (k : Int) < (m : Int)
            · have pk := pm k (pow_mono1 hk hsm)
              rw [show gmul (gpow x k) x = gpow x (k + 1) from rfl] at pk
              simp only [LV, LZ] at pk
              have hl1 : k + 1 ≤ m := by omega
              obtain ⟨g', hg'⟩ : ∃ g', g' = gpow x (k + 1) := ⟨_, rfl⟩
              rw [← hg'] at pk
              have zc55 := p1
              have zc56 := pk
              repeat first | (refine hK _ ?_; clear hK K) | simp only [Sv, ↓reduceIte, Nat.reduceEqDiff] | ((first | refine vm_reg (fun K hK => ?_) | refine vm_dreg (fun K hK => ?_) | refine clp_q ?_ | refine clq_mk (by assumption) ?_); simp (disch := (first | omega | assumption)) only [S1, ↓reduceIte, Nat.reduceEqDiff, Nat.reduceAdd, Nat.reduceMul, Nat.reduceDiv, AOp.sb, AOp.mut, ↓Bool.false_eq_true, beq_self_eq_true, ite_self, Nat.reduceLeDiff, Int.reduceEq, Int.reduceSub, Int.reduceAdd, Int.reduceNeg, Int.reduceLT, Int.reduceLE, Nat.reduceLT, bz_R23c, hkm])
              refine hQ _ (k + 1) hl1 (by omega) ?_
              simp (disch := (first | omega | assumption)) only [Sl, Sa, Sw, ↓reduceIte, Nat.reduceEqDiff, Nat.reduceLT, List.all_nil, List.all_cons, Nat.reduceBneDiff, Nat.reduceAdd, bne_iff_ne, ne_eq, reduceCtorEq, not_false_eq_true, not_true_eq_false, Bool.and_true, Bool.true_and, and_true, true_and, and_self, i_eq]
              rw [hg']
              repeat' first | rfl | omega | (simp only [List.length_append, List.length_cons, List.length_nil]; done) | apply And.intro
            · obtain rfl : k = m := by omega
              have hnu := hnum k hsm
              simp only [nV, LV, LZ] at hnu
              repeat first
                | (refine hK _ ?_; clear hK K)
                | ((first | refine vm_reg (fun K hK => ?_) | refine vm_dreg (fun K hK => ?_)); simp (disch := (first | omega | assumption)) only [S1, ↓reduceIte, Nat.reduceEqDiff, Nat.reduceAdd, Nat.reduceMul, Nat.reduceDiv, AOp.sb, AOp.mut, ↓Bool.false_eq_true, beq_self_eq_true, ite_self, Nat.reduceLeDiff, Int.reduceEq, Int.reduceSub, Int.reduceAdd, Int.reduceNeg, Int.reduceLT, Int.reduceLE, Nat.reduceLT, bz_R23c, hkm]; refine hK _ ?_; clear hK K)
                | simp only [Sv, ↓reduceIte, Nat.reduceEqDiff]
              refine he _ _ ?_
              have zc57 := hnu
              repeat first | (refine hK _ ?_; clear hK K) | simp only [Sv, ↓reduceIte, Nat.reduceEqDiff] | ((first | refine vm_reg (fun K hK => ?_) | refine vm_dreg (fun K hK => ?_) | refine clp_q ?_ | refine clq_mk (by assumption) ?_); simp (disch := (first | omega | assumption)) only [S1, ↓reduceIte, Nat.reduceEqDiff, Nat.reduceAdd, Nat.reduceMul, Nat.reduceDiv, AOp.sb, AOp.mut, ↓Bool.false_eq_true, beq_self_eq_true, ite_self, Nat.reduceLeDiff, Int.reduceEq, Int.reduceSub, Int.reduceAdd, Int.reduceNeg, Int.reduceLT, Int.reduceLE, Nat.reduceLT, bz_R23c])
              simp (disch := (first | omega | assumption)) only [retC, rsVs_nil, rsVs_cons, rsV_t, rsV_c, rsp_pt, rsq_t, rsq_f, ocons_ss, retV_1, retV_2, retNV_nil, retNV_cons, retOk, retN, ret1, retF, ret1F, V.okArg, and_true, true_and, S1, ↓reduceIte, Nat.reduceEqDiff, Nat.reduceAdd, Nat.reduceMul, Nat.reduceDiv, AOp.sb, AOp.mut, ↓Bool.false_eq_true, beq_self_eq_true, ite_self, Nat.reduceLeDiff, Int.reduceEq, Int.reduceSub, Int.reduceAdd, Int.reduceNeg, Int.reduceLT, Int.reduceLE, Nat.reduceLT, bz_R23c]
    · rw [decide_eq_false h1] at p3
      have e : pE x m = 13 := by unfold pE; rw [if_neg h0, if_neg h1]
      rw [show pF x m = (0, 0) from if_neg (by rw [e]; decide), e]
      simp only [nV, LV, LZ] at *
      refine AFun.mkc fol J0s Try.func44 rfl (ac := a44) (by kernel_rfl) (rs := [.c 4 true 2, .t 5]) (by kernel_rfl) rfl ?_
      apply vm_start
      unfold a44
      simp only [init_eq, initE]
      have zc58 := p1
      have zc59 := p2
      have zc60 := p3
      repeat first | (refine hK _ ?_; clear hK K) | simp only [Sv, ↓reduceIte, Nat.reduceEqDiff] | ((first | refine vm_reg (fun K hK => ?_) | refine vm_dreg (fun K hK => ?_) | refine clp_q ?_ | refine clq_mk (by assumption) ?_); simp (disch := (first | omega | assumption)) only [S1, ↓reduceIte, Nat.reduceEqDiff, Nat.reduceAdd, Nat.reduceMul, Nat.reduceDiv, AOp.sb, AOp.mut, ↓Bool.false_eq_true, beq_self_eq_true, ite_self, Nat.reduceLeDiff, Int.reduceEq, Int.reduceSub, Int.reduceAdd, Int.reduceNeg, Int.reduceLT, Int.reduceLE, Nat.reduceLT, bz_R23c, h0])
      simp (disch := (first | omega | assumption)) only [retC, rsVs_nil, rsVs_cons, rsV_t, rsV_c, rsp_pt, rsq_t, rsq_f, ocons_ss, retV_1, retV_2, retNV_nil, retNV_cons, retOk, retN, ret1, retF, ret1F, V.okArg, and_true, true_and, S1, ↓reduceIte, Nat.reduceEqDiff, Nat.reduceAdd, Nat.reduceMul, Nat.reduceDiv, AOp.sb, AOp.mut, ↓Bool.false_eq_true, beq_self_eq_true, ite_self, Nat.reduceLeDiff, Int.reduceEq, Int.reduceSub, Int.reduceAdd, Int.reduceNeg, Int.reduceLT, Int.reduceLE, Nat.reduceLT, bz_R23c]
end Go.Proofs.Ytfkldohgiifgbaa
