/-
  GaussHomo: the law's walk.
-/
import Derived.Test.YtfkldohgiifgbaaH1
import Derived.Test.YtfkldohgiifgbaaLGRing
namespace Go.Proofs.Ytfkldohgiifgbaa
open Go Go.RowKit Ab
set_option linter.unusedSimpArgs false
set_option linter.unusedVariables false
set_option maxHeartbeats 10000000
theorem bz_LGHomo : type_of% (And.intro @W_len (And.intro @D_len (And.intro @Nat.div_one (And.intro @Nat.mul_one (And.intro @tn_nat (And.intro @W_nf (And.intro @D_nf (And.intro @W_nil (And.intro @D_nil (And.intro @wi (And.intro @nf_g (And.intro @Bool.false_and (And.intro @W_cell (And.intro @ZC_cell (@ZC_nil))))))))))))))) := And.intro @W_len (And.intro @D_len (And.intro @Nat.div_one (And.intro @Nat.mul_one (And.intro @tn_nat (And.intro @W_nf (And.intro @D_nf (And.intro @W_nil (And.intro @D_nil (And.intro @wi (And.intro @nf_g (And.intro @Bool.false_and (And.intro @W_cell (And.intro @ZC_cell (@ZC_nil))))))))))))))

/-- a coefficient made small -/
def sm1 (p : Bool × List Nat) : Int := if p.1 then -((p.2.headD 0 % 10 : Nat) : Int) else ((p.2.headD 0 % 10 : Nat) : Int)
def sml (l : List (Bool × List Nat)) : List Int := (l.take 5).map sm1
theorem sm1_le (p : Bool × List Nat) : (sm1 p).natAbs ≤ 9 := by unfold sm1; split <;> omega
theorem sml_len (l : List (Bool × List Nat)) : (sml l).length = min 5 l.length := by unfold sml; rw [List.length_map, List.length_take]
theorem sml_Cb (l : List (Bool × List Nat)) : Cb (sml l) 9 := fun i => by
  unfold sml
  rw [List.getD_eq_getElem?_getD, List.getElem?_map]
  cases (l.take 5)[i]? with
  | none => simp
  | some p => exact sm1_le p
theorem sml_get (l : List (Bool × List Nat)) (i : Nat) (h : i < min 5 l.length) : (sml l).getD i 0 = sm1 (l.getD i (false, [])) := by
  unfold sml
  rw [List.getD_eq_getElem?_getD, List.getElem?_map, List.getElem?_take, if_pos (by omega), List.getD_eq_getElem?_getD, List.getElem?_eq_getElem (by omega)]; rfl
theorem ZC_get0 : ∀ (l : List (Bool × List Nat)) (i : Nat), i < l.length → (ZC l).getD (i * 2) .un = .b (l.getD i (false, [])).1
  | [], i, h => by simp at h
  | p :: r, 0, h => rfl
  | p :: r, i + 1, h => by
    have := ZC_get0 r i (by simpa using h)
    rw [show (i + 1) * 2 = (i * 2 + 1) + 1 from by omega]
    exact this
theorem tmod_10 (a : Nat) : (a : Int).tmod 10 = ((a % 10 : Nat) : Int) := rfl
-- surd/surdlaw23.small
def a32 : AC := .seq (.reg [⟨some 2, none, .mv (.k .nl)⟩])
  (.seq (.reg [⟨some 3, none, .mv (.k .nl)⟩])
  (.seq (.seq (.reg [⟨some 4, none, .mv (.k (.i .i64 0))⟩])
    (.blk 0
    (.loop
      (.seq (.seq (.reg [⟨some 6, none, .mv (.t 4)⟩, 
              ⟨some 7, none, .mv (.t 0)⟩, 
              ⟨some 8, none, .len (.t 7)⟩, 
              ⟨some 9, none, .bin .lss (.t 6) (.t 8)⟩, 
              ⟨some 10, none, .mv (.t 9)⟩, 
              ⟨some 11, some (10, true), .mv (.t 4)⟩, 
              ⟨some 12, some (10, true), .bin .lss (.t 11) (.k (.i .i64 5))⟩, 
              ⟨some 13, none, .pick (.t 10) (.t 12) (.k (.b false))⟩])
          (.cond (.t 13)
          (.skip)
          (.exit 0)))
        (.seq (.blk 1
          (.seq (.reg [⟨some 5, none, .mv (.k (.i .i64 0))⟩])
            (.seq (.seq (.reg [⟨some 16, none, .mv (.t 0)⟩, 
                  ⟨some 17, none, .mv (.t 4)⟩, 
                  ⟨some 18, none, .idx 2 (.t 16) (.t 17)⟩, 
                  ⟨some 19, none, .fad 1 (.t 18)⟩, 
                  ⟨some 20, none, .ld false 1 (.t 19)⟩, 
                  ⟨some 21, none, .len (.t 20)⟩, 
                  ⟨some 22, none, .bin .gtr (.t 21) (.k (.i .i64 0))⟩])
              (.cond (.t 22)
              (.reg [⟨some 23, none, .mv (.t 0)⟩, 
                  ⟨some 24, none, .mv (.t 4)⟩, 
                  ⟨some 25, none, .idx 2 (.t 23) (.t 24)⟩, 
                  ⟨some 26, none, .fad 1 (.t 25)⟩, 
                  ⟨some 27, none, .ld false 1 (.t 26)⟩, 
                  ⟨some 28, none, .idx 1 (.t 27) (.k (.i .i64 0))⟩, 
                  ⟨some 29, none, .ld false 1 (.t 28)⟩, 
                  ⟨some 30, none, .bin .rem (.t 29) (.k (.i .u64 10))⟩, 
                  ⟨some 31, none, .cvt .i64 (.t 30)⟩, 
                  ⟨some 5, none, .mv (.t 31)⟩])
              (.skip)))
            (.seq (.seq (.reg [⟨some 32, none, .mv (.t 0)⟩, 
                  ⟨some 33, none, .mv (.t 4)⟩, 
                  ⟨some 34, none, .idx 2 (.t 32) (.t 33)⟩, 
                  ⟨some 35, none, .fad 0 (.t 34)⟩, 
                  ⟨some 36, none, .ld false 1 (.t 35)⟩])
              (.cond (.t 36)
              (.reg [⟨some 37, none, .mv (.t 5)⟩, 
                  ⟨some 38, none, .un .neg (.t 37)⟩, 
                  ⟨some 5, none, .mv (.t 38)⟩])
              (.skip)))
            (.reg [⟨some 39, none, .mv (.t 3)⟩, 
              ⟨some 40, none, .mv (.t 5)⟩, 
              ⟨some 41, none, .call 61 [(1, (.t 40))]⟩, 
              ⟨some 42, none, .bsl 83 2 1 [(.b false), (.l 1 [])] [(0, (.t 41))]⟩, 
              ⟨some 43, none, .app 83 2 32 (.t 39) (.t 42)⟩, 
              ⟨some 3, none, .mv (.t 43)⟩])))))
        (.reg [⟨some 14, none, .mv (.t 4)⟩, 
          ⟨some 15, none, .bin .add (.t 14) (.k (.i .i64 1))⟩, 
          ⟨some 4, none, .mv (.t 15)⟩]))))))
  (.seq (.reg [⟨some 44, none, .mv (.t 3)⟩, 
      ⟨some 2, none, .mv (.t 44)⟩])
  (.ret))))
theorem small_spec (l : List (Bool × List Nat)) (m : Nat) (hm : m ≤ 9223372036854775807) (hl : ZOk l m) : AFun Try.prog J0 32 [.l 2 (ZC l)] (.l 2 (ZC (nfl (sml l)))) := by
  have hz := ZC_len l
  have hd : l.length * 2 / 2 = l.length := by omega
  have hlm : l.length ≤ m := hl.1
  obtain ⟨n, hn⟩ : ∃ n, n = min 5 l.length := ⟨_, rfl⟩
  have ln : (sml l).length = n := by rw [sml_len, hn]
  refine AFun.mk fol J0s Try.func32 rfl (ac := a32) (by kernel_rfl) rfl rfl ?_
  apply vm_start
  unfold a32
  simp only [init_eq, initE]
  repeat first
    | (refine hK _ ?_; clear hK K)
    | ((first | refine vm_reg (fun K hK => ?_) | refine vm_dreg (fun K hK => ?_)); simp (disch := (first | omega | assumption)) only [S1, ↓reduceIte, Nat.reduceEqDiff, Nat.reduceAdd, Nat.reduceMul, Nat.reduceDiv, AOp.sb, AOp.mut, ↓Bool.false_eq_true, beq_self_eq_true, ite_self, Nat.reduceLeDiff, Int.reduceEq, Int.reduceSub, Int.reduceAdd, Int.reduceNeg, Int.reduceLT, Int.reduceLE, Nat.reduceLT, bz_LGHomo]; refine hK _ ?_; clear hK K)
    | simp only [Sv, ↓reduceIte, Nat.reduceEqDiff]
  refine vm_loopA [(3, 83, 2)] Nat (fun i => ⟨[(0, .l 2 (ZC l)), (3, .ow 2 0 i), (4, .i .i64 (i : Int))], [(0, some ⟨83, 2, ZC (nfl ((sml l).take i)), true, false⟩)], 1⟩)
    (fun i => i ≤ n) (fun i => n - i) 0 (Nat.zero_le _) (by simp (disch := (first | omega | assumption)) only [Sl, Sa, Sw, ↓reduceIte, Nat.reduceEqDiff, Nat.reduceLT, List.all_nil, List.all_cons, Nat.reduceBneDiff, Nat.reduceAdd, bne_iff_ne, ne_eq, reduceCtorEq, not_false_eq_true, not_true_eq_false, Bool.and_true, Bool.true_and, and_true, true_and, and_self]) (by
    simp (disch := (first | omega | assumption)) only [Sl, Sa, Sw, ↓reduceIte, Nat.reduceEqDiff, Nat.reduceLT, List.all_nil, List.all_cons, Nat.reduceBneDiff, Nat.reduceAdd, bne_iff_ne, ne_eq, reduceCtorEq, not_false_eq_true, not_true_eq_false, Bool.and_true, Bool.true_and, and_true, true_and, and_self, i_eq]
    repeat' first | rfl | omega | (simp only [List.length_append, List.length_cons, List.length_nil]; done) | apply And.intro) ?_
  intro i hi Q' hQ he hr
  by_cases h : (i : Int) < (n : Int)
  · have hil : i < l.length := by omega
    have h1 : (i : Int) < (l.length : Int) := by omega
    have h5 : (i : Int) < 5 := by omega
    obtain ⟨r1, r2⟩ := ZC_row l i hil
    have r0 := ZC_get0 l i hil
    obtain ⟨wa, la⟩ := hl.2 _ (getD_mem hil)
    have hg := sml_get l i (by omega)
    have hle := sm1_le (l.getD i (false, []))
    have hap := ZC_app1 (nfl ((sml l).take i)) ((sml l).getD i 0)
    rw [show nfl ((sml l).take i) ++ [nfp ((sml l).getD i 0)] = nfl ((sml l).take (i + 1)) from by unfold nfl; rw [take_snoc (sml l) i (by omega), List.map_append]; rfl] at hap
    have l0 := ZN_len ((sml l).take i)
    have l1 := ZN_len ((sml l).take (i + 1))
    rw [List.length_take] at l0 l1
    rw [hg] at hap
    have hZ := hZ_spec (sm1 (l.getD i (false, []))) (by omega) (by omega)
    generalize l.getD i (false, []) = p at *
    obtain ⟨s, a⟩ := p
    unfold sm1 at hZ hap hle
    simp only [] at hZ hap hle wa r1 r2 r0
    cases a with
    | nil =>
      cases s with
      | false =>
        simp only [List.headD_nil, Nat.zero_mod, Bool.false_eq_true, if_false] at hZ hap
        have zc1 := hZ
        repeat first | (refine hK _ ?_; clear hK K) | simp only [Sv, ↓reduceIte, Nat.reduceEqDiff] | ((first | refine vm_reg (fun K hK => ?_) | refine vm_dreg (fun K hK => ?_) | refine clp_q ?_ | refine clq_mk (by assumption) ?_); simp (disch := (first | omega | assumption)) only [S1, ↓reduceIte, Nat.reduceEqDiff, Nat.reduceAdd, Nat.reduceMul, Nat.reduceDiv, AOp.sb, AOp.mut, ↓Bool.false_eq_true, beq_self_eq_true, ite_self, Nat.reduceLeDiff, Int.reduceEq, Int.reduceSub, Int.reduceAdd, Int.reduceNeg, Int.reduceLT, Int.reduceLE, Nat.reduceLT, bz_LGHomo, h1, h5, hd, hz, r0, r2, Nat.add_zero, List.length_nil, hap])
        refine hQ _ (i + 1) (by omega) (by omega) ?_
        simp (disch := (first | omega | assumption)) only [Sl, Sa, Sw, ↓reduceIte, Nat.reduceEqDiff, Nat.reduceLT, List.all_nil, List.all_cons, Nat.reduceBneDiff, Nat.reduceAdd, bne_iff_ne, ne_eq, reduceCtorEq, not_false_eq_true, not_true_eq_false, Bool.and_true, Bool.true_and, and_true, true_and, and_self, i_eq]
        repeat' first | rfl | omega | (simp only [List.length_append, List.length_cons, List.length_nil]; done) | apply And.intro
        all_goals exact hap
      | true =>
        simp only [List.headD_nil, Nat.zero_mod, if_true] at hZ hap
        rw [show (-((0 : Nat) : Int)) = 0 from rfl] at hZ hap
        have zc2 := hZ
        repeat first | (refine hK _ ?_; clear hK K) | simp only [Sv, ↓reduceIte, Nat.reduceEqDiff] | ((first | refine vm_reg (fun K hK => ?_) | refine vm_dreg (fun K hK => ?_) | refine clp_q ?_ | refine clq_mk (by assumption) ?_); simp (disch := (first | omega | assumption)) only [S1, ↓reduceIte, Nat.reduceEqDiff, Nat.reduceAdd, Nat.reduceMul, Nat.reduceDiv, AOp.sb, AOp.mut, ↓Bool.false_eq_true, beq_self_eq_true, ite_self, Nat.reduceLeDiff, Int.reduceEq, Int.reduceSub, Int.reduceAdd, Int.reduceNeg, Int.reduceLT, Int.reduceLE, Nat.reduceLT, bz_LGHomo, h1, h5, hd, hz, r0, r2, Nat.add_zero, List.length_nil, hap])
        refine hQ _ (i + 1) (by omega) (by omega) ?_
        simp (disch := (first | omega | assumption)) only [Sl, Sa, Sw, ↓reduceIte, Nat.reduceEqDiff, Nat.reduceLT, List.all_nil, List.all_cons, Nat.reduceBneDiff, Nat.reduceAdd, bne_iff_ne, ne_eq, reduceCtorEq, not_false_eq_true, not_true_eq_false, Bool.and_true, Bool.true_and, and_true, true_and, and_self, i_eq]
        repeat' first | rfl | omega | (simp only [List.length_append, List.length_cons, List.length_nil]; done) | apply And.intro
        all_goals exact hap
    | cons w r =>
      have hw0 := W_get (w :: r) 0 (by simp)
      rw [show (w :: r).getD 0 0 = w from rfl] at hw0
      have hl0 : (0 : Int) < ((w :: r).length : Int) := by simp only [List.length_cons]; omega
      have hl1 : 0 < (w :: r).length := by simp
      have wq : IntKind.i64.wrap ((w % 10 : Nat) : Int) = ((w % 10 : Nat) : Int) := wi (by omega)
      have wn : IntKind.i64.wrap (0 - ((w % 10 : Nat) : Int)) = -((w % 10 : Nat) : Int) := by rw [wi (by omega)]; omega
      cases s with
      | false =>
        simp only [List.headD_cons, Bool.false_eq_true, if_false] at hZ hap
        generalize w :: r = aw at *
        have zc3 := hZ
        repeat first | (refine hK _ ?_; clear hK K) | simp only [Sv, ↓reduceIte, Nat.reduceEqDiff] | ((first | refine vm_reg (fun K hK => ?_) | refine vm_dreg (fun K hK => ?_) | refine clp_q ?_ | refine clq_mk (by assumption) ?_); simp (disch := (first | omega | assumption)) only [S1, ↓reduceIte, Nat.reduceEqDiff, Nat.reduceAdd, Nat.reduceMul, Nat.reduceDiv, AOp.sb, AOp.mut, ↓Bool.false_eq_true, beq_self_eq_true, ite_self, Nat.reduceLeDiff, Int.reduceEq, Int.reduceSub, Int.reduceAdd, Int.reduceNeg, Int.reduceLT, Int.reduceLE, Nat.reduceLT, bz_LGHomo, h1, h5, hd, hz, r0, r2, Nat.add_zero, hl0, hl1, hw0, Int.toNat_zero, tmod_10, wq, hap])
        refine hQ _ (i + 1) (by omega) (by omega) ?_
        simp (disch := (first | omega | assumption)) only [Sl, Sa, Sw, ↓reduceIte, Nat.reduceEqDiff, Nat.reduceLT, List.all_nil, List.all_cons, Nat.reduceBneDiff, Nat.reduceAdd, bne_iff_ne, ne_eq, reduceCtorEq, not_false_eq_true, not_true_eq_false, Bool.and_true, Bool.true_and, and_true, true_and, and_self, i_eq]
        repeat' first | rfl | omega | (simp only [List.length_append, List.length_cons, List.length_nil]; done) | apply And.intro
      | true =>
        simp only [List.headD_cons, if_true] at hZ hap
        generalize w :: r = aw at *
        have zc4 := hZ
        repeat first | (refine hK _ ?_; clear hK K) | simp only [Sv, ↓reduceIte, Nat.reduceEqDiff] | ((first | refine vm_reg (fun K hK => ?_) | refine vm_dreg (fun K hK => ?_) | refine clp_q ?_ | refine clq_mk (by assumption) ?_); simp (disch := (first | omega | assumption)) only [S1, ↓reduceIte, Nat.reduceEqDiff, Nat.reduceAdd, Nat.reduceMul, Nat.reduceDiv, AOp.sb, AOp.mut, ↓Bool.false_eq_true, beq_self_eq_true, ite_self, Nat.reduceLeDiff, Int.reduceEq, Int.reduceSub, Int.reduceAdd, Int.reduceNeg, Int.reduceLT, Int.reduceLE, Nat.reduceLT, bz_LGHomo, h1, h5, hd, hz, r0, r2, Nat.add_zero, hl0, hl1, hw0, Int.toNat_zero, tmod_10, wq, wn, hap])
        refine hQ _ (i + 1) (by omega) (by omega) ?_
        simp (disch := (first | omega | assumption)) only [Sl, Sa, Sw, ↓reduceIte, Nat.reduceEqDiff, Nat.reduceLT, List.all_nil, List.all_cons, Nat.reduceBneDiff, Nat.reduceAdd, bne_iff_ne, ne_eq, reduceCtorEq, not_false_eq_true, not_true_eq_false, Bool.and_true, Bool.true_and, and_true, true_and, and_self, i_eq]
        repeat' first | rfl | omega | (simp only [List.length_append, List.length_cons, List.length_nil]; done) | apply And.intro
  · obtain rfl : i = n := by omega
    rw [show (sml l).take i = sml l from List.take_of_length_le (by omega)]
    by_cases h1 : (i : Int) < (l.length : Int)
    · have h5 : ¬ (i : Int) < 5 := by omega
      repeat first
        | (refine hK _ ?_; clear hK K)
        | ((first | refine vm_reg (fun K hK => ?_) | refine vm_dreg (fun K hK => ?_)); simp (disch := (first | omega | assumption)) only [S1, ↓reduceIte, Nat.reduceEqDiff, Nat.reduceAdd, Nat.reduceMul, Nat.reduceDiv, AOp.sb, AOp.mut, ↓Bool.false_eq_true, beq_self_eq_true, ite_self, Nat.reduceLeDiff, Int.reduceEq, Int.reduceSub, Int.reduceAdd, Int.reduceNeg, Int.reduceLT, Int.reduceLE, Nat.reduceLT, bz_LGHomo, h1, h5, hd, hz]; refine hK _ ?_; clear hK K)
        | simp only [Sv, ↓reduceIte, Nat.reduceEqDiff]
      refine he _ _ ?_
      repeat first
        | (refine hK _ ?_; clear hK K)
        | ((first | refine vm_reg (fun K hK => ?_) | refine vm_dreg (fun K hK => ?_)); simp (disch := (first | omega | assumption)) only [S1, ↓reduceIte, Nat.reduceEqDiff, Nat.reduceAdd, Nat.reduceMul, Nat.reduceDiv, AOp.sb, AOp.mut, ↓Bool.false_eq_true, beq_self_eq_true, ite_self, Nat.reduceLeDiff, Int.reduceEq, Int.reduceSub, Int.reduceAdd, Int.reduceNeg, Int.reduceLT, Int.reduceLE, Nat.reduceLT, bz_LGHomo]; refine hK _ ?_; clear hK K)
        | simp only [Sv, ↓reduceIte, Nat.reduceEqDiff]
      simp (disch := (first | omega | assumption)) only [retOk, retN, ret1, retF, ret1F, V.okArg, and_true, true_and, S1, ↓reduceIte, Nat.reduceEqDiff, Nat.reduceAdd, Nat.reduceMul, Nat.reduceDiv, AOp.sb, AOp.mut, ↓Bool.false_eq_true, beq_self_eq_true, ite_self, Nat.reduceLeDiff, Int.reduceEq, Int.reduceSub, Int.reduceAdd, Int.reduceNeg, Int.reduceLT, Int.reduceLE, Nat.reduceLT, bz_LGHomo]
    · repeat first
        | (refine hK _ ?_; clear hK K)
        | ((first | refine vm_reg (fun K hK => ?_) | refine vm_dreg (fun K hK => ?_)); simp (disch := (first | omega | assumption)) only [S1, ↓reduceIte, Nat.reduceEqDiff, Nat.reduceAdd, Nat.reduceMul, Nat.reduceDiv, AOp.sb, AOp.mut, ↓Bool.false_eq_true, beq_self_eq_true, ite_self, Nat.reduceLeDiff, Int.reduceEq, Int.reduceSub, Int.reduceAdd, Int.reduceNeg, Int.reduceLT, Int.reduceLE, Nat.reduceLT, bz_LGHomo, h1, hd, hz]; refine hK _ ?_; clear hK K)
        | simp only [Sv, ↓reduceIte, Nat.reduceEqDiff]
      refine he _ _ ?_
      repeat first
        | (refine hK _ ?_; clear hK K)
        | ((first | refine vm_reg (fun K hK => ?_) | refine vm_dreg (fun K hK => ?_)); simp (disch := (first | omega | assumption)) only [S1, ↓reduceIte, Nat.reduceEqDiff, Nat.reduceAdd, Nat.reduceMul, Nat.reduceDiv, AOp.sb, AOp.mut, ↓Bool.false_eq_true, beq_self_eq_true, ite_self, Nat.reduceLeDiff, Int.reduceEq, Int.reduceSub, Int.reduceAdd, Int.reduceNeg, Int.reduceLT, Int.reduceLE, Nat.reduceLT, bz_LGHomo]; refine hK _ ?_; clear hK K)
        | simp only [Sv, ↓reduceIte, Nat.reduceEqDiff]
      simp (disch := (first | omega | assumption)) only [retOk, retN, ret1, retF, ret1F, V.okArg, and_true, true_and, S1, ↓reduceIte, Nat.reduceEqDiff, Nat.reduceAdd, Nat.reduceMul, Nat.reduceDiv, AOp.sb, AOp.mut, ↓Bool.false_eq_true, beq_self_eq_true, ite_self, Nat.reduceLeDiff, Int.reduceEq, Int.reduceSub, Int.reduceAdd, Int.reduceNeg, Int.reduceLT, Int.reduceLE, Nat.reduceLT, bz_LGHomo]
theorem valO {cs : List Int} {z : GZ} (m n b : Nat) (hc : Cb cs m) (hl : cs.length ≤ n) (hz : gsz z ≤ 22) (hm : m < 18446744073709551616) (hn : n ≤ 1000) (hb : m * wsum 22 (List.replicate n 1) ≤ b) (hb2 : b < SM) :
    AFun Try.prog J0 14 [.l 2 (ZC (nfl cs)), .g [.i .i64 z.1, .i .i64 z.2]] (.t [.g [.i .i64 (horner z cs).1, .i .i64 (horner z cs).2], .i .i64 0]) ∧ gsz (horner z cs) ≤ b := by
  have hS : max (gsz z) 1 ≤ 22 := by omega
  have h1 : wsum (max (gsz z) 1) cs ≤ b := Nat.le_trans (Nat.le_trans (wsum_mono hS cs) (wsum_Cb hc n hl)) hb
  have ok : vOk cs z := ⟨by simp only [SM]; omega, Nat.lt_of_le_of_lt h1 hb2⟩
  have hv := gvalS (nfl cs) 100000000 (by decide) (ZOk_small (by omega) (Cb_B hc hm)) z
  rw [zcs_nfl, show vF cs z = horner z cs from if_pos ok, show vE cs z = 0 from if_pos ok] at hv
  exact ⟨hv, Nat.le_trans (horner_sz z (by omega) cs) h1⟩
-- surd/surdlaw23.GaussHomo
def a11 : AC := .seq (.reg [⟨some 5, none, .bx 27 (.t 2)⟩, 
      ⟨some 6, none, .mv (.k (.b false))⟩])
  (.seq (.seq (.reg [⟨some 29, none, .call 12 []⟩, 
        ⟨some 30, none, .un .not (.t 29)⟩])
    (.cond (.t 30)
    (.seq (.reg [⟨some 6, none, .mv (.k (.b false))⟩])
      (.ret))
    (.skip)))
  (.seq (.reg [⟨some 31, none, .mv (.t 0)⟩, 
      ⟨some 32, none, .call 32 [(2, (.t 31))]⟩, 
      ⟨some 33, none, .mv (.t 1)⟩, 
      ⟨some 34, none, .call 32 [(2, (.t 33))]⟩, 
      ⟨some 0, none, .mv (.t 32)⟩, 
      ⟨some 1, none, .mv (.t 34)⟩])
  (.seq (.reg [⟨some 35, none, .ld true 2 (.t 5)⟩, 
      ⟨some 36, none, .call 29 [(1, (.t 35)), (1, (.k (.i .i64 12)))]⟩, 
      ⟨some 7, none, .al 31 [(.i .i64 0), (.i .i64 0)]⟩, 
      ⟨none, none, .st 2 (.t 7) (.t 36)⟩])
  (.seq (.reg [⟨some 38, none, .mv (.t 0)⟩, 
      ⟨some 39, none, .ld true 2 (.t 7)⟩, 
      ⟨some 40, none, .call 14 [(2, (.t 38)), (1, (.t 39))]⟩, 
      ⟨some 37, none, .mv (.t 40)⟩, 
      ⟨some 41, none, .ext (.t 37) 0⟩, 
      ⟨some 42, none, .ext (.t 37) 1⟩, 
      ⟨some 8, none, .al 31 [(.i .i64 0), (.i .i64 0)]⟩, 
      ⟨none, none, .st 2 (.t 8) (.t 41)⟩, 
      ⟨some 9, none, .mv (.t 42)⟩])
  (.seq (.reg [⟨some 44, none, .mv (.t 1)⟩, 
      ⟨some 45, none, .ld true 2 (.t 7)⟩, 
      ⟨some 46, none, .call 14 [(2, (.t 44)), (1, (.t 45))]⟩, 
      ⟨some 43, none, .mv (.t 46)⟩, 
      ⟨some 47, none, .ext (.t 43) 0⟩, 
      ⟨some 48, none, .ext (.t 43) 1⟩, 
      ⟨some 10, none, .al 31 [(.i .i64 0), (.i .i64 0)]⟩, 
      ⟨none, none, .st 2 (.t 10) (.t 47)⟩, 
      ⟨some 11, none, .mv (.t 48)⟩])
  (.seq (.dreg [⟨some 50, none, .mv (.t 0)⟩, 
      ⟨some 51, none, .mv (.t 1)⟩, 
      ⟨some 52, none, .call 46 [(2, (.t 50)), (2, (.t 51))]⟩, 
      ⟨some 53, none, .ld true 2 (.t 7)⟩, 
      ⟨some 54, none, .call 14 [(2, (.t 52)), (1, (.t 53))]⟩, 
      ⟨some 49, none, .mv (.t 54)⟩, 
      ⟨some 55, none, .ext (.t 49) 0⟩, 
      ⟨some 56, none, .ext (.t 49) 1⟩, 
      ⟨some 12, none, .al 31 [(.i .i64 0), (.i .i64 0)]⟩, 
      ⟨none, none, .st 2 (.t 12) (.t 55)⟩, 
      ⟨some 13, none, .mv (.t 56)⟩])
  (.seq (.dreg [⟨some 58, none, .mv (.t 0)⟩, 
      ⟨some 59, none, .mv (.t 1)⟩, 
      ⟨some 60, none, .call 47 [(2, (.t 58)), (2, (.t 59))]⟩, 
      ⟨some 61, none, .ld true 2 (.t 7)⟩, 
      ⟨some 62, none, .call 14 [(2, (.t 60)), (1, (.t 61))]⟩, 
      ⟨some 57, none, .mv (.t 62)⟩, 
      ⟨some 63, none, .ext (.t 57) 0⟩, 
      ⟨some 64, none, .ext (.t 57) 1⟩, 
      ⟨some 14, none, .al 31 [(.i .i64 0), (.i .i64 0)]⟩, 
      ⟨none, none, .st 2 (.t 14) (.t 63)⟩, 
      ⟨some 15, none, .mv (.t 64)⟩])
  (.seq (.reg [⟨some 66, none, .ld true 2 (.t 8)⟩, 
      ⟨some 67, none, .ld true 2 (.t 10)⟩, 
      ⟨some 68, none, .call 37 [(1, (.t 66)), (1, (.t 67))]⟩, 
      ⟨some 65, none, .mv (.t 68)⟩, 
      ⟨some 69, none, .ext (.t 65) 0⟩, 
      ⟨some 70, none, .ext (.t 65) 1⟩, 
      ⟨some 16, none, .al 31 [(.i .i64 0), (.i .i64 0)]⟩, 
      ⟨none, none, .st 2 (.t 16) (.t 69)⟩, 
      ⟨some 17, none, .mv (.t 70)⟩])
  (.seq (.reg [⟨some 72, none, .ld true 2 (.t 8)⟩, 
      ⟨some 73, none, .ld true 2 (.t 10)⟩, 
      ⟨some 74, none, .call 39 [(1, (.t 72)), (1, (.t 73))]⟩, 
      ⟨some 71, none, .mv (.t 74)⟩, 
      ⟨some 75, none, .ext (.t 71) 0⟩, 
      ⟨some 76, none, .ext (.t 71) 1⟩, 
      ⟨some 18, none, .al 31 [(.i .i64 0), (.i .i64 0)]⟩, 
      ⟨none, none, .st 2 (.t 18) (.t 75)⟩, 
      ⟨some 19, none, .mv (.t 76)⟩])
  (.seq (.reg [⟨some 78, none, .ld true 2 (.t 7)⟩, 
      ⟨some 79, none, .call 41 [(1, (.t 78))]⟩, 
      ⟨some 77, none, .mv (.t 79)⟩, 
      ⟨some 80, none, .ext (.t 77) 0⟩, 
      ⟨some 81, none, .ext (.t 77) 1⟩, 
      ⟨some 20, none, .al 31 [(.i .i64 0), (.i .i64 0)]⟩, 
      ⟨none, none, .st 2 (.t 20) (.t 80)⟩, 
      ⟨some 21, none, .mv (.t 81)⟩])
  (.seq (.reg [⟨some 83, none, .ld true 2 (.t 8)⟩, 
      ⟨some 84, none, .call 41 [(1, (.t 83))]⟩, 
      ⟨some 82, none, .mv (.t 84)⟩, 
      ⟨some 85, none, .ext (.t 82) 0⟩, 
      ⟨some 86, none, .ext (.t 82) 1⟩, 
      ⟨some 22, none, .al 31 [(.i .i64 0), (.i .i64 0)]⟩, 
      ⟨none, none, .st 2 (.t 22) (.t 85)⟩, 
      ⟨some 23, none, .mv (.t 86)⟩])
  (.seq (.reg [⟨some 88, none, .mv (.t 0)⟩, 
      ⟨some 89, none, .ld true 2 (.t 20)⟩, 
      ⟨some 90, none, .call 14 [(2, (.t 88)), (1, (.t 89))]⟩, 
      ⟨some 87, none, .mv (.t 90)⟩, 
      ⟨some 91, none, .ext (.t 87) 0⟩, 
      ⟨some 92, none, .ext (.t 87) 1⟩, 
      ⟨some 24, none, .al 31 [(.i .i64 0), (.i .i64 0)]⟩, 
      ⟨none, none, .st 2 (.t 24) (.t 91)⟩, 
      ⟨some 25, none, .mv (.t 92)⟩])
  (.seq (.seq (.reg [⟨some 93, none, .mv (.t 9)⟩, 
        ⟨some 94, none, .bin .neq (.t 93) (.k (.i .i64 0))⟩, 
        ⟨some 95, none, .mv (.t 94)⟩, 
        ⟨some 96, some (95, false), .mv (.t 11)⟩, 
        ⟨some 97, some (95, false), .bin .neq (.t 96) (.k (.i .i64 0))⟩, 
        ⟨some 98, none, .pick (.t 95) (.k (.b true)) (.t 97)⟩, 
        ⟨some 99, none, .mv (.t 98)⟩, 
        ⟨some 100, some (99, false), .mv (.t 13)⟩, 
        ⟨some 101, some (99, false), .bin .neq (.t 100) (.k (.i .i64 0))⟩, 
        ⟨some 102, none, .pick (.t 99) (.k (.b true)) (.t 101)⟩, 
        ⟨some 103, none, .mv (.t 102)⟩, 
        ⟨some 104, some (103, false), .mv (.t 15)⟩, 
        ⟨some 105, some (103, false), .bin .neq (.t 104) (.k (.i .i64 0))⟩, 
        ⟨some 106, none, .pick (.t 103) (.k (.b true)) (.t 105)⟩, 
        ⟨some 107, none, .mv (.t 106)⟩, 
        ⟨some 108, some (107, false), .mv (.t 17)⟩, 
        ⟨some 109, some (107, false), .bin .neq (.t 108) (.k (.i .i64 0))⟩, 
        ⟨some 110, none, .pick (.t 107) (.k (.b true)) (.t 109)⟩, 
        ⟨some 111, none, .mv (.t 110)⟩, 
        ⟨some 112, some (111, false), .mv (.t 19)⟩, 
        ⟨some 113, some (111, false), .bin .neq (.t 112) (.k (.i .i64 0))⟩, 
        ⟨some 114, none, .pick (.t 111) (.k (.b true)) (.t 113)⟩, 
        ⟨some 115, none, .mv (.t 114)⟩, 
        ⟨some 116, some (115, false), .mv (.t 21)⟩, 
        ⟨some 117, some (115, false), .bin .neq (.t 116) (.k (.i .i64 0))⟩, 
        ⟨some 118, none, .pick (.t 115) (.k (.b true)) (.t 117)⟩, 
        ⟨some 119, none, .mv (.t 118)⟩, 
        ⟨some 120, some (119, false), .mv (.t 23)⟩, 
        ⟨some 121, some (119, false), .bin .neq (.t 120) (.k (.i .i64 0))⟩, 
        ⟨some 122, none, .pick (.t 119) (.k (.b true)) (.t 121)⟩, 
        ⟨some 123, none, .mv (.t 122)⟩, 
        ⟨some 124, some (123, false), .mv (.t 25)⟩, 
        ⟨some 125, some (123, false), .bin .neq (.t 124) (.k (.i .i64 0))⟩, 
        ⟨some 126, none, .pick (.t 123) (.k (.b true)) (.t 125)⟩, 
        ⟨some 127, none, .mv (.t 126)⟩, 
        ⟨some 128, some (127, false), .ld true 2 (.t 12)⟩, 
        ⟨some 129, some (127, false), .ld true 2 (.t 16)⟩, 
        ⟨some 130, some (127, false), .pur (.eqs true [1, 1]) [(.t 128), (.t 129)]⟩, 
        ⟨some 131, none, .pick (.t 127) (.k (.b true)) (.t 130)⟩, 
        ⟨some 132, none, .mv (.t 131)⟩, 
        ⟨some 133, some (132, false), .ld true 2 (.t 14)⟩, 
        ⟨some 134, some (132, false), .ld true 2 (.t 18)⟩, 
        ⟨some 135, some (132, false), .pur (.eqs true [1, 1]) [(.t 133), (.t 134)]⟩, 
        ⟨some 136, none, .pick (.t 132) (.k (.b true)) (.t 135)⟩, 
        ⟨some 137, none, .mv (.t 136)⟩, 
        ⟨some 138, some (137, false), .ld true 2 (.t 24)⟩, 
        ⟨some 139, some (137, false), .ld true 2 (.t 22)⟩, 
        ⟨some 140, some (137, false), .pur (.eqs true [1, 1]) [(.t 138), (.t 139)]⟩, 
        ⟨some 141, none, .pick (.t 137) (.k (.b true)) (.t 140)⟩])
    (.cond (.t 141)
    (.seq (.reg [⟨some 6, none, .mv (.k (.b false))⟩])
      (.ret))
    (.skip)))
  (.seq (.reg [⟨some 143, none, .mv (.t 0)⟩, 
      ⟨some 144, none, .fad 0 (.t 7)⟩, 
      ⟨some 145, none, .ld false 1 (.t 144)⟩, 
      ⟨some 146, none, .bld [(.i .i64 0), (.i .i64 0)] [(0, 1, (.t 145))]⟩, 
      ⟨some 147, none, .call 14 [(2, (.t 143)), (1, (.t 146))]⟩, 
      ⟨some 142, none, .mv (.t 147)⟩, 
      ⟨some 148, none, .ext (.t 142) 0⟩, 
      ⟨some 149, none, .ext (.t 142) 1⟩, 
      ⟨some 26, none, .al 31 [(.i .i64 0), (.i .i64 0)]⟩, 
      ⟨none, none, .st 2 (.t 26) (.t 148)⟩, 
      ⟨some 9, none, .mv (.t 149)⟩])
  (.seq (.reg [⟨some 150, none, .call 48 [(1, (.k (.i .i64 0)))]⟩, 
      ⟨some 27, none, .al 83 [(.b false), (.l 1 [])]⟩, 
      ⟨none, none, .st 2 (.t 27) (.t 150)⟩])
  (.seq (.seq (.reg [⟨some 151, none, .mv (.t 0)⟩, 
        ⟨some 152, none, .len (.t 151)⟩, 
        ⟨some 153, none, .bin .sub (.t 152) (.k (.i .i64 1))⟩, 
        ⟨some 28, none, .mv (.t 153)⟩])
    (.blk 0
    (.loop
      (.seq (.seq (.reg [⟨some 154, none, .mv (.t 28)⟩, 
              ⟨some 155, none, .bin .geq (.t 154) (.k (.i .i64 0))⟩])
          (.cond (.t 155)
          (.skip)
          (.exit 0)))
        (.seq (.blk 1
          (.dreg [⟨some 158, none, .ld true 2 (.t 27)⟩, 
              ⟨some 159, none, .fad 0 (.t 7)⟩, 
              ⟨some 160, none, .ld false 1 (.t 159)⟩, 
              ⟨some 161, none, .call 48 [(1, (.t 160))]⟩, 
              ⟨some 162, none, .call 50 [(1, (.t 158)), (1, (.t 161))]⟩, 
              ⟨some 163, none, .mv (.t 0)⟩, 
              ⟨some 164, none, .mv (.t 28)⟩, 
              ⟨some 165, none, .idx 2 (.t 163) (.t 164)⟩, 
              ⟨some 166, none, .ld true 2 (.t 165)⟩, 
              ⟨some 167, none, .call 49 [(1, (.t 162)), (1, (.t 166))]⟩, 
              ⟨none, none, .st 2 (.t 27) (.t 167)⟩]))
        (.reg [⟨some 156, none, .mv (.t 28)⟩, 
          ⟨some 157, none, .bin .sub (.t 156) (.k (.i .i64 1))⟩, 
          ⟨some 28, none, .mv (.t 157)⟩]))))))
  (.seq (.dreg [⟨some 168, none, .mv (.t 9)⟩, 
      ⟨some 169, none, .bin .eql (.t 168) (.k (.i .i64 0))⟩, 
      ⟨some 170, none, .mv (.t 169)⟩, 
      ⟨some 171, some (170, true), .fad 1 (.t 26)⟩, 
      ⟨some 172, some (170, true), .ld false 1 (.t 171)⟩, 
      ⟨some 173, some (170, true), .bin .eql (.t 172) (.k (.i .i64 0))⟩, 
      ⟨some 174, none, .pick (.t 170) (.t 173) (.k (.b false))⟩, 
      ⟨some 175, none, .mv (.t 174)⟩, 
      ⟨some 176, some (175, true), .fad 0 (.t 26)⟩, 
      ⟨some 177, some (175, true), .ld false 1 (.t 176)⟩, 
      ⟨some 178, some (175, true), .call 48 [(1, (.t 177))]⟩, 
      ⟨some 179, some (175, true), .ld true 2 (.t 27)⟩, 
      ⟨some 180, some (175, true), .call 51 [(1, (.t 178)), (1, (.t 179))]⟩, 
      ⟨some 181, none, .pick (.t 175) (.t 180) (.k (.b false))⟩, 
      ⟨some 6, none, .mv (.t 181)⟩])
  (.ret))))))))))))))))))
set_option maxRecDepth 100000 in
theorem gaussHomo_spec (l1 l2 : List (Bool × List Nat)) (u : GZ) (m : Nat) (hm : m ≤ 9223372036854775807) (hl1 : ZOk l1 m) (hl2 : ZOk l2 m) : AFun Try.prog J0 11 [.l 2 (ZC l1), .l 2 (ZC l2), nV u] (.b true) := by
  have s1 := small_spec l1 m hm hl1
  have s2 := small_spec l2 m hm hl2
  have cP := sml_Cb l1
  have cQ := sml_Cb l2
  have lP : (sml l1).length ≤ 5 := by rw [sml_len]; omega
  have lQ : (sml l2).length ≤ 5 := by rw [sml_len]; omega
  generalize sml l1 = P at *
  generalize sml l2 = Q at *
  have f1 := few_spec u 12 (by decide) (by decide)
  have zX := few_sz u 12 (by decide)
  simp only [nV] at f1 ⊢
  obtain ⟨X, hX⟩ : ∃ X : GZ, X = (u.1.tmod (12 : Nat), u.2.tmod (12 : Nat)) := ⟨_, rfl⟩
  rw [← hX] at zX
  rw [show u.1.tmod ((12 : Nat) : Int) = X.1 from by rw [hX], show u.2.tmod ((12 : Nat) : Int) = X.2 from by rw [hX]] at f1
  clear hX
  have zX2 : gsz (X.1, -X.2) ≤ 22 := by unfold gsz at zX ⊢; simp only []; omega
  have zX3 : gsz (X.1, 0) ≤ 22 := by unfold gsz at zX ⊢; simp only []; omega
  have xb : X.1.natAbs ≤ 22 := by unfold gsz at zX; omega
  obtain ⟨v1, b1⟩ := valO (cs := P) (z := X) 9 5 2300000 cP lP zX (by decide) (by decide) (by decide) (by decide)
  obtain ⟨v2, b2⟩ := valO (cs := Q) (z := X) 9 5 2300000 cQ lQ zX (by decide) (by decide) (by decide) (by decide)
  have pa := zpadd_spec P Q 9 (by decide) (by omega) (by omega) cP cQ
  obtain ⟨v3, b3⟩ := valO (cs := tzi (addl P Q)) (z := X) 18 5 4600000 (Cb_tzi (addl_Cb cP cQ)) (Nat.le_trans (tzi_len _) (by rw [addl_len]; omega)) zX (by decide) (by decide) (by decide) (by decide)
  rw [horner_tzi, horner_addl] at v3
  have pm := zpmul_spec P Q 9 (by decide) (by omega) (by omega) cP cQ
  have t1 := tzi_len P
  have t2 := tzi_len Q
  obtain ⟨v4, b4⟩ := valO (cs := mull (tzi P) (tzi Q)) (z := X) 405 10 600000000000000 (Cb_le (mull_Cb (Cb_tzi cP) (Cb_tzi cQ)) (by omega)) (Nat.le_trans (mull_len _ _) (by omega)) zX (by decide) (by decide) (by decide) (by decide)
  rw [horner_mull, horner_tzi, horner_tzi] at v4
  obtain ⟨v5, b5⟩ := valO (cs := P) (z := (X.1, -X.2)) 9 5 2300000 cP lP zX2 (by decide) (by decide) (by decide) (by decide)
  rw [horner_conj] at v5
  obtain ⟨v6, b6⟩ := valO (cs := P) (z := (X.1, 0)) 9 5 2300000 cP lP zX3 (by decide) (by decide) (by decide) (by decide)
  have hb : ∀ k, (hint X.1 (P.drop k)).natAbs ≤ 2300000 := fun k => by
    have cD : Cb (P.drop k) 9 := fun i => by
      have := cP (k + i)
      rw [List.getD_eq_getElem?_getD] at this ⊢
      rwa [List.getElem?_drop]
    have h1 := horner_sz (X.1, 0) (s := 22) (by omega) (P.drop k)
    have h2 := wsum_Cb (s := 22) cD 5 (by rw [List.length_drop]; omega)
    rw [horner_real] at h1
    unfold gsz at h1
    simp only [Int.natAbs_zero, Nat.add_zero] at h1
    exact Nat.le_trans h1 (Nat.le_trans h2 (by decide))
  rw [horner_real] at v6
  obtain ⟨a, ha⟩ : ∃ a, a = horner X P := ⟨_, rfl⟩
  obtain ⟨b, hbb⟩ : ∃ b, b = horner X Q := ⟨_, rfl⟩
  obtain ⟨sm, hsm⟩ : ∃ s, s = gadd a b := ⟨_, rfl⟩
  obtain ⟨pr, hpr⟩ : ∃ s, s = gmul a b := ⟨_, rfl⟩
  obtain ⟨cx, hcx⟩ : ∃ s, s = gconj X := ⟨_, rfl⟩
  obtain ⟨ca, hca⟩ : ∃ s, s = gconj a := ⟨_, rfl⟩
  rw [← ha] at v1 b1 v5
  rw [← hbb] at v2 b2
  rw [← ha, ← hbb, ← hsm] at v3
  rw [← ha, ← hbb, ← hpr] at v4
  rw [show (X.1, -X.2) = cx from hcx.symm, show (a.1, -a.2) = ca from hca.symm] at v5
  have e5 := gaddO (x := a) (y := b) (by simp only [SM]; omega) hsm.symm
  have e6 := gmulO b1 b2 (by decide) (by decide) (by decide) hpr.symm
  have e7 := gconjO (x := X) (by simp only [SM]; omega) hcx.symm
  have e8 := gconjO (x := a) (by simp only [SM]; omega) hca.symm
  have o0 := zofn_spec 0 (by decide) (by decide)
  have ox := zofn_spec X.1 (by omega) (by omega)
  have hd0 := hb 0
  rw [List.drop_zero] at hd0
  have oh := zofn_spec (hint X.1 P) (by omega) (by omega)
  have hsi := hsameI_spec (decide (hint X.1 P < 0)) (decide (hint X.1 P < 0)) (dg B (hint X.1 P).natAbs) (dg B (hint X.1 P).natAbs) (Nat.le_trans (dlen (k := 1) (BW1' (by omega))) (by decide)) (Nat.le_trans (dlen (k := 1) (BW1' (by omega))) (by decide))
  rw [show ((decide (hint X.1 P < 0) == decide (hint X.1 P < 0)) && decide (dg B (hint X.1 P).natAbs = dg B (hint X.1 P).natAbs)) = true from by simp] at hsi
  have lZ := ZN_len P
  have hd5 : P.length * 2 / 2 = P.length := by omega
  clear ha hbb hsm hpr hcx hca b1 b2 b3 b4 b5 b6 t1 t2
  refine AFun.mk fol J0s Try.func11 rfl (ac := a11) (by kernel_rfl) rfl rfl ?_
  apply vm_start
  unfold a11
  simp only [init_eq, initE]
  have zc5 := gknown_spec
  have zc6 := s1
  have zc7 := s2
  have zc8 := f1
  have zc9 := v1
  have zc10 := v2
  have zc11 := pa
  have zc12 := v3
  have zc13 := pm
  have zc14 := v4
  have zc15 := e5
  have zc16 := e6
  have zc17 := e7
  have zc18 := e8
  have zc19 := v5
  have zc20 := v6
  have zc21 := o0
  repeat first | (refine hK _ ?_; clear hK K) | simp only [Sv, ↓reduceIte, Nat.reduceEqDiff] | ((first | refine vm_reg (fun K hK => ?_) | refine vm_dreg (fun K hK => ?_) | refine clp_q ?_ | refine clq_mk (by assumption) ?_); simp (disch := (first | omega | assumption)) only [S1, ↓reduceIte, Nat.reduceEqDiff, Nat.reduceAdd, Nat.reduceMul, Nat.reduceDiv, AOp.sb, AOp.mut, ↓Bool.false_eq_true, beq_self_eq_true, ite_self, Nat.reduceLeDiff, Int.reduceEq, Int.reduceSub, Int.reduceAdd, Int.reduceNeg, Int.reduceLT, Int.reduceLE, Nat.reduceLT, bz_LGHomo, eq_self, lZ, hd5])
  refine vm_loopA [] Nat (fun k => ⟨[(0, .l 2 (ZC (nfl P))), (7, .pt 0 0), (9, .i .i64 0), (26, .pt 1 0), (27, .pt 2 0), (28, .i .i64 ((k : Int) - 1))],
      [(0, some ⟨31, 2, [.i .i64 X.1, .i .i64 X.2], true, true⟩), (1, some ⟨31, 2, [.i .i64 (hint X.1 P), .i .i64 0], true, true⟩), (2, some ⟨83, 2, [.b (decide (hint X.1 (P.drop k) < 0)), .l 1 (W (dg B (hint X.1 (P.drop k)).natAbs))], true, true⟩)], 3⟩)
    (fun k => k ≤ P.length) (fun k => k) P.length (Nat.le_refl _) (by simp (disch := (first | omega | assumption)) only [Sl, Sa, Sw, ↓reduceIte, Nat.reduceEqDiff, Nat.reduceLT, List.all_nil, List.all_cons, Nat.reduceBneDiff, Nat.reduceAdd, bne_iff_ne, ne_eq, reduceCtorEq, not_false_eq_true, not_true_eq_false, Bool.and_true, Bool.true_and, and_true, true_and, and_self]) (by
    simp (disch := (first | omega | assumption)) only [Sl, Sa, Sw, ↓reduceIte, Nat.reduceEqDiff, Nat.reduceLT, List.all_nil, List.all_cons, Nat.reduceBneDiff, Nat.reduceAdd, bne_iff_ne, ne_eq, reduceCtorEq, not_false_eq_true, not_true_eq_false, Bool.and_true, Bool.true_and, and_true, true_and, and_self, i_eq]
    rw [List.drop_of_length_le (Nat.le_refl _)]
    repeat' first | rfl | omega | (simp only [List.length_append, List.length_cons, List.length_nil]; done) | apply And.intro) ?_
  intro k hk Q' hQ he hr
  by_cases h0 : (0 : Int) ≤ (k : Int) - 1
  · obtain ⟨j, rfl⟩ : ∃ j, k = j + 1 := ⟨k - 1, by omega⟩
    have ej : ((j + 1 : Nat) : Int) - 1 = (j : Int) := by omega
    have hj0 : (0 : Int) ≤ (j : Int) := by omega
    have hjl : j < P.length := by omega
    have row := ZN_row P j hjl
    have hdr := hint_drop X.1 P j hjl
    have cj := cP j
    have bj := hb (j + 1)
    generalize P.getD j 0 = c at *
    obtain ⟨w, hw⟩ : ∃ w, w = hint X.1 (P.drop (j + 1)) := ⟨_, rfl⟩
    obtain ⟨w', hw'⟩ : ∃ w', w' = hint X.1 (P.drop j) := ⟨_, rfl⟩
    rw [← hw] at hdr bj
    rw [← hw'] at hdr
    have hwx : (w * X.1).natAbs ≤ 2300000 * 22 := by rw [Int.natAbs_mul]; exact Nat.mul_le_mul bj xb
    have m1 := zmulM (m := 1000000000) (x := w) (y := X.1) (by omega) (by omega) (by decide) rfl
    have m2 := zaddM (m := 1000000000) (x := w * X.1) (y := c) (by omega) (by omega) (by decide) hdr.symm
    generalize w * X.1 = wx at *
    simp only [ej]
    rw [← hw]
    have zc22 := ox
    have zc23 := m1
    have zc24 := m2
    repeat first | (refine hK _ ?_; clear hK K) | simp only [Sv, ↓reduceIte, Nat.reduceEqDiff] | ((first | refine vm_reg (fun K hK => ?_) | refine vm_dreg (fun K hK => ?_) | refine clp_q ?_ | refine clq_mk (by assumption) ?_); simp (disch := (first | omega | assumption)) only [S1, ↓reduceIte, Nat.reduceEqDiff, Nat.reduceAdd, Nat.reduceMul, Nat.reduceDiv, AOp.sb, AOp.mut, ↓Bool.false_eq_true, beq_self_eq_true, ite_self, Nat.reduceLeDiff, Int.reduceEq, Int.reduceSub, Int.reduceAdd, Int.reduceNeg, Int.reduceLT, Int.reduceLE, Nat.reduceLT, bz_LGHomo, hj0, lZ, row])
    refine hQ _ j (by omega) (by omega) ?_
    simp (disch := (first | omega | assumption)) only [Sl, Sa, Sw, ↓reduceIte, Nat.reduceEqDiff, Nat.reduceLT, List.all_nil, List.all_cons, Nat.reduceBneDiff, Nat.reduceAdd, bne_iff_ne, ne_eq, reduceCtorEq, not_false_eq_true, not_true_eq_false, Bool.and_true, Bool.true_and, and_true, true_and, and_self, i_eq]
    rw [hw']
    repeat' first | rfl | omega | (simp only [List.length_append, List.length_cons, List.length_nil]; done) | apply And.intro
  · obtain rfl : k = 0 := by omega
    rw [List.drop_zero]
    repeat first
      | (refine hK _ ?_; clear hK K)
      | ((first | refine vm_reg (fun K hK => ?_) | refine vm_dreg (fun K hK => ?_)); simp (disch := (first | omega | assumption)) only [S1, ↓reduceIte, Nat.reduceEqDiff, Nat.reduceAdd, Nat.reduceMul, Nat.reduceDiv, AOp.sb, AOp.mut, ↓Bool.false_eq_true, beq_self_eq_true, ite_self, Nat.reduceLeDiff, Int.reduceEq, Int.reduceSub, Int.reduceAdd, Int.reduceNeg, Int.reduceLT, Int.reduceLE, Nat.reduceLT, bz_LGHomo, h0]; refine hK _ ?_; clear hK K)
      | simp only [Sv, ↓reduceIte, Nat.reduceEqDiff]
    refine he _ _ ?_
    have zc25 := oh
    have zc26 := hsi
    repeat first | (refine hK _ ?_; clear hK K) | simp only [Sv, ↓reduceIte, Nat.reduceEqDiff] | ((first | refine vm_reg (fun K hK => ?_) | refine vm_dreg (fun K hK => ?_) | refine clp_q ?_ | refine clq_mk (by assumption) ?_); simp (disch := (first | omega | assumption)) only [S1, ↓reduceIte, Nat.reduceEqDiff, Nat.reduceAdd, Nat.reduceMul, Nat.reduceDiv, AOp.sb, AOp.mut, ↓Bool.false_eq_true, beq_self_eq_true, ite_self, Nat.reduceLeDiff, Int.reduceEq, Int.reduceSub, Int.reduceAdd, Int.reduceNeg, Int.reduceLT, Int.reduceLE, Nat.reduceLT, bz_LGHomo])
    simp (disch := (first | omega | assumption)) only [retOk, retN, ret1, retF, ret1F, V.okArg, and_true, true_and, S1, ↓reduceIte, Nat.reduceEqDiff, Nat.reduceAdd, Nat.reduceMul, Nat.reduceDiv, AOp.sb, AOp.mut, ↓Bool.false_eq_true, beq_self_eq_true, ite_self, Nat.reduceLeDiff, Int.reduceEq, Int.reduceSub, Int.reduceAdd, Int.reduceNeg, Int.reduceLT, Int.reduceLE, Nat.reduceLT, bz_LGHomo]
end Go.Proofs.Ytfkldohgiifgbaa
