/-
  surdtop: is it zero, small polynomials.
-/
import Derived.Test.YtihcbbkiifglmaaT2
namespace Go.Proofs.Ytihcbbkiifglmaa
open Go Go.RowKit Ab
set_option linter.unusedSimpArgs false
set_option linter.unusedVariables false
set_option maxHeartbeats 10000000
theorem bz_T2b : type_of% (And.intro @W_len (And.intro @D_len (And.intro @Nat.div_one (And.intro @Nat.mul_one (And.intro @tn_nat (And.intro @W_nf (And.intro @D_nf (And.intro @W_nil (And.intro @D_nil (And.intro @wi (And.intro @nf_g (And.intro @Bool.false_and (And.intro @W_cell (And.intro @ZC_cell (@ZC_nil))))))))))))))) := And.intro @W_len (And.intro @D_len (And.intro @Nat.div_one (And.intro @Nat.mul_one (And.intro @tn_nat (And.intro @W_nf (And.intro @D_nf (And.intro @W_nil (And.intro @D_nil (And.intro @wi (And.intro @nf_g (And.intro @Bool.false_and (And.intro @W_cell (And.intro @ZC_cell (@ZC_nil))))))))))))))

/-- plain ints in a row -/
def I64 (xs : List Int) : List V := xs.map fun x => .i .i64 x
theorem I64_len (xs : List Int) : (I64 xs).length = xs.length := by simp [I64]
theorem I64_get (xs : List Int) (i : Nat) (h : i < xs.length) : (I64 xs).getD i .un = .i .i64 (xs.getD i 0) := by
  simp [I64, List.getD_eq_getElem?_getD, h]
-- surd/surdtop.poly
def a6 : AC := .seq (.reg [⟨some 2, none, .mv (.k .nl)⟩])
  (.seq (.reg [⟨some 6, none, .bsl 33 2 0 [] []⟩, 
      ⟨some 3, none, .mv (.t 6)⟩])
  (.seq (.seq (.reg [⟨some 7, none, .mv (.t 0)⟩, 
        ⟨some 8, none, .len (.t 7)⟩, 
        ⟨some 9, none, .mv (.k (.i .i64 0))⟩])
    (.blk 0
    (.loop
      (.seq (.reg [⟨some 10, none, .bin .lss (.t 9) (.t 8)⟩])
        (.seq (.cond (.t 10)
          (.skip)
          (.exit 0))
        (.seq (.blk 1
          (.seq (.reg [⟨some 11, none, .idx 1 (.t 7) (.t 9)⟩, 
                ⟨some 12, none, .ld false 1 (.t 11)⟩, 
                ⟨some 5, none, .mv (.t 12)⟩])
            (.reg [⟨some 13, none, .mv (.t 3)⟩, 
              ⟨some 14, none, .mv (.t 5)⟩, 
              ⟨some 15, none, .call 21 [(1, (.t 14))]⟩, 
              ⟨some 16, none, .bsl 33 2 1 [(.b false), (.l 1 [])] [(0, (.t 15))]⟩, 
              ⟨some 17, none, .app 33 2 32 (.t 13) (.t 16)⟩, 
              ⟨some 3, none, .mv (.t 17)⟩])))
        (.reg [⟨some 18, none, .bin .add (.t 9) (.k (.i .i64 1))⟩, 
          ⟨some 9, none, .mv (.t 18)⟩])))))))
  (.seq (.reg [⟨some 19, none, .mv (.t 3)⟩, 
      ⟨some 2, none, .mv (.t 19)⟩])
  (.ret))))
theorem tpoly_spec (xs : List Int) (hx : ∀ x, x ∈ xs → x = -1 ∨ x = 0 ∨ x = 1) (lx : xs.length ≤ 1000000) : AFun Try.prog J0 6 [.l 1 (I64 xs)] (.o 33 2 (ZC (nfl xs))) := by
  have hl := I64_len xs
  refine AFun.mk fol J0s Try.func6 rfl (ac := a6) (by kernel_rfl) rfl rfl rfl ?_
  apply vm_start
  unfold a6
  simp only [init_eq, initE]
  repeat first
    | (refine hK _ ?_; clear hK K)
    | ((first | refine vm_reg (fun K hK => ?_) | refine vm_dreg (fun K hK => ?_) | refine vm_dregx (fun K hK => ?_)); simp (disch := (first | omega | assumption)) only [S1, ↓reduceIte, Nat.reduceEqDiff, Nat.reduceAdd, Nat.reduceMul, Nat.reduceDiv, AOp.sb, AOp.mut, ↓Bool.false_eq_true, beq_self_eq_true, ite_self, Nat.reduceLeDiff, Int.reduceEq, Int.reduceSub, Int.reduceAdd, Int.reduceNeg, Int.reduceLT, Int.reduceLE, Nat.reduceLT, bz_T2b]; refine hK _ ?_; clear hK K)
    | simp only [Sv, ↓reduceIte, Nat.reduceEqDiff]
  refine vm_loopA [] Nat (fun i => ⟨[(3, .ow 2 0 i), (7, .l 1 (I64 xs)), (8, .i .i64 (xs.length : Int)), (9, .i .i64 (i : Int))], [(0, some ⟨33, 2, ZC (nfl (xs.take i)), true, false⟩)], 1⟩)
    (fun i => i ≤ xs.length) (fun i => xs.length - i) 0 (Nat.zero_le _) (by simp (disch := (first | omega | assumption)) only [Sl, Sa, Sw, ↓reduceIte, Nat.reduceEqDiff, Nat.reduceLT, List.all_nil, List.all_cons, Nat.reduceBneDiff, Nat.reduceAdd, bne_iff_ne, ne_eq, reduceCtorEq, not_false_eq_true, not_true_eq_false, Bool.and_true, Bool.true_and, and_true, true_and, and_self]) (by
    simp (disch := (first | omega | assumption)) only [Sl, Sa, Sw, ↓reduceIte, Nat.reduceEqDiff, Nat.reduceLT, List.all_nil, List.all_cons, Nat.reduceBneDiff, Nat.reduceAdd, bne_iff_ne, ne_eq, reduceCtorEq, not_false_eq_true, not_true_eq_false, Bool.and_true, Bool.true_and, and_true, true_and, and_self, i_eq]
    repeat' first | rfl | omega | (simp only [List.length_append, List.length_cons, List.length_nil]; done) | apply And.intro) ?_
  intro i hi Q' hQ he hr
  by_cases h : (i : Int) < (xs.length : Int)
  · have hix : i < xs.length := by omega
    have hg := I64_get xs i hix
    have hm : xs.getD i 0 ∈ xs := by rw [List.getD_eq_getElem?_getD, List.getElem?_eq_getElem hix]; exact List.getElem_mem hix
    have hz := twhole_spec (xs.getD i 0) (hx _ hm)
    have hap := ZC_app1 (nfl (xs.take i)) (xs.getD i 0)
    rw [show nfl (xs.take i) ++ [nfp (xs.getD i 0)] = nfl (xs.take (i + 1)) from by unfold nfl; rw [take_snoc' xs i hix, List.map_append]; rfl] at hap
    have l0 := ZC_len (nfl (xs.take i))
    have l1 := ZC_len (nfl (xs.take (i + 1)))
    rw [nfl_len, List.length_take] at l0 l1
    generalize xs.getD i 0 = c at *
    have zc1 := hz
    repeat first | (refine hK _ ?_; clear hK K) | simp only [Sv, ↓reduceIte, Nat.reduceEqDiff] | ((first | refine vm_reg (fun K hK => ?_) | refine vm_dreg (fun K hK => ?_) | refine vm_dregx (fun K hK => ?_) | refine clp_q ?_ | refine clq_mk (by assumption) ?_ | refine mcq_q ?_ | (apply mcr_mk; assumption)); simp (disch := (first | omega | assumption)) only [S1, ↓reduceIte, Nat.reduceEqDiff, Nat.reduceAdd, Nat.reduceMul, Nat.reduceDiv, AOp.sb, AOp.mut, ↓Bool.false_eq_true, beq_self_eq_true, ite_self, Nat.reduceLeDiff, Int.reduceEq, Int.reduceSub, Int.reduceAdd, Int.reduceNeg, Int.reduceLT, Int.reduceLE, Nat.reduceLT, bz_T2b, h, hl, hg, hap])
    refine hQ _ (i + 1) (by omega) (by omega) ?_
    simp (disch := (first | omega | assumption)) only [Sl, Sa, Sw, ↓reduceIte, Nat.reduceEqDiff, Nat.reduceLT, List.all_nil, List.all_cons, Nat.reduceBneDiff, Nat.reduceAdd, bne_iff_ne, ne_eq, reduceCtorEq, not_false_eq_true, not_true_eq_false, Bool.and_true, Bool.true_and, and_true, true_and, and_self, i_eq]
    repeat' first | rfl | omega | (simp only [List.length_append, List.length_cons, List.length_nil]; done) | apply And.intro
  · obtain rfl : i = xs.length := by omega
    rw [List.take_length]
    repeat first
      | (refine hK _ ?_; clear hK K)
      | ((first | refine vm_reg (fun K hK => ?_) | refine vm_dreg (fun K hK => ?_) | refine vm_dregx (fun K hK => ?_)); simp (disch := (first | omega | assumption)) only [S1, ↓reduceIte, Nat.reduceEqDiff, Nat.reduceAdd, Nat.reduceMul, Nat.reduceDiv, AOp.sb, AOp.mut, ↓Bool.false_eq_true, beq_self_eq_true, ite_self, Nat.reduceLeDiff, Int.reduceEq, Int.reduceSub, Int.reduceAdd, Int.reduceNeg, Int.reduceLT, Int.reduceLE, Nat.reduceLT, bz_T2b, h, hl]; refine hK _ ?_; clear hK K)
      | simp only [Sv, ↓reduceIte, Nat.reduceEqDiff]
    refine he _ _ ?_
    repeat first
      | (refine hK _ ?_; clear hK K)
      | ((first | refine vm_reg (fun K hK => ?_) | refine vm_dreg (fun K hK => ?_) | refine vm_dregx (fun K hK => ?_)); simp (disch := (first | omega | assumption)) only [S1, ↓reduceIte, Nat.reduceEqDiff, Nat.reduceAdd, Nat.reduceMul, Nat.reduceDiv, AOp.sb, AOp.mut, ↓Bool.false_eq_true, beq_self_eq_true, ite_self, Nat.reduceLeDiff, Int.reduceEq, Int.reduceSub, Int.reduceAdd, Int.reduceNeg, Int.reduceLT, Int.reduceLE, Nat.reduceLT, bz_T2b]; refine hK _ ?_; clear hK K)
      | simp only [Sv, ↓reduceIte, Nat.reduceEqDiff]
    simp (disch := (first | omega | assumption)) only [retOk, retN, ret1, retF, ret1F, V.okArg, and_true, true_and, S1, ↓reduceIte, Nat.reduceEqDiff, Nat.reduceAdd, Nat.reduceMul, Nat.reduceDiv, AOp.sb, AOp.mut, ↓Bool.false_eq_true, beq_self_eq_true, ite_self, Nat.reduceLeDiff, Int.reduceEq, Int.reduceSub, Int.reduceAdd, Int.reduceNeg, Int.reduceLT, Int.reduceLE, Nat.reduceLT, bz_T2b]
/-- only zeros -/
def iz (l : List (Bool × List Nat)) : Prop := ∀ i j : Nat, ((l.getD i (false, [])).2).getD j 0 = 0
theorem nv_all0 : ∀ {a : List Nat}, nv B a = 0 ↔ ∀ j : Nat, a.getD j 0 = 0
  | [] => by simp [nv]
  | x :: r => by
    have ih := @nv_all0 r
    have e : nv B (x :: r) = x + B * nv B r := rfl
    rw [e]
    have hB : 0 < B := B0
    constructor
    · intro h j
      have h1 : x = 0 := by omega
      have h2 : B * nv B r = 0 := by omega
      have h3 : nv B r = 0 := by
        rcases Nat.mul_eq_zero.1 h2 with h | h
        · omega
        · exact h
      cases j with
      | zero => simpa using h1
      | succ j => simpa using ih.1 h3 j
    · intro h
      have h1 := h 0
      have h2 := ih.2 fun j => by have := h (j + 1); simpa using this
      simp only [List.getD_cons_zero] at h1
      rw [h1, h2, Nat.mul_zero]
theorem iz_tzi {l : List (Bool × List Nat)} : iz l ↔ (tzi (zcs l)).length = 0 := by
  have e : ∀ i, (zcs l).getD i 0 = 0 ↔ ∀ j : Nat, ((l.getD i (false, [])).2).getD j 0 = 0 := fun i => by
    rw [zcs_get, ← nv_all0, ← zv_abs (l.getD i (false, [])).1]
    unfold zvp
    omega
  constructor
  · intro h
    rw [tzi_all0 fun k => (e k).2 (h k)]; rfl
  · intro h i
    refine (e i).1 ?_
    rw [← tzi_cf, List.eq_nil_of_length_eq_zero h]; simp
-- surd/surdtop.isZero
def a13 : AC := .seq (.reg [⟨some 2, none, .mv (.k (.b false))⟩])
  (.seq (.seq (.reg [⟨some 7, none, .mv (.t 0)⟩, 
        ⟨some 8, none, .len (.t 7)⟩, 
        ⟨some 9, none, .mv (.k (.i .i64 0))⟩])
    (.blk 0
    (.loop
      (.seq (.reg [⟨some 10, none, .bin .lss (.t 9) (.t 8)⟩])
        (.seq (.cond (.t 10)
          (.skip)
          (.exit 0))
        (.seq (.blk 1
          (.seq (.reg [⟨some 11, none, .idx 2 (.t 7) (.t 9)⟩, 
                ⟨some 12, none, .ld true 2 (.t 11)⟩, 
                ⟨some 4, none, .al 33 [(.b false), (.l 1 [])]⟩, 
                ⟨none, none, .st 2 (.t 4) (.t 12)⟩])
            (.seq (.reg [⟨some 13, none, .fad 1 (.t 4)⟩, 
                ⟨some 14, none, .ld false 1 (.t 13)⟩, 
                ⟨some 15, none, .len (.t 14)⟩, 
                ⟨some 16, none, .mv (.k (.i .i64 0))⟩])
            (.blk 2
            (.loop
              (.seq (.reg [⟨some 17, none, .bin .lss (.t 16) (.t 15)⟩])
                (.seq (.cond (.t 17)
                  (.skip)
                  (.exit 2))
                (.seq (.blk 3
                  (.seq (.reg [⟨some 18, none, .idx 1 (.t 14) (.t 16)⟩, 
                        ⟨some 19, none, .ld false 1 (.t 18)⟩, 
                        ⟨some 6, none, .mv (.t 19)⟩])
                    (.seq (.reg [⟨some 20, none, .mv (.t 6)⟩, 
                        ⟨some 21, none, .bin .neq (.t 20) (.k (.i .u64 0))⟩])
                    (.cond (.t 21)
                    (.seq (.reg [⟨some 2, none, .mv (.k (.b false))⟩])
                      (.ret))
                    (.skip)))))
                (.reg [⟨some 22, none, .bin .add (.t 16) (.k (.i .i64 1))⟩, 
                  ⟨some 16, none, .mv (.t 22)⟩])))))))))
        (.reg [⟨some 23, none, .bin .add (.t 9) (.k (.i .i64 1))⟩, 
          ⟨some 9, none, .mv (.t 23)⟩])))))))
  (.seq (.reg [⟨some 2, none, .mv (.k (.b true))⟩])
  (.ret)))
theorem tiz_spec (l : List (Bool × List Nat)) (m : Nat) (hm : m ≤ 1000000000) (ll : l.length ≤ 1000000) (hp : Zk l m) : AFun Try.prog J0 13 [.l 2 (ZC l)] (.b (decide ((tzi (zcs l)).length = 0))) := by
  rw [show decide ((tzi (zcs l)).length = 0) = @decide (iz l) (Classical.propDecidable _) from by rw [decide_eq_decide]; exact iz_tzi.symm]
  obtain ⟨r, hr0⟩ : ∃ r, r = @decide (iz l) (Classical.propDecidable _) := ⟨_, rfl⟩
  rw [← hr0]
  have hz := ZC_len l
  have hd : l.length * 2 / 2 = l.length := by omega
  refine AFun.mk fol J0s Try.func13 rfl (ac := a13) (by kernel_rfl) rfl rfl rfl ?_
  apply vm_start
  unfold a13
  simp only [init_eq, initE]
  repeat first
    | (refine hK _ ?_; clear hK K)
    | ((first | refine vm_reg (fun K hK => ?_) | refine vm_dreg (fun K hK => ?_) | refine vm_dregx (fun K hK => ?_)); simp (disch := (first | omega | assumption)) only [S1, ↓reduceIte, Nat.reduceEqDiff, Nat.reduceAdd, Nat.reduceMul, Nat.reduceDiv, AOp.sb, AOp.mut, ↓Bool.false_eq_true, beq_self_eq_true, ite_self, Nat.reduceLeDiff, Int.reduceEq, Int.reduceSub, Int.reduceAdd, Int.reduceNeg, Int.reduceLT, Int.reduceLE, Nat.reduceLT, bz_T2b, hz, hd]; refine hK _ ?_; clear hK K)
    | simp only [Sv, ↓reduceIte, Nat.reduceEqDiff]
  refine vm_loopA [] Nat (fun i => ⟨[(7, .l 2 (ZC l)), (8, .i .i64 (l.length : Int)), (9, .i .i64 (i : Int))], [], 0⟩)
    (fun i => i ≤ l.length ∧ ∀ u, u < i → ∀ j : Nat, ((l.getD u (false, [])).2).getD j 0 = 0) (fun i => l.length - i) 0 ⟨Nat.zero_le _, fun u hu => by omega⟩ (by simp (disch := (first | omega | assumption)) only [Sl, Sa, Sw, ↓reduceIte, Nat.reduceEqDiff, Nat.reduceLT, List.all_nil, List.all_cons, Nat.reduceBneDiff, Nat.reduceAdd, bne_iff_ne, ne_eq, reduceCtorEq, not_false_eq_true, not_true_eq_false, Bool.and_true, Bool.true_and, and_true, true_and, and_self]) (by
    simp (disch := (first | omega | assumption)) only [Sl, Sa, Sw, ↓reduceIte, Nat.reduceEqDiff, Nat.reduceLT, List.all_nil, List.all_cons, Nat.reduceBneDiff, Nat.reduceAdd, bne_iff_ne, ne_eq, reduceCtorEq, not_false_eq_true, not_true_eq_false, Bool.and_true, Bool.true_and, and_true, true_and, and_self, i_eq]
    repeat' first | rfl | omega | (simp only [List.length_append, List.length_cons, List.length_nil]; done) | apply And.intro) ?_
  intro i ⟨hi, hall⟩ Q' hQ he hr
  by_cases h : (i : Int) < (l.length : Int)
  · obtain ⟨r1, r2⟩ := ZC_row l i (by omega)
    obtain ⟨w1, l1⟩ := Zk_get hp i
    obtain ⟨x, hx⟩ : ∃ x, x = l.getD i (false, []) := ⟨_, rfl⟩
    rw [← hx] at r1 r2 w1 l1
    repeat first
      | (refine hK _ ?_; clear hK K)
      | ((first | refine vm_reg (fun K hK => ?_) | refine vm_dreg (fun K hK => ?_) | refine vm_dregx (fun K hK => ?_)); simp (disch := (first | omega | assumption)) only [S1, ↓reduceIte, Nat.reduceEqDiff, Nat.reduceAdd, Nat.reduceMul, Nat.reduceDiv, AOp.sb, AOp.mut, ↓Bool.false_eq_true, beq_self_eq_true, ite_self, Nat.reduceLeDiff, Int.reduceEq, Int.reduceSub, Int.reduceAdd, Int.reduceNeg, Int.reduceLT, Int.reduceLE, Nat.reduceLT, bz_T2b, h, hz, r1]; refine hK _ ?_; clear hK K)
      | simp only [Sv, ↓reduceIte, Nat.reduceEqDiff]
    refine vm_loopA [] Nat (fun j => ⟨[(7, .l 2 (ZC l)), (8, .i .i64 (l.length : Int)), (9, .i .i64 (i : Int)), (14, .l 1 (W x.2)), (15, .i .i64 (x.2.length : Int)), (16, .i .i64 (j : Int))], [], 0⟩)
      (fun j => j ≤ x.2.length ∧ ∀ u, u < j → x.2.getD u 0 = 0) (fun j => x.2.length - j) 0 ⟨Nat.zero_le _, fun u hu => by omega⟩ (by simp (disch := (first | omega | assumption)) only [Sl, Sa, Sw, ↓reduceIte, Nat.reduceEqDiff, Nat.reduceLT, List.all_nil, List.all_cons, Nat.reduceBneDiff, Nat.reduceAdd, bne_iff_ne, ne_eq, reduceCtorEq, not_false_eq_true, not_true_eq_false, Bool.and_true, Bool.true_and, and_true, true_and, and_self]) (by
      simp (disch := (first | omega | assumption)) only [Sl, Sa, Sw, ↓reduceIte, Nat.reduceEqDiff, Nat.reduceLT, List.all_nil, List.all_cons, Nat.reduceBneDiff, Nat.reduceAdd, bne_iff_ne, ne_eq, reduceCtorEq, not_false_eq_true, not_true_eq_false, Bool.and_true, Bool.true_and, and_true, true_and, and_self, i_eq]
      repeat' first | rfl | omega | (simp only [List.length_append, List.length_cons, List.length_nil]; done) | apply And.intro) ?_
    intro j ⟨hj, hjl⟩ Q2 hQ2 he2 hr2
    by_cases h2 : (j : Int) < (x.2.length : Int)
    · by_cases h3 : ((x.2.getD j 0 : Nat) : Int) = 0
      · repeat first
          | (refine hK _ ?_; clear hK K)
          | ((first | refine vm_reg (fun K hK => ?_) | refine vm_dreg (fun K hK => ?_) | refine vm_dregx (fun K hK => ?_)); simp (disch := (first | omega | assumption)) only [S1, ↓reduceIte, Nat.reduceEqDiff, Nat.reduceAdd, Nat.reduceMul, Nat.reduceDiv, AOp.sb, AOp.mut, ↓Bool.false_eq_true, beq_self_eq_true, ite_self, Nat.reduceLeDiff, Int.reduceEq, Int.reduceSub, Int.reduceAdd, Int.reduceNeg, Int.reduceLT, Int.reduceLE, Nat.reduceLT, bz_T2b, h2, W_get, h3]; refine hK _ ?_; clear hK K)
          | simp only [Sv, ↓reduceIte, Nat.reduceEqDiff]
        refine hQ2 _ (j + 1) ⟨by omega, fun u hu => ?_⟩ (by omega) ?_
        · by_cases e : u = j
          · subst e; omega
          · exact hjl u (by omega)
        · simp (disch := (first | omega | assumption)) only [Sl, Sa, Sw, ↓reduceIte, Nat.reduceEqDiff, Nat.reduceLT, List.all_nil, List.all_cons, Nat.reduceBneDiff, Nat.reduceAdd, bne_iff_ne, ne_eq, reduceCtorEq, not_false_eq_true, not_true_eq_false, Bool.and_true, Bool.true_and, and_true, true_and, and_self, i_eq]
          repeat' first | rfl | omega | (simp only [List.length_append, List.length_cons, List.length_nil]; done) | apply And.intro
      · have hrf : r = false := by
          rw [hr0]
          refine @decide_eq_false (iz l) (Classical.propDecidable _) fun hh => ?_
          have := hh i j
          rw [← hx] at this
          omega
        repeat first
          | (refine hK _ ?_; clear hK K)
          | ((first | refine vm_reg (fun K hK => ?_) | refine vm_dreg (fun K hK => ?_) | refine vm_dregx (fun K hK => ?_)); simp (disch := (first | omega | assumption)) only [S1, ↓reduceIte, Nat.reduceEqDiff, Nat.reduceAdd, Nat.reduceMul, Nat.reduceDiv, AOp.sb, AOp.mut, ↓Bool.false_eq_true, beq_self_eq_true, ite_self, Nat.reduceLeDiff, Int.reduceEq, Int.reduceSub, Int.reduceAdd, Int.reduceNeg, Int.reduceLT, Int.reduceLE, Nat.reduceLT, bz_T2b, h2, W_get, h3]; refine hK _ ?_; clear hK K)
          | simp only [Sv, ↓reduceIte, Nat.reduceEqDiff]
        refine hr2 _ ?_
        repeat first
          | (refine hK _ ?_; clear hK K)
          | ((first | refine vm_reg (fun K hK => ?_) | refine vm_dreg (fun K hK => ?_) | refine vm_dregx (fun K hK => ?_)); simp (disch := (first | omega | assumption)) only [S1, ↓reduceIte, Nat.reduceEqDiff, Nat.reduceAdd, Nat.reduceMul, Nat.reduceDiv, AOp.sb, AOp.mut, ↓Bool.false_eq_true, beq_self_eq_true, ite_self, Nat.reduceLeDiff, Int.reduceEq, Int.reduceSub, Int.reduceAdd, Int.reduceNeg, Int.reduceLT, Int.reduceLE, Nat.reduceLT, bz_T2b]; refine hK _ ?_; clear hK K)
          | simp only [Sv, ↓reduceIte, Nat.reduceEqDiff]
        refine hr _ ?_
        repeat first
          | (refine hK _ ?_; clear hK K)
          | ((first | refine vm_reg (fun K hK => ?_) | refine vm_dreg (fun K hK => ?_) | refine vm_dregx (fun K hK => ?_)); simp (disch := (first | omega | assumption)) only [S1, ↓reduceIte, Nat.reduceEqDiff, Nat.reduceAdd, Nat.reduceMul, Nat.reduceDiv, AOp.sb, AOp.mut, ↓Bool.false_eq_true, beq_self_eq_true, ite_self, Nat.reduceLeDiff, Int.reduceEq, Int.reduceSub, Int.reduceAdd, Int.reduceNeg, Int.reduceLT, Int.reduceLE, Nat.reduceLT, bz_T2b]; refine hK _ ?_; clear hK K)
          | simp only [Sv, ↓reduceIte, Nat.reduceEqDiff]
        simp (disch := (first | omega | assumption)) only [retOk, retN, ret1, retF, ret1F, V.okArg, and_true, true_and, S1, ↓reduceIte, Nat.reduceEqDiff, Nat.reduceAdd, Nat.reduceMul, Nat.reduceDiv, AOp.sb, AOp.mut, ↓Bool.false_eq_true, beq_self_eq_true, ite_self, Nat.reduceLeDiff, Int.reduceEq, Int.reduceSub, Int.reduceAdd, Int.reduceNeg, Int.reduceLT, Int.reduceLE, Nat.reduceLT, bz_T2b, hrf]
    · repeat first
        | (refine hK _ ?_; clear hK K)
        | ((first | refine vm_reg (fun K hK => ?_) | refine vm_dreg (fun K hK => ?_) | refine vm_dregx (fun K hK => ?_)); simp (disch := (first | omega | assumption)) only [S1, ↓reduceIte, Nat.reduceEqDiff, Nat.reduceAdd, Nat.reduceMul, Nat.reduceDiv, AOp.sb, AOp.mut, ↓Bool.false_eq_true, beq_self_eq_true, ite_self, Nat.reduceLeDiff, Int.reduceEq, Int.reduceSub, Int.reduceAdd, Int.reduceNeg, Int.reduceLT, Int.reduceLE, Nat.reduceLT, bz_T2b, h2]; refine hK _ ?_; clear hK K)
        | simp only [Sv, ↓reduceIte, Nat.reduceEqDiff]
      refine he2 _ _ ?_
      repeat first
        | (refine hK _ ?_; clear hK K)
        | ((first | refine vm_reg (fun K hK => ?_) | refine vm_dreg (fun K hK => ?_) | refine vm_dregx (fun K hK => ?_)); simp (disch := (first | omega | assumption)) only [S1, ↓reduceIte, Nat.reduceEqDiff, Nat.reduceAdd, Nat.reduceMul, Nat.reduceDiv, AOp.sb, AOp.mut, ↓Bool.false_eq_true, beq_self_eq_true, ite_self, Nat.reduceLeDiff, Int.reduceEq, Int.reduceSub, Int.reduceAdd, Int.reduceNeg, Int.reduceLT, Int.reduceLE, Nat.reduceLT, bz_T2b]; refine hK _ ?_; clear hK K)
        | simp only [Sv, ↓reduceIte, Nat.reduceEqDiff]
      refine hQ _ (i + 1) ⟨by omega, fun u hu => ?_⟩ (by omega) ?_
      · by_cases e : u = i
        · subst e
          rw [← hx]
          intro v
          by_cases hv : v < x.2.length
          · exact hjl v (by omega)
          · rw [List.getD_eq_getElem?_getD, List.getElem?_eq_none (by omega)]; rfl
        · exact hall u (by omega)
      · simp (disch := (first | omega | assumption)) only [Sl, Sa, Sw, ↓reduceIte, Nat.reduceEqDiff, Nat.reduceLT, List.all_nil, List.all_cons, Nat.reduceBneDiff, Nat.reduceAdd, bne_iff_ne, ne_eq, reduceCtorEq, not_false_eq_true, not_true_eq_false, Bool.and_true, Bool.true_and, and_true, true_and, and_self, i_eq]
        repeat' first | rfl | omega | (simp only [List.length_append, List.length_cons, List.length_nil]; done) | apply And.intro
  · have hrt : r = true := by
      rw [hr0]
      refine @decide_eq_true (iz l) (Classical.propDecidable _) fun u v => ?_
      by_cases hu : u < l.length
      · exact hall u (by omega) v
      · have e : l.getD u (false, []) = (false, []) := by rw [List.getD_eq_getElem?_getD, List.getElem?_eq_none (by omega)]; rfl
        rw [e]; simp
    repeat first
      | (refine hK _ ?_; clear hK K)
      | ((first | refine vm_reg (fun K hK => ?_) | refine vm_dreg (fun K hK => ?_) | refine vm_dregx (fun K hK => ?_)); simp (disch := (first | omega | assumption)) only [S1, ↓reduceIte, Nat.reduceEqDiff, Nat.reduceAdd, Nat.reduceMul, Nat.reduceDiv, AOp.sb, AOp.mut, ↓Bool.false_eq_true, beq_self_eq_true, ite_self, Nat.reduceLeDiff, Int.reduceEq, Int.reduceSub, Int.reduceAdd, Int.reduceNeg, Int.reduceLT, Int.reduceLE, Nat.reduceLT, bz_T2b, h]; refine hK _ ?_; clear hK K)
      | simp only [Sv, ↓reduceIte, Nat.reduceEqDiff]
    refine he _ _ ?_
    repeat first
      | (refine hK _ ?_; clear hK K)
      | ((first | refine vm_reg (fun K hK => ?_) | refine vm_dreg (fun K hK => ?_) | refine vm_dregx (fun K hK => ?_)); simp (disch := (first | omega | assumption)) only [S1, ↓reduceIte, Nat.reduceEqDiff, Nat.reduceAdd, Nat.reduceMul, Nat.reduceDiv, AOp.sb, AOp.mut, ↓Bool.false_eq_true, beq_self_eq_true, ite_self, Nat.reduceLeDiff, Int.reduceEq, Int.reduceSub, Int.reduceAdd, Int.reduceNeg, Int.reduceLT, Int.reduceLE, Nat.reduceLT, bz_T2b]; refine hK _ ?_; clear hK K)
      | simp only [Sv, ↓reduceIte, Nat.reduceEqDiff]
    simp (disch := (first | omega | assumption)) only [retOk, retN, ret1, retF, ret1F, V.okArg, and_true, true_and, S1, ↓reduceIte, Nat.reduceEqDiff, Nat.reduceAdd, Nat.reduceMul, Nat.reduceDiv, AOp.sb, AOp.mut, ↓Bool.false_eq_true, beq_self_eq_true, ite_self, Nat.reduceLeDiff, Int.reduceEq, Int.reduceSub, Int.reduceAdd, Int.reduceNeg, Int.reduceLT, Int.reduceLE, Nat.reduceLT, bz_T2b, hrt]
end Go.Proofs.Ytihcbbkiifglmaa
