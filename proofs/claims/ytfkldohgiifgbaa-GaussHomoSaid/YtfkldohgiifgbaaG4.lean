/-
  zpoly.Norm; gauss: values.
-/
import Derived.Test.YtfkldohgiifgbaaG3
import Derived.Test.YtfkldohgiifgbaaZ6
namespace Go.Proofs.Ytfkldohgiifgbaa
open Go Go.RowKit Ab
set_option linter.unusedSimpArgs false
set_option linter.unusedVariables false
set_option maxHeartbeats 10000000
theorem bz_G4 : type_of% (And.intro @W_len (And.intro @D_len (And.intro @Nat.div_one (And.intro @Nat.mul_one (And.intro @tn_nat (And.intro @W_nf (And.intro @D_nf (And.intro @W_nil (And.intro @D_nil (And.intro @wi (And.intro @nf_g (And.intro @Bool.false_and (And.intro @W_cell (And.intro @ZC_cell (@ZC_nil))))))))))))))) := And.intro @W_len (And.intro @D_len (And.intro @Nat.div_one (And.intro @Nat.mul_one (And.intro @tn_nat (And.intro @W_nf (And.intro @D_nf (And.intro @W_nil (And.intro @D_nil (And.intro @wi (And.intro @nf_g (And.intro @Bool.false_and (And.intro @W_cell (And.intro @ZC_cell (@ZC_nil))))))))))))))

/-- what a polynomial is handed in as -/
def ZOk (l : List (Bool × List Nat)) (m : Nat) : Prop := l.length ≤ m ∧ ∀ p, p ∈ l → Wd p.2 ∧ p.2.length ≤ m
/-- its coefficients -/
def zcs (l : List (Bool × List Nat)) : List Int := l.map zvp
theorem zcs_len (l : List (Bool × List Nat)) : (zcs l).length = l.length := by simp [zcs]
theorem zcs_get (l : List (Bool × List Nat)) (i : Nat) (h : i < l.length) : (zcs l).getD i 0 = zvp (l.getD i (false, [])) := by
  simp [zcs, List.getD_eq_getElem?_getD, h]
theorem getD_mem {l : List (Bool × List Nat)} {i : Nat} (h : i < l.length) : l.getD i (false, []) ∈ l := by
  rw [List.getD_eq_getElem?_getD, List.getElem?_eq_getElem h]; exact List.getElem_mem h
theorem sgz_z (z : Int) : (sgz z = 0) = (z = 0) := by unfold sgz; split; (exact propext ⟨fun h => absurd h (by decide), fun h => by omega⟩); split; (exact propext ⟨fun h => absurd h (by decide), fun h => by omega⟩); exact propext ⟨fun _ => by omega, fun _ => rfl⟩
-- surd/zpoly.size
def a92 : AC := .seq (.reg [⟨some 2, none, .mv (.k (.i .i64 0))⟩])
  (.seq (.reg [⟨some 4, none, .mv (.t 0)⟩, 
      ⟨some 5, none, .len (.t 4)⟩, 
      ⟨some 3, none, .mv (.t 5)⟩])
  (.seq (.blk 0
    (.loop
      (.seq (.seq (.reg [⟨some 6, none, .mv (.t 3)⟩, 
              ⟨some 7, none, .bin .gtr (.t 6) (.k (.i .i64 0))⟩, 
              ⟨some 8, none, .mv (.t 7)⟩, 
              ⟨some 9, some (8, true), .mv (.t 0)⟩, 
              ⟨some 10, some (8, true), .mv (.t 3)⟩, 
              ⟨some 11, some (8, true), .bin .sub (.t 10) (.k (.i .i64 1))⟩, 
              ⟨some 12, some (8, true), .idx 2 (.t 9) (.t 11)⟩, 
              ⟨some 13, some (8, true), .ld true 2 (.t 12)⟩, 
              ⟨some 14, some (8, true), .call 112 [(1, (.t 13))]⟩, 
              ⟨some 15, some (8, true), .bin .eql (.t 14) (.k (.i .i64 0))⟩, 
              ⟨some 16, none, .pick (.t 8) (.t 15) (.k (.b false))⟩])
          (.cond (.t 16)
          (.skip)
          (.exit 0)))
        (.blk 1
        (.reg [⟨some 17, none, .mv (.t 3)⟩, 
            ⟨some 18, none, .bin .sub (.t 17) (.k (.i .i64 1))⟩, 
            ⟨some 3, none, .mv (.t 18)⟩])))))
  (.seq (.reg [⟨some 19, none, .mv (.t 3)⟩, 
      ⟨some 2, none, .mv (.t 19)⟩])
  (.ret))))
theorem zsize_spec (l : List (Bool × List Nat)) (m : Nat) (hm : m ≤ 1000000000) (hl : ZOk l m) : AFun Try.prog J0 92 [.l 2 (ZC l)] (.i .i64 (((tzi (zcs l)).length : Nat) : Int)) := by
  have hlen : (ZC l).length / 2 = l.length := by rw [ZC_len]; omega
  have hz := ZC_len l
  obtain ⟨ll, hp⟩ := hl
  have hcl := zcs_len l
  obtain ⟨r, hr0⟩ : ∃ r, r = (tzi (zcs l)).length := ⟨_, rfl⟩
  rw [← hr0]
  refine AFun.mk fol J0s Try.func92 rfl (ac := a92) (by kernel_rfl) rfl rfl ?_
  apply vm_start
  unfold a92
  simp only [init_eq, initE]
  repeat first
    | (refine hK _ ?_; clear hK K)
    | ((first | refine vm_reg (fun K hK => ?_) | refine vm_dreg (fun K hK => ?_)); simp (disch := (first | omega | assumption)) only [S1, ↓reduceIte, Nat.reduceEqDiff, Nat.reduceAdd, Nat.reduceMul, Nat.reduceDiv, AOp.sb, AOp.mut, ↓Bool.false_eq_true, beq_self_eq_true, ite_self, Nat.reduceLeDiff, Int.reduceEq, Int.reduceSub, Int.reduceAdd, Int.reduceNeg, Int.reduceLT, Int.reduceLE, Nat.reduceLT, bz_G4, hlen]; refine hK _ ?_; clear hK K)
    | simp only [Sv, ↓reduceIte, Nat.reduceEqDiff]
  refine vm_loopA [] Nat (fun n => ⟨[(0, .l 2 (ZC l)), (3, .i .i64 (n : Int))], [], 0⟩) (fun n => n ≤ l.length ∧ tzi (zcs l) = tzi ((zcs l).take n)) (fun n => n) l.length ⟨by omega, by rw [← hcl, List.take_length]⟩ (by simp (disch := (first | omega | assumption)) only [Sl, Sa, Sw, ↓reduceIte, Nat.reduceEqDiff, Nat.reduceLT, List.all_nil, List.all_cons, Nat.reduceBneDiff, Nat.reduceAdd, bne_iff_ne, ne_eq, reduceCtorEq, not_false_eq_true, not_true_eq_false, Bool.and_true, Bool.true_and, and_true, true_and, and_self]) (by
    simp (disch := (first | omega | assumption)) only [Sl, Sa, Sw, ↓reduceIte, Nat.reduceEqDiff, Nat.reduceLT, List.all_nil, List.all_cons, Nat.reduceBneDiff, Nat.reduceAdd, bne_iff_ne, ne_eq, reduceCtorEq, not_false_eq_true, not_true_eq_false, Bool.and_true, Bool.true_and, and_true, true_and, and_self, i_eq]
    repeat' first | rfl | omega | (simp only [List.length_append, List.length_cons, List.length_nil]; done) | apply And.intro) ?_
  intro n ⟨hn, ht⟩ Q' hQ he hr
  by_cases h0 : 0 < (n : Int)
  · obtain ⟨k, rfl⟩ : ∃ k, n = k + 1 := ⟨n - 1, by omega⟩
    have hk : k < l.length := by omega
    obtain ⟨r1, r2⟩ := ZC_row l k hk
    obtain ⟨wa, la⟩ := hp _ (getD_mem hk)
    have hs := zsign_spec (l.getD k (false, [])).1 (l.getD k (false, [])).2 wa (by omega)
    have hg := zcs_get l k hk
    have hsz := sgz_z (zvp (l.getD k (false, [])))
    rw [← hg] at hsz
    rw [show zv (l.getD k (false, [])).1 (l.getD k (false, [])).2 = zvp (l.getD k (false, [])) from rfl, ← hg] at hs
    generalize l.getD k (false, []) = p at *
    by_cases h1 : (zcs l).getD k 0 = 0
    · have hx : (sgz ((zcs l).getD k 0) = 0) := hsz.mpr h1
      have zc1 := hs
      repeat first | (refine hK _ ?_; clear hK K) | simp only [Sv, ↓reduceIte, Nat.reduceEqDiff] | ((first | refine vm_reg (fun K hK => ?_) | refine vm_dreg (fun K hK => ?_) | refine clp_q ?_ | refine clq_mk (by assumption) ?_); simp (disch := (first | omega | assumption)) only [S1, ↓reduceIte, Nat.reduceEqDiff, Nat.reduceAdd, Nat.reduceMul, Nat.reduceDiv, AOp.sb, AOp.mut, ↓Bool.false_eq_true, beq_self_eq_true, ite_self, Nat.reduceLeDiff, Int.reduceEq, Int.reduceSub, Int.reduceAdd, Int.reduceNeg, Int.reduceLT, Int.reduceLE, Nat.reduceLT, bz_G4, h0, tn_sub1, Nat.add_sub_cancel, hz, r1, hx])
      refine hQ _ k ⟨by omega, ?_⟩ (by omega) ?_
      · rw [ht]; exact tzi_zero _ k (by omega) h1
      · simp (disch := (first | omega | assumption)) only [Sl, Sa, Sw, ↓reduceIte, Nat.reduceEqDiff, Nat.reduceLT, List.all_nil, List.all_cons, Nat.reduceBneDiff, Nat.reduceAdd, bne_iff_ne, ne_eq, reduceCtorEq, not_false_eq_true, not_true_eq_false, Bool.and_true, Bool.true_and, and_true, true_and, and_self, i_eq]
        try omega
    · have hx : ¬ (sgz ((zcs l).getD k 0) = 0) := fun h => h1 (hsz.mp h)
      have e : r = k + 1 := by
        rw [hr0, ht, tzi_top _ k (by omega) h1, List.length_take, Nat.min_eq_left (by omega)]
      have zc2 := hs
      repeat first | (refine hK _ ?_; clear hK K) | simp only [Sv, ↓reduceIte, Nat.reduceEqDiff] | ((first | refine vm_reg (fun K hK => ?_) | refine vm_dreg (fun K hK => ?_) | refine clp_q ?_ | refine clq_mk (by assumption) ?_); simp (disch := (first | omega | assumption)) only [S1, ↓reduceIte, Nat.reduceEqDiff, Nat.reduceAdd, Nat.reduceMul, Nat.reduceDiv, AOp.sb, AOp.mut, ↓Bool.false_eq_true, beq_self_eq_true, ite_self, Nat.reduceLeDiff, Int.reduceEq, Int.reduceSub, Int.reduceAdd, Int.reduceNeg, Int.reduceLT, Int.reduceLE, Nat.reduceLT, bz_G4, h0, tn_sub1, Nat.add_sub_cancel, hz, r1, hx])
      refine he _ _ ?_
      repeat first
        | (refine hK _ ?_; clear hK K)
        | ((first | refine vm_reg (fun K hK => ?_) | refine vm_dreg (fun K hK => ?_)); simp (disch := (first | omega | assumption)) only [S1, ↓reduceIte, Nat.reduceEqDiff, Nat.reduceAdd, Nat.reduceMul, Nat.reduceDiv, AOp.sb, AOp.mut, ↓Bool.false_eq_true, beq_self_eq_true, ite_self, Nat.reduceLeDiff, Int.reduceEq, Int.reduceSub, Int.reduceAdd, Int.reduceNeg, Int.reduceLT, Int.reduceLE, Nat.reduceLT, bz_G4]; refine hK _ ?_; clear hK K)
        | simp only [Sv, ↓reduceIte, Nat.reduceEqDiff]
      simp (disch := (first | omega | assumption)) only [retOk, retN, ret1, retF, ret1F, V.okArg, and_true, true_and, S1, ↓reduceIte, Nat.reduceEqDiff, Nat.reduceAdd, Nat.reduceMul, Nat.reduceDiv, AOp.sb, AOp.mut, ↓Bool.false_eq_true, beq_self_eq_true, ite_self, Nat.reduceLeDiff, Int.reduceEq, Int.reduceSub, Int.reduceAdd, Int.reduceNeg, Int.reduceLT, Int.reduceLE, Nat.reduceLT, bz_G4, e]
  · obtain rfl : n = 0 := by omega
    have e : r = 0 := by rw [hr0, ht]; rfl
    repeat first
      | (refine hK _ ?_; clear hK K)
      | ((first | refine vm_reg (fun K hK => ?_) | refine vm_dreg (fun K hK => ?_)); simp (disch := (first | omega | assumption)) only [S1, ↓reduceIte, Nat.reduceEqDiff, Nat.reduceAdd, Nat.reduceMul, Nat.reduceDiv, AOp.sb, AOp.mut, ↓Bool.false_eq_true, beq_self_eq_true, ite_self, Nat.reduceLeDiff, Int.reduceEq, Int.reduceSub, Int.reduceAdd, Int.reduceNeg, Int.reduceLT, Int.reduceLE, Nat.reduceLT, bz_G4, h0]; refine hK _ ?_; clear hK K)
      | simp only [Sv, ↓reduceIte, Nat.reduceEqDiff]
    refine he _ _ ?_
    repeat first
      | (refine hK _ ?_; clear hK K)
      | ((first | refine vm_reg (fun K hK => ?_) | refine vm_dreg (fun K hK => ?_)); simp (disch := (first | omega | assumption)) only [S1, ↓reduceIte, Nat.reduceEqDiff, Nat.reduceAdd, Nat.reduceMul, Nat.reduceDiv, AOp.sb, AOp.mut, ↓Bool.false_eq_true, beq_self_eq_true, ite_self, Nat.reduceLeDiff, Int.reduceEq, Int.reduceSub, Int.reduceAdd, Int.reduceNeg, Int.reduceLT, Int.reduceLE, Nat.reduceLT, bz_G4]; refine hK _ ?_; clear hK K)
      | simp only [Sv, ↓reduceIte, Nat.reduceEqDiff]
    simp (disch := (first | omega | assumption)) only [retOk, retN, ret1, retF, ret1F, V.okArg, and_true, true_and, S1, ↓reduceIte, Nat.reduceEqDiff, Nat.reduceAdd, Nat.reduceMul, Nat.reduceDiv, AOp.sb, AOp.mut, ↓Bool.false_eq_true, beq_self_eq_true, ite_self, Nat.reduceLeDiff, Int.reduceEq, Int.reduceSub, Int.reduceAdd, Int.reduceNeg, Int.reduceLT, Int.reduceLE, Nat.reduceLT, bz_G4, e]
theorem zcs_take_nfp (l : List (Bool × List Nat)) (i : Nat) (h : i < l.length) : ((zcs l).take (i + 1)).map nfp = ((zcs l).take i).map nfp ++ [nfp (zvp (l.getD i (false, [])))] := by
  have h' : i < (zcs l).length := by rw [zcs_len]; exact h
  rw [List.take_succ_eq_append_getElem h', List.map_append]
  congr 1
  have := zcs_get l i h
  rw [List.getD_eq_getElem?_getD, List.getElem?_eq_getElem h'] at this
  rw [← this]; rfl
/-- a polynomial in its own form -/
def nfl (cs : List Int) : List (Bool × List Nat) := cs.map nfp
theorem zcs_nfl (cs : List Int) : zcs (nfl cs) = cs := by
  unfold zcs nfl
  rw [List.map_map]
  have : zvp ∘ nfp = id := funext zvp_nfp
  rw [this, List.map_id]
theorem ZOk_nfl {cs : List Int} {m : Nat} (hl : cs.length ≤ m) (h : ∀ c, c ∈ cs → c.natAbs < B ^ m) : ZOk (nfl cs) m := by
  refine ⟨by unfold nfl; rw [List.length_map]; exact hl, fun p hp => ?_⟩
  obtain ⟨c, hc, rfl⟩ := List.mem_map.1 hp
  exact ⟨Wd_dg _, dlen (h c hc)⟩
-- surd/zpoly.Norm
def a63 : AC := .seq (.reg [⟨some 2, none, .mv (.k .nl)⟩])
  (.seq (.reg [⟨some 3, none, .mv (.k .nl)⟩])
  (.seq (.seq (.reg [⟨some 5, none, .mv (.t 0)⟩, 
        ⟨some 6, none, .call 92 [(2, (.t 5))]⟩, 
        ⟨some 7, none, .mv (.k (.i .i64 0))⟩])
    (.blk 0
    (.loop
      (.seq (.reg [⟨some 8, none, .bin .lss (.t 7) (.t 6)⟩])
        (.seq (.cond (.t 8)
          (.skip)
          (.exit 0))
        (.seq (.blk 1
          (.seq (.reg [⟨some 9, none, .mv (.t 7)⟩, 
                ⟨some 4, none, .mv (.t 9)⟩])
            (.reg [⟨some 10, none, .mv (.t 3)⟩, 
              ⟨some 11, none, .mv (.t 0)⟩, 
              ⟨some 12, none, .mv (.t 4)⟩, 
              ⟨some 13, none, .idx 2 (.t 11) (.t 12)⟩, 
              ⟨some 14, none, .ld true 2 (.t 13)⟩, 
              ⟨some 15, none, .call 93 [(1, (.t 14))]⟩, 
              ⟨some 16, none, .bsl 83 2 1 [(.b false), (.l 1 [])] [(0, (.t 15))]⟩, 
              ⟨some 17, none, .app 83 2 32 (.t 10) (.t 16)⟩, 
              ⟨some 3, none, .mv (.t 17)⟩])))
        (.reg [⟨some 18, none, .bin .add (.t 7) (.k (.i .i64 1))⟩, 
          ⟨some 7, none, .mv (.t 18)⟩])))))))
  (.seq (.reg [⟨some 19, none, .mv (.t 3)⟩, 
      ⟨some 2, none, .mv (.t 19)⟩])
  (.ret))))
theorem zpnorm_spec (l : List (Bool × List Nat)) (m : Nat) (hm : m ≤ 100000000) (hl : ZOk l m) : AFun Try.prog J0 63 [.l 2 (ZC l)] (.o 83 2 (ZC (nfl (tzi (zcs l))))) := by
  have hsz := zsize_spec l m (by omega) hl
  have hz := ZC_len l
  obtain ⟨ll, hp⟩ := hl
  have htl := tzi_len (zcs l)
  rw [zcs_len] at htl
  have htk := tzi_take (zcs l)
  obtain ⟨n, hn⟩ : ∃ n, n = (tzi (zcs l)).length := ⟨_, rfl⟩
  rw [← hn] at hsz htl htk
  rw [← htk]
  unfold nfl
  refine AFun.mk fol J0s Try.func63 rfl (ac := a63) (by kernel_rfl) rfl rfl ?_
  apply vm_start
  unfold a63
  simp only [init_eq, initE]
  have zc3 := hsz
  repeat first | (refine hK _ ?_; clear hK K) | simp only [Sv, ↓reduceIte, Nat.reduceEqDiff] | ((first | refine vm_reg (fun K hK => ?_) | refine vm_dreg (fun K hK => ?_) | refine clp_q ?_ | refine clq_mk (by assumption) ?_); simp (disch := (first | omega | assumption)) only [S1, ↓reduceIte, Nat.reduceEqDiff, Nat.reduceAdd, Nat.reduceMul, Nat.reduceDiv, AOp.sb, AOp.mut, ↓Bool.false_eq_true, beq_self_eq_true, ite_self, Nat.reduceLeDiff, Int.reduceEq, Int.reduceSub, Int.reduceAdd, Int.reduceNeg, Int.reduceLT, Int.reduceLE, Nat.reduceLT, bz_G4])
  refine vm_loopA [(3, 83, 2)] Nat (fun i => ⟨[(0, .l 2 (ZC l)), (3, .ow 2 0 i), (6, .i .i64 (n : Int)), (7, .i .i64 (i : Int))], [(0, some ⟨83, 2, ZC (((zcs l).take i).map nfp), true, false⟩)], 1⟩)
    (fun i => i ≤ n) (fun i => n - i) 0 (Nat.zero_le _) (by simp (disch := (first | omega | assumption)) only [Sl, Sa, Sw, ↓reduceIte, Nat.reduceEqDiff, Nat.reduceLT, List.all_nil, List.all_cons, Nat.reduceBneDiff, Nat.reduceAdd, bne_iff_ne, ne_eq, reduceCtorEq, not_false_eq_true, not_true_eq_false, Bool.and_true, Bool.true_and, and_true, true_and, and_self]) (by
    simp (disch := (first | omega | assumption)) only [Sl, Sa, Sw, ↓reduceIte, Nat.reduceEqDiff, Nat.reduceLT, List.all_nil, List.all_cons, Nat.reduceBneDiff, Nat.reduceAdd, bne_iff_ne, ne_eq, reduceCtorEq, not_false_eq_true, not_true_eq_false, Bool.and_true, Bool.true_and, and_true, true_and, and_self, i_eq]
    repeat' first | rfl | omega | (simp only [List.length_append, List.length_cons, List.length_nil]; done) | apply And.intro) ?_
  intro i hi Q' hQ he hr
  by_cases h : (i : Int) < (n : Int)
  · have hk : i < l.length := by omega
    obtain ⟨r1, r2⟩ := ZC_row l i hk
    obtain ⟨wa, la⟩ := hp _ (getD_mem hk)
    have hs := znorm_spec (l.getD i (false, [])).1 (l.getD i (false, [])).2 wa (by omega)
    have hap := ZC_app1 (((zcs l).take i).map nfp) (zvp (l.getD i (false, [])))
    rw [← zcs_take_nfp l i hk] at hap
    have hlz := ZC_len (((zcs l).take (i + 1)).map nfp)
    rw [List.length_map, List.length_take, zcs_len] at hlz
    have hlz0 := ZC_len (((zcs l).take i).map nfp)
    rw [List.length_map, List.length_take, zcs_len] at hlz0
    rw [show zv (l.getD i (false, [])).1 (l.getD i (false, [])).2 = zvp (l.getD i (false, [])) from rfl] at hs
    generalize l.getD i (false, []) = p at *
    have zc4 := hs
    repeat first | (refine hK _ ?_; clear hK K) | simp only [Sv, ↓reduceIte, Nat.reduceEqDiff] | ((first | refine vm_reg (fun K hK => ?_) | refine vm_dreg (fun K hK => ?_) | refine clp_q ?_ | refine clq_mk (by assumption) ?_); simp (disch := (first | omega | assumption)) only [S1, ↓reduceIte, Nat.reduceEqDiff, Nat.reduceAdd, Nat.reduceMul, Nat.reduceDiv, AOp.sb, AOp.mut, ↓Bool.false_eq_true, beq_self_eq_true, ite_self, Nat.reduceLeDiff, Int.reduceEq, Int.reduceSub, Int.reduceAdd, Int.reduceNeg, Int.reduceLT, Int.reduceLE, Nat.reduceLT, bz_G4, h, hz, r1, hap])
    refine hQ _ (i + 1) (by omega) (by omega) ?_
    simp (disch := (first | omega | assumption)) only [Sl, Sa, Sw, ↓reduceIte, Nat.reduceEqDiff, Nat.reduceLT, List.all_nil, List.all_cons, Nat.reduceBneDiff, Nat.reduceAdd, bne_iff_ne, ne_eq, reduceCtorEq, not_false_eq_true, not_true_eq_false, Bool.and_true, Bool.true_and, and_true, true_and, and_self, i_eq]
    repeat' first | rfl | omega | (simp only [List.length_append, List.length_cons, List.length_nil]; done) | apply And.intro
  · obtain rfl : i = n := by omega
    repeat first
      | (refine hK _ ?_; clear hK K)
      | ((first | refine vm_reg (fun K hK => ?_) | refine vm_dreg (fun K hK => ?_)); simp (disch := (first | omega | assumption)) only [S1, ↓reduceIte, Nat.reduceEqDiff, Nat.reduceAdd, Nat.reduceMul, Nat.reduceDiv, AOp.sb, AOp.mut, ↓Bool.false_eq_true, beq_self_eq_true, ite_self, Nat.reduceLeDiff, Int.reduceEq, Int.reduceSub, Int.reduceAdd, Int.reduceNeg, Int.reduceLT, Int.reduceLE, Nat.reduceLT, bz_G4, h]; refine hK _ ?_; clear hK K)
      | simp only [Sv, ↓reduceIte, Nat.reduceEqDiff]
    refine he _ _ ?_
    repeat first
      | (refine hK _ ?_; clear hK K)
      | ((first | refine vm_reg (fun K hK => ?_) | refine vm_dreg (fun K hK => ?_)); simp (disch := (first | omega | assumption)) only [S1, ↓reduceIte, Nat.reduceEqDiff, Nat.reduceAdd, Nat.reduceMul, Nat.reduceDiv, AOp.sb, AOp.mut, ↓Bool.false_eq_true, beq_self_eq_true, ite_self, Nat.reduceLeDiff, Int.reduceEq, Int.reduceSub, Int.reduceAdd, Int.reduceNeg, Int.reduceLT, Int.reduceLE, Nat.reduceLT, bz_G4]; refine hK _ ?_; clear hK K)
      | simp only [Sv, ↓reduceIte, Nat.reduceEqDiff]
    simp (disch := (first | omega | assumption)) only [retOk, retN, ret1, retF, ret1F, V.okArg, and_true, true_and, S1, ↓reduceIte, Nat.reduceEqDiff, Nat.reduceAdd, Nat.reduceMul, Nat.reduceDiv, AOp.sb, AOp.mut, ↓Bool.false_eq_true, beq_self_eq_true, ite_self, Nat.reduceLeDiff, Int.reduceEq, Int.reduceSub, Int.reduceAdd, Int.reduceNeg, Int.reduceLT, Int.reduceLE, Nat.reduceLT, bz_G4]
end Go.Proofs.Ytfkldohgiifgbaa
