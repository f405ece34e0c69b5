/-
  surdlaw23: what its laws share.
-/
import Derived.Test.YtfkldohgiifgbaaG8
namespace Go.Proofs.Ytfkldohgiifgbaa
open Go Go.RowKit Ab
set_option linter.unusedSimpArgs false
set_option linter.unusedVariables false
set_option maxHeartbeats 10000000
theorem bz_LGKn : type_of% (And.intro @W_len (And.intro @D_len (And.intro @Nat.div_one (And.intro @Nat.mul_one (And.intro @tn_nat (And.intro @W_nf (And.intro @D_nf (And.intro @W_nil (And.intro @D_nil (And.intro @wi (And.intro @nf_g (And.intro @Bool.false_and (And.intro @W_cell (And.intro @ZC_cell (@ZC_nil))))))))))))))) := And.intro @W_len (And.intro @D_len (And.intro @Nat.div_one (And.intro @Nat.mul_one (And.intro @tn_nat (And.intro @W_nf (And.intro @D_nf (And.intro @W_nil (And.intro @D_nil (And.intro @wi (And.intro @nf_g (And.intro @Bool.false_and (And.intro @W_cell (And.intro @ZC_cell (@ZC_nil))))))))))))))

-- surd/surdlaw23.poly
def a30 : AC := .seq (.reg [⟨some 2, none, .mv (.k .nl)⟩])
  (.seq (.reg [⟨some 3, none, .mv (.k .nl)⟩])
  (.seq (.seq (.reg [⟨some 4, none, .mv (.k (.i .i64 0))⟩])
    (.blk 0
    (.loop
      (.seq (.seq (.reg [⟨some 5, none, .mv (.t 4)⟩, 
              ⟨some 6, none, .mv (.t 0)⟩, 
              ⟨some 7, none, .len (.t 6)⟩, 
              ⟨some 8, none, .bin .lss (.t 5) (.t 7)⟩])
          (.cond (.t 8)
          (.skip)
          (.exit 0)))
        (.seq (.blk 1
          (.reg [⟨some 11, none, .mv (.t 3)⟩, 
              ⟨some 12, none, .mv (.t 0)⟩, 
              ⟨some 13, none, .mv (.t 4)⟩, 
              ⟨some 14, none, .idx 1 (.t 12) (.t 13)⟩, 
              ⟨some 15, none, .ld false 1 (.t 14)⟩, 
              ⟨some 16, none, .call 61 [(1, (.t 15))]⟩, 
              ⟨some 17, none, .bsl 83 2 1 [(.b false), (.l 1 [])] [(0, (.t 16))]⟩, 
              ⟨some 18, none, .app 83 2 32 (.t 11) (.t 17)⟩, 
              ⟨some 3, none, .mv (.t 18)⟩]))
        (.reg [⟨some 9, none, .mv (.t 4)⟩, 
          ⟨some 10, none, .bin .add (.t 9) (.k (.i .i64 1))⟩, 
          ⟨some 4, none, .mv (.t 10)⟩]))))))
  (.seq (.reg [⟨some 19, none, .mv (.t 3)⟩, 
      ⟨some 2, none, .mv (.t 19)⟩])
  (.ret))))
theorem poly_spec (xs : List Int) (hx : ∀ x, x ∈ xs → -9223372036854775808 < x ∧ x < 9223372036854775808) (lx : xs.length ≤ 1000000) : AFun Try.prog J0 30 [.l 1 (I64 xs)] (.o 83 2 (ZC (nfl xs))) := by
  have hl := I64_len xs
  refine AFun.mk fol J0s Try.func30 rfl (ac := a30) (by kernel_rfl) rfl rfl ?_
  apply vm_start
  unfold a30
  simp only [init_eq, initE]
  repeat first
    | (refine hK _ ?_; clear hK K)
    | ((first | refine vm_reg (fun K hK => ?_) | refine vm_dreg (fun K hK => ?_)); simp (disch := (first | omega | assumption)) only [S1, ↓reduceIte, Nat.reduceEqDiff, Nat.reduceAdd, Nat.reduceMul, Nat.reduceDiv, AOp.sb, AOp.mut, ↓Bool.false_eq_true, beq_self_eq_true, ite_self, Nat.reduceLeDiff, Int.reduceEq, Int.reduceSub, Int.reduceAdd, Int.reduceNeg, Int.reduceLT, Int.reduceLE, Nat.reduceLT, bz_LGKn]; refine hK _ ?_; clear hK K)
    | simp only [Sv, ↓reduceIte, Nat.reduceEqDiff]
  refine vm_loopA [(3, 83, 2)] Nat (fun i => ⟨[(0, .l 1 (I64 xs)), (3, .ow 2 0 i), (4, .i .i64 (i : Int))], [(0, some ⟨83, 2, ZC (nfl (xs.take i)), true, false⟩)], 1⟩)
    (fun i => i ≤ xs.length) (fun i => xs.length - i) 0 (Nat.zero_le _) (by simp (disch := (first | omega | assumption)) only [Sl, Sa, Sw, ↓reduceIte, Nat.reduceEqDiff, Nat.reduceLT, List.all_nil, List.all_cons, Nat.reduceBneDiff, Nat.reduceAdd, bne_iff_ne, ne_eq, reduceCtorEq, not_false_eq_true, not_true_eq_false, Bool.and_true, Bool.true_and, and_true, true_and, and_self]) (by
    simp (disch := (first | omega | assumption)) only [Sl, Sa, Sw, ↓reduceIte, Nat.reduceEqDiff, Nat.reduceLT, List.all_nil, List.all_cons, Nat.reduceBneDiff, Nat.reduceAdd, bne_iff_ne, ne_eq, reduceCtorEq, not_false_eq_true, not_true_eq_false, Bool.and_true, Bool.true_and, and_true, true_and, and_self, i_eq]
    repeat' first | rfl | omega | (simp only [List.length_append, List.length_cons, List.length_nil]; done) | apply And.intro) ?_
  intro i hi Q' hQ he hr
  by_cases h : (i : Int) < (xs.length : Int)
  · have hix : i < xs.length := by omega
    have hg := I64_get xs i hix
    have hm : xs.getD i 0 ∈ xs := by rw [List.getD_eq_getElem?_getD, List.getElem?_eq_getElem hix]; exact List.getElem_mem hix
    obtain ⟨b1, b2⟩ := hx _ hm
    have hz := hZ_spec (xs.getD i 0) b1 b2
    have hap := ZC_app1 (nfl (xs.take i)) (xs.getD i 0)
    rw [show nfl (xs.take i) ++ [nfp (xs.getD i 0)] = nfl (xs.take (i + 1)) from by unfold nfl; rw [take_snoc xs i hix, List.map_append]; rfl] at hap
    have l0 := ZC_len (nfl (xs.take i))
    have l1 := ZC_len (nfl (xs.take (i + 1)))
    rw [nfl_len, List.length_take] at l0 l1
    generalize xs.getD i 0 = c at *
    have zc1 := hz
    repeat first | (refine hK _ ?_; clear hK K) | simp only [Sv, ↓reduceIte, Nat.reduceEqDiff] | ((first | refine vm_reg (fun K hK => ?_) | refine vm_dreg (fun K hK => ?_) | refine clp_q ?_ | refine clq_mk (by assumption) ?_); simp (disch := (first | omega | assumption)) only [S1, ↓reduceIte, Nat.reduceEqDiff, Nat.reduceAdd, Nat.reduceMul, Nat.reduceDiv, AOp.sb, AOp.mut, ↓Bool.false_eq_true, beq_self_eq_true, ite_self, Nat.reduceLeDiff, Int.reduceEq, Int.reduceSub, Int.reduceAdd, Int.reduceNeg, Int.reduceLT, Int.reduceLE, Nat.reduceLT, bz_LGKn, h, hl, hg, hap])
    refine hQ _ (i + 1) (by omega) (by omega) ?_
    simp (disch := (first | omega | assumption)) only [Sl, Sa, Sw, ↓reduceIte, Nat.reduceEqDiff, Nat.reduceLT, List.all_nil, List.all_cons, Nat.reduceBneDiff, Nat.reduceAdd, bne_iff_ne, ne_eq, reduceCtorEq, not_false_eq_true, not_true_eq_false, Bool.and_true, Bool.true_and, and_true, true_and, and_self, i_eq]
    repeat' first | rfl | omega | (simp only [List.length_append, List.length_cons, List.length_nil]; done) | apply And.intro
  · obtain rfl : i = xs.length := by omega
    rw [List.take_length]
    repeat first
      | (refine hK _ ?_; clear hK K)
      | ((first | refine vm_reg (fun K hK => ?_) | refine vm_dreg (fun K hK => ?_)); simp (disch := (first | omega | assumption)) only [S1, ↓reduceIte, Nat.reduceEqDiff, Nat.reduceAdd, Nat.reduceMul, Nat.reduceDiv, AOp.sb, AOp.mut, ↓Bool.false_eq_true, beq_self_eq_true, ite_self, Nat.reduceLeDiff, Int.reduceEq, Int.reduceSub, Int.reduceAdd, Int.reduceNeg, Int.reduceLT, Int.reduceLE, Nat.reduceLT, bz_LGKn, h, hl]; refine hK _ ?_; clear hK K)
      | simp only [Sv, ↓reduceIte, Nat.reduceEqDiff]
    refine he _ _ ?_
    repeat first
      | (refine hK _ ?_; clear hK K)
      | ((first | refine vm_reg (fun K hK => ?_) | refine vm_dreg (fun K hK => ?_)); simp (disch := (first | omega | assumption)) only [S1, ↓reduceIte, Nat.reduceEqDiff, Nat.reduceAdd, Nat.reduceMul, Nat.reduceDiv, AOp.sb, AOp.mut, ↓Bool.false_eq_true, beq_self_eq_true, ite_self, Nat.reduceLeDiff, Int.reduceEq, Int.reduceSub, Int.reduceAdd, Int.reduceNeg, Int.reduceLT, Int.reduceLE, Nat.reduceLT, bz_LGKn]; refine hK _ ?_; clear hK K)
      | simp only [Sv, ↓reduceIte, Nat.reduceEqDiff]
    simp (disch := (first | omega | assumption)) only [retOk, retN, ret1, retF, ret1F, V.okArg, and_true, true_and, S1, ↓reduceIte, Nat.reduceEqDiff, Nat.reduceAdd, Nat.reduceMul, Nat.reduceDiv, AOp.sb, AOp.mut, ↓Bool.false_eq_true, beq_self_eq_true, ite_self, Nat.reduceLeDiff, Int.reduceEq, Int.reduceSub, Int.reduceAdd, Int.reduceNeg, Int.reduceLT, Int.reduceLE, Nat.reduceLT, bz_LGKn]
theorem polyZ (xs : List Int) (hx : ∀ x, x ∈ xs → -9223372036854775808 < x ∧ x < 9223372036854775808) (lx : xs.length ≤ 1000000) : AFun Try.prog J0 30 [.l 1 (I64 xs)] (.l 2 (ZC (nfl xs))) := (poly_spec xs hx lx).frozen
theorem ZOk_small {xs : List Int} (lx : xs.length ≤ 100000000) (h : ∀ c, c ∈ xs → c.natAbs < 18446744073709551616) : ZOk (nfl xs) 100000000 := by
  refine ⟨by rw [nfl_len]; exact lx, fun p hp => ?_⟩
  obtain ⟨c, hc, rfl⟩ := List.mem_map.1 hp
  refine ⟨Wd_dg _, Nat.le_trans (dlen (k := 1) ?_) (by decide)⟩
  rw [Nat.pow_one]
  exact h c hc
-- surd/surdlaw23.known
def a12 : AC := .seq (.reg [⟨some 0, none, .mv (.k (.b false))⟩])
  (.seq (.reg [⟨some 6, none, .bsl 3 1 3 [(.i .i64 0), (.i .i64 0), (.i .i64 0)] [(0, (.k (.i .i64 0))), (1, (.k (.i .i64 1))), (2, (.k (.i .i64 1)))]⟩, 
      ⟨some 7, none, .call 30 [(1, (.t 6))]⟩, 
      ⟨some 8, none, .bld [(.i .i64 0), (.i .i64 0)] [(0, 1, (.k (.i .i64 1))), (1, 1, (.k (.i .i64 1)))]⟩, 
      ⟨some 9, none, .call 14 [(2, (.t 7)), (1, (.t 8))]⟩, 
      ⟨some 5, none, .mv (.t 9)⟩, 
      ⟨some 10, none, .ext (.t 5) 0⟩, 
      ⟨some 11, none, .ext (.t 5) 1⟩, 
      ⟨some 1, none, .al 31 [(.i .i64 0), (.i .i64 0)]⟩, 
      ⟨none, none, .st 2 (.t 1) (.t 10)⟩, 
      ⟨some 2, none, .mv (.t 11)⟩])
  (.seq (.reg [⟨some 13, none, .bsl 3 1 3 [(.i .i64 0), (.i .i64 0), (.i .i64 0)] [(0, (.k (.i .i64 0))), (1, (.k (.i .i64 0))), (2, (.k (.i .i64 1)))]⟩, 
      ⟨some 14, none, .call 30 [(1, (.t 13))]⟩, 
      ⟨some 15, none, .bld [(.i .i64 0), (.i .i64 0)] []⟩, 
      ⟨some 16, none, .call 28 [(2, (.t 14)), (1, (.t 15)), (1, (.k (.i .i64 1)))]⟩, 
      ⟨some 12, none, .mv (.t 16)⟩, 
      ⟨some 17, none, .ext (.t 12) 0⟩, 
      ⟨some 18, none, .ext (.t 12) 1⟩, 
      ⟨some 3, none, .mv (.t 17)⟩, 
      ⟨some 4, none, .mv (.t 18)⟩])
  (.seq (.reg [⟨some 19, none, .mv (.t 2)⟩, 
      ⟨some 20, none, .bin .eql (.t 19) (.k (.i .i64 0))⟩, 
      ⟨some 21, none, .mv (.t 20)⟩, 
      ⟨some 22, some (21, true), .mv (.t 4)⟩, 
      ⟨some 23, some (21, true), .bin .eql (.t 22) (.k (.i .i64 0))⟩, 
      ⟨some 24, none, .pick (.t 21) (.t 23) (.k (.b false))⟩, 
      ⟨some 25, none, .mv (.t 24)⟩, 
      ⟨some 26, some (25, true), .ld true 2 (.t 1)⟩, 
      ⟨some 27, some (25, true), .bld [(.i .i64 0), (.i .i64 0)] [(0, 1, (.k (.i .i64 1))), (1, 1, (.k (.i .i64 3)))]⟩, 
      ⟨some 28, some (25, true), .pur (.eqs false [1, 1]) [(.t 26), (.t 27)]⟩, 
      ⟨some 29, none, .pick (.t 25) (.t 28) (.k (.b false))⟩, 
      ⟨some 30, none, .mv (.t 29)⟩, 
      ⟨some 31, some (30, true), .mv (.t 3)⟩, 
      ⟨some 32, some (30, true), .bin .eql (.t 31) (.k (.i .i64 2))⟩, 
      ⟨some 33, none, .pick (.t 30) (.t 32) (.k (.b false))⟩, 
      ⟨some 0, none, .mv (.t 33)⟩])
  (.ret))))
theorem gknown_spec : AFun Try.prog J0 12 [] (.b true) := by
  have q1 := polyZ [0, 1, 1] (by decide) (by decide)
  have q2 := polyZ [0, 0, 1] (by decide) (by decide)
  have h1 := gvalS (nfl [0, 1, 1]) 100000000 (by decide) (ZOk_small (by decide) (by decide)) (1, 1)
  rw [zcs_nfl, show vF [0, 1, 1] (1, 1) = (1, 3) from by decide +kernel, show vE [0, 1, 1] (1, 1) = 0 from by decide +kernel] at h1
  have h2 := garoundS (nfl [0, 0, 1]) 100000000 (by decide) (ZOk_small (by decide) (by decide)) (0, 0) 1 (by unfold Pi; decide)
  rw [zcs_nfl, show arF [0, 0, 1] (0, 0) 1 = 2 from by decide +kernel, show arE [0, 0, 1] (0, 0) 1 = 0 from by decide +kernel] at h2
  simp only [nV] at h1 h2
  generalize nfl [0, 1, 1] = p1 at *
  generalize nfl [0, 0, 1] = p2 at *
  rw [show I64 [0, 1, 1] = [.i .i64 0, .i .i64 1, .i .i64 1] from rfl] at q1
  rw [show I64 [0, 0, 1] = [.i .i64 0, .i .i64 0, .i .i64 1] from rfl] at q2
  refine AFun.mk fol J0s Try.func12 rfl (ac := a12) (by kernel_rfl) rfl rfl ?_
  apply vm_start
  unfold a12
  simp only [init_eq, initE]
  have zc2 := q1
  have zc3 := h1
  have zc4 := q2
  have zc5 := h2
  repeat first | (refine hK _ ?_; clear hK K) | simp only [Sv, ↓reduceIte, Nat.reduceEqDiff] | ((first | refine vm_reg (fun K hK => ?_) | refine vm_dreg (fun K hK => ?_) | refine clp_q ?_ | refine clq_mk (by assumption) ?_); simp (disch := (first | omega | assumption)) only [S1, ↓reduceIte, Nat.reduceEqDiff, Nat.reduceAdd, Nat.reduceMul, Nat.reduceDiv, AOp.sb, AOp.mut, ↓Bool.false_eq_true, beq_self_eq_true, ite_self, Nat.reduceLeDiff, Int.reduceEq, Int.reduceSub, Int.reduceAdd, Int.reduceNeg, Int.reduceLT, Int.reduceLE, Nat.reduceLT, bz_LGKn])
  simp (disch := (first | omega | assumption)) only [retOk, retN, ret1, retF, ret1F, V.okArg, and_true, true_and, S1, ↓reduceIte, Nat.reduceEqDiff, Nat.reduceAdd, Nat.reduceMul, Nat.reduceDiv, AOp.sb, AOp.mut, ↓Bool.false_eq_true, beq_self_eq_true, ite_self, Nat.reduceLeDiff, Int.reduceEq, Int.reduceSub, Int.reduceAdd, Int.reduceNeg, Int.reduceLT, Int.reduceLE, Nat.reduceLT, bz_LGKn]
-- surd/surdlaw23.few
def a29 : AC := .seq (.reg [⟨some 2, none, .bx 27 (.t 0)⟩, 
      ⟨some 4, none, .al 31 [(.i .i64 0), (.i .i64 0)]⟩])
  (.seq (.dreg [⟨some 5, none, .fad 0 (.t 2)⟩, 
      ⟨some 6, none, .ld false 1 (.t 5)⟩, 
      ⟨some 7, none, .mv (.t 1)⟩, 
      ⟨some 8, none, .bin .rem (.t 6) (.t 7)⟩, 
      ⟨some 9, none, .fad 1 (.t 2)⟩, 
      ⟨some 10, none, .ld false 1 (.t 9)⟩, 
      ⟨some 11, none, .mv (.t 1)⟩, 
      ⟨some 12, none, .bin .rem (.t 10) (.t 11)⟩, 
      ⟨some 13, none, .bld [(.i .i64 0), (.i .i64 0)] [(0, 1, (.t 8)), (1, 1, (.t 12))]⟩, 
      ⟨none, none, .st 2 (.t 4) (.t 13)⟩])
  (.ret))
theorem few_spec (z : GZ) (k : Nat) (hk : 0 < k) (hk2 : k ≤ 1000) : AFun Try.prog J0 29 [nV z, .i .i64 (k : Int)] (nV (z.1.tmod k, z.2.tmod k)) := by
  have k0 : ¬ (k : Int) = 0 := by omega
  simp only [nV]
  refine AFun.mkc fol J0s Try.func29 rfl (ac := a29) (by kernel_rfl) (rs := [.c 4 true 2]) (by kernel_rfl) rfl ?_
  apply vm_start
  unfold a29
  simp only [init_eq, initE]
  repeat first
    | (refine hK _ ?_; clear hK K)
    | ((first | refine vm_reg (fun K hK => ?_) | refine vm_dreg (fun K hK => ?_)); simp (disch := (first | omega | assumption)) only [S1, ↓reduceIte, Nat.reduceEqDiff, Nat.reduceAdd, Nat.reduceMul, Nat.reduceDiv, AOp.sb, AOp.mut, ↓Bool.false_eq_true, beq_self_eq_true, ite_self, Nat.reduceLeDiff, Int.reduceEq, Int.reduceSub, Int.reduceAdd, Int.reduceNeg, Int.reduceLT, Int.reduceLE, Nat.reduceLT, bz_LGKn, k0]; refine hK _ ?_; clear hK K)
    | simp only [Sv, ↓reduceIte, Nat.reduceEqDiff]
  simp (disch := (first | omega | assumption)) only [retC, rsVs_nil, rsVs_cons, rsV_t, rsV_c, rsp_pt, rsq_t, rsq_f, ocons_ss, retV_1, retV_2, retNV_nil, retNV_cons, retOk, retN, ret1, retF, ret1F, V.okArg, and_true, true_and, S1, ↓reduceIte, Nat.reduceEqDiff, Nat.reduceAdd, Nat.reduceMul, Nat.reduceDiv, AOp.sb, AOp.mut, ↓Bool.false_eq_true, beq_self_eq_true, ite_self, Nat.reduceLeDiff, Int.reduceEq, Int.reduceSub, Int.reduceAdd, Int.reduceNeg, Int.reduceLT, Int.reduceLE, Nat.reduceLT, bz_LGKn]
end Go.Proofs.Ytfkldohgiifgbaa
