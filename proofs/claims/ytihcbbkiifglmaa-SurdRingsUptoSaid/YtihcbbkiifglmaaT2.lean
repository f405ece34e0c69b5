/-
  zpoly: degrees, derivatives, contents; surdtop: copies, comparisons.
-/
import Derived.Test.YtihcbbkiifglmaaT1
namespace Go.Proofs.Ytihcbbkiifglmaa
open Go Go.RowKit Ab
set_option linter.unusedSimpArgs false
set_option linter.unusedVariables false
set_option maxHeartbeats 10000000
theorem bz_T2 : type_of% (And.intro @W_len (And.intro @D_len (And.intro @Nat.div_one (And.intro @Nat.mul_one (And.intro @tn_nat (And.intro @W_nf (And.intro @D_nf (And.intro @W_nil (And.intro @D_nil (And.intro @wi (And.intro @nf_g (And.intro @Bool.false_and (And.intro @W_cell (And.intro @ZC_cell (@ZC_nil))))))))))))))) := And.intro @W_len (And.intro @D_len (And.intro @Nat.div_one (And.intro @Nat.mul_one (And.intro @tn_nat (And.intro @W_nf (And.intro @D_nf (And.intro @W_nil (And.intro @D_nil (And.intro @wi (And.intro @nf_g (And.intro @Bool.false_and (And.intro @W_cell (And.intro @ZC_cell (@ZC_nil))))))))))))))

-- surd/zpoly.Deg
def a12 : AC := .seq (.reg [⟨some 2, none, .mv (.k (.i .i64 0))⟩])
  (.seq (.reg [⟨some 3, none, .mv (.t 0)⟩, 
      ⟨some 4, none, .call 24 [(2, (.t 3))]⟩, 
      ⟨some 5, none, .bin .sub (.t 4) (.k (.i .i64 1))⟩, 
      ⟨some 2, none, .mv (.t 5)⟩])
  (.ret))
theorem zpdeg_spec (l : List (Bool × List Nat)) (m : Nat) (hm : m ≤ 100000000) (ll : l.length ≤ 1000000) (hp : Zk l m) : AFun Try.prog J0 12 [.l 2 (ZC l)] (.i .i64 (((tzi (zcs l)).length : Int) - 1)) := by
  have h := zsize_spec l m hm ll hp
  have h1 := tzi_len (zcs l)
  rw [zcs_len] at h1
  generalize (tzi (zcs l)).length = n at *
  refine AFun.mk fol J0s Try.func12 rfl (ac := a12) (by kernel_rfl) rfl rfl rfl ?_
  apply vm_start
  unfold a12
  simp only [init_eq, initE]
  have zc1 := h
  repeat first | (refine hK _ ?_; clear hK K) | simp only [Sv, ↓reduceIte, Nat.reduceEqDiff] | ((first | refine vm_reg (fun K hK => ?_) | refine vm_dreg (fun K hK => ?_) | refine vm_dregx (fun K hK => ?_) | refine clp_q ?_ | refine clq_mk (by assumption) ?_ | refine mcq_q ?_ | (apply mcr_mk; assumption)); simp (disch := (first | omega | assumption)) only [S1, ↓reduceIte, Nat.reduceEqDiff, Nat.reduceAdd, Nat.reduceMul, Nat.reduceDiv, AOp.sb, AOp.mut, ↓Bool.false_eq_true, beq_self_eq_true, ite_self, Nat.reduceLeDiff, Int.reduceEq, Int.reduceSub, Int.reduceAdd, Int.reduceNeg, Int.reduceLT, Int.reduceLE, Nat.reduceLT, bz_T2])
  simp (disch := (first | omega | assumption)) only [retOk, retN, ret1, retF, ret1F, V.okArg, and_true, true_and, S1, ↓reduceIte, Nat.reduceEqDiff, Nat.reduceAdd, Nat.reduceMul, Nat.reduceDiv, AOp.sb, AOp.mut, ↓Bool.false_eq_true, beq_self_eq_true, ite_self, Nat.reduceLeDiff, Int.reduceEq, Int.reduceSub, Int.reduceAdd, Int.reduceNeg, Int.reduceLT, Int.reduceLE, Nat.reduceLT, bz_T2]
theorem Cz_drv {l : List Int} {m : Nat} (h : Cz l m) (ll : l.length ≤ 1000000) : Cz (drv l) (m + 1) := fun i => by
  rw [drv_cf]
  unfold Dr
  by_cases hi : i + 1 < l.length
  · show (l.getD (i + 1) 0 * ((i + 1 : Nat) : Int)).natAbs < _
    rw [Int.natAbs_mul]
    exact pmul (h (i + 1)) (Nat.lt_of_le_of_lt (show ((i + 1 : Nat) : Int).natAbs ≤ 1000000 by omega) (by decide))
  · show (l.getD (i + 1) 0 * ((i + 1 : Nat) : Int)).natAbs < _
    rw [gD0 (l := l) (by omega), Int.zero_mul]; exact Nat.pow_pos B0
-- surd/zpoly.Deriv
def a11 : AC := .seq (.reg [⟨some 2, none, .mv (.k .nl)⟩])
  (.seq (.reg [⟨some 3, none, .mv (.k .nl)⟩])
  (.seq (.seq (.reg [⟨some 5, none, .mv (.t 0)⟩, 
        ⟨some 6, none, .call 24 [(2, (.t 5))]⟩, 
        ⟨some 7, none, .mv (.k (.i .i64 0))⟩])
    (.blk 0
    (.loop
      (.seq (.reg [⟨some 8, none, .bin .lss (.t 7) (.t 6)⟩])
        (.seq (.cond (.t 8)
          (.skip)
          (.exit 0))
        (.seq (.blk 1
          (.seq (.reg [⟨some 9, none, .mv (.t 7)⟩, 
                ⟨some 4, none, .mv (.t 9)⟩])
            (.seq (.reg [⟨some 10, none, .mv (.t 4)⟩, 
                ⟨some 11, none, .bin .gtr (.t 10) (.k (.i .i64 0))⟩])
            (.cond (.t 11)
            (.dreg [⟨some 12, none, .mv (.t 3)⟩, 
                ⟨some 13, none, .mv (.t 0)⟩, 
                ⟨some 14, none, .mv (.t 4)⟩, 
                ⟨some 15, none, .idx 2 (.t 13) (.t 14)⟩, 
                ⟨some 16, none, .ld true 2 (.t 15)⟩, 
                ⟨some 17, none, .mv (.t 4)⟩, 
                ⟨some 18, none, .call 26 [(1, (.t 17))]⟩, 
                ⟨some 19, none, .call 19 [(1, (.t 16)), (1, (.t 18))]⟩, 
                ⟨some 20, none, .bsl 33 2 1 [(.b false), (.l 1 [])] [(0, (.t 19))]⟩, 
                ⟨some 21, none, .app 33 2 32 (.t 12) (.t 20)⟩, 
                ⟨some 3, none, .mv (.t 21)⟩])
            (.skip)))))
        (.reg [⟨some 22, none, .bin .add (.t 7) (.k (.i .i64 1))⟩, 
          ⟨some 7, none, .mv (.t 22)⟩])))))))
  (.seq (.reg [⟨some 23, none, .mv (.t 3)⟩, 
      ⟨some 24, none, .call 10 [(2, (.t 23))]⟩, 
      ⟨some 2, none, .mv (.t 24)⟩])
  (.ret))))
theorem zpderiv_spec (l : List (Bool × List Nat)) (m : Nat) (hm : m ≤ 10000000) (hm1 : 1 ≤ m) (ll : l.length ≤ 1000000) (hp : Zk l m) : AFun Try.prog J0 11 [.l 2 (ZC l)] (.l 2 (ZC (nfl (tzi (drv (tzi (zcs l))))))) := by
  have hsz := zsize_spec l m (by omega) ll hp
  have hz := ZC_len l
  have htl := tzi_len (zcs l)
  rw [zcs_len] at htl
  have hg := fun i => (tzi_cf (zcs l) i).trans (zcs_get l i)
  have hno := zpnormN (drv (tzi (zcs l))) (m + 1) (by omega) (by rw [drv_len]; omega) (Cz_drv (Cz_tzi (Zk_Cz hp)) (by omega))
  have hdl := drv_len (tzi (zcs l))
  have hdc := drv_cf (tzi (zcs l))
  simp only [Dr, hg] at hdc
  obtain ⟨n, hn⟩ : ∃ n, n = (tzi (zcs l)).length := ⟨_, rfl⟩
  rw [← hn] at hsz htl hdl
  clear hn hg
  generalize drv (tzi (zcs l)) = R at *
  generalize tzi R = res at *
  have tl : ∀ i, i ≤ n - 1 → (R.take i).length = i := fun i hi => by rw [List.length_take]; omega
  refine AFun.mk fol J0s Try.func11 rfl (ac := a11) (by kernel_rfl) rfl rfl rfl ?_
  apply vm_start
  unfold a11
  simp only [init_eq, initE]
  have zc2 := hsz
  repeat first | (refine hK _ ?_; clear hK K) | simp only [Sv, ↓reduceIte, Nat.reduceEqDiff] | ((first | refine vm_reg (fun K hK => ?_) | refine vm_dreg (fun K hK => ?_) | refine vm_dregx (fun K hK => ?_) | refine clp_q ?_ | refine clq_mk (by assumption) ?_ | refine mcq_q ?_ | (apply mcr_mk; assumption)); simp (disch := (first | omega | assumption)) only [S1, ↓reduceIte, Nat.reduceEqDiff, Nat.reduceAdd, Nat.reduceMul, Nat.reduceDiv, AOp.sb, AOp.mut, ↓Bool.false_eq_true, beq_self_eq_true, ite_self, Nat.reduceLeDiff, Int.reduceEq, Int.reduceSub, Int.reduceAdd, Int.reduceNeg, Int.reduceLT, Int.reduceLE, Nat.reduceLT, bz_T2])
  refine vm_loopA [(3, 33, 2)] Nat (fun i => ⟨[(0, .l 2 (ZC l)), (3, .ow 2 0 (i - 1)), (6, .i .i64 (n : Int)), (7, .i .i64 (i : Int))], [(0, some ⟨33, 2, ZC (nfl (R.take (i - 1))), true, false⟩)], 1⟩)
    (fun i => i ≤ n) (fun i => n - i) 0 (Nat.zero_le _) (by simp (disch := (first | omega | assumption)) only [Sl, Sa, Sw, ↓reduceIte, Nat.reduceEqDiff, Nat.reduceLT, List.all_nil, List.all_cons, Nat.reduceBneDiff, Nat.reduceAdd, bne_iff_ne, ne_eq, reduceCtorEq, not_false_eq_true, not_true_eq_false, Bool.and_true, Bool.true_and, and_true, true_and, and_self]) (by
    simp (disch := (first | omega | assumption)) only [Sl, Sa, Sw, ↓reduceIte, Nat.reduceEqDiff, Nat.reduceLT, List.all_nil, List.all_cons, Nat.reduceBneDiff, Nat.reduceAdd, bne_iff_ne, ne_eq, reduceCtorEq, not_false_eq_true, not_true_eq_false, Bool.and_true, Bool.true_and, and_true, true_and, and_self, i_eq]
    repeat' first | rfl | omega | (simp only [List.length_append, List.length_cons, List.length_nil]; done) | apply And.intro) ?_
  intro i hi Q' hQ he hr
  by_cases h : (i : Int) < (n : Int)
  · by_cases h0 : 0 < i
    · obtain ⟨k, rfl⟩ : ∃ k, i = k + 1 := ⟨i - 1, by omega⟩
      have h0I : (0 : Int) < ((k + 1 : Nat) : Int) := by omega
      have hk : k + 1 < l.length := by omega
      obtain ⟨r1, r2⟩ := ZC_row l (k + 1) hk
      obtain ⟨wa, la⟩ := hp _ (getD_mem hk)
      have ho := zofn_spec ((k + 1 : Nat) : Int) (by omega) (by omega)
      have hmu := zmul_spec (l.getD (k + 1) (false, [])).1 (decide (((k + 1 : Nat) : Int) < 0)) (l.getD (k + 1) (false, [])).2 (dg B ((k + 1 : Nat) : Int).natAbs) wa (Wd_dg _) (by omega) (Nat.le_trans (dlen (k := 1) (Nat.lt_of_le_of_lt (show ((k + 1 : Nat) : Int).natAbs ≤ 1000000 by omega) (by decide))) (by decide))
      have hd := hdc k
      unfold zvp at hd
      rw [zv_N, ← hd] at hmu
      have hap := ZC_app1 (nfl (R.take k)) (R.getD k 0)
      rw [show nfl (R.take k) ++ [nfp (R.getD k 0)] = nfl (R.take (k + 1)) from by unfold nfl; rw [take_snoc' R k (by omega), List.map_append]; rfl] at hap
      have l0 := ZN_len (R.take k)
      have l1 := ZN_len (R.take (k + 1))
      rw [tl _ (by omega)] at l0 l1
      clear hdc hd
      simp only [Nat.add_sub_cancel]
      generalize l.getD (k + 1) (false, []) = p at *
      generalize R.getD k 0 = z at *
      have zc3 := ho
      have zc4 := hmu
      repeat first | (refine hK _ ?_; clear hK K) | simp only [Sv, ↓reduceIte, Nat.reduceEqDiff] | ((first | refine vm_reg (fun K hK => ?_) | refine vm_dreg (fun K hK => ?_) | refine vm_dregx (fun K hK => ?_) | refine clp_q ?_ | refine clq_mk (by assumption) ?_ | refine mcq_q ?_ | (apply mcr_mk; assumption)); simp (disch := (first | omega | assumption)) only [S1, ↓reduceIte, Nat.reduceEqDiff, Nat.reduceAdd, Nat.reduceMul, Nat.reduceDiv, AOp.sb, AOp.mut, ↓Bool.false_eq_true, beq_self_eq_true, ite_self, Nat.reduceLeDiff, Int.reduceEq, Int.reduceSub, Int.reduceAdd, Int.reduceNeg, Int.reduceLT, Int.reduceLE, Nat.reduceLT, bz_T2, h, h0I, hz, r1, hap])
      refine hQ _ (k + 1 + 1) (by omega) (by omega) ?_
      simp only [Nat.add_sub_cancel]
      simp (disch := (first | omega | assumption)) only [Sl, Sa, Sw, ↓reduceIte, Nat.reduceEqDiff, Nat.reduceLT, List.all_nil, List.all_cons, Nat.reduceBneDiff, Nat.reduceAdd, bne_iff_ne, ne_eq, reduceCtorEq, not_false_eq_true, not_true_eq_false, Bool.and_true, Bool.true_and, and_true, true_and, and_self, i_eq]
      repeat' first | rfl | omega | (simp only [List.length_append, List.length_cons, List.length_nil]; done) | apply And.intro
    · obtain rfl : i = 0 := by omega
      have h' : (0 : Int) < (n : Int) := by omega
      repeat first
        | (refine hK _ ?_; clear hK K)
        | ((first | refine vm_reg (fun K hK => ?_) | refine vm_dreg (fun K hK => ?_) | refine vm_dregx (fun K hK => ?_)); simp (disch := (first | omega | assumption)) only [S1, ↓reduceIte, Nat.reduceEqDiff, Nat.reduceAdd, Nat.reduceMul, Nat.reduceDiv, AOp.sb, AOp.mut, ↓Bool.false_eq_true, beq_self_eq_true, ite_self, Nat.reduceLeDiff, Int.reduceEq, Int.reduceSub, Int.reduceAdd, Int.reduceNeg, Int.reduceLT, Int.reduceLE, Nat.reduceLT, bz_T2, h']; refine hK _ ?_; clear hK K)
        | simp only [Sv, ↓reduceIte, Nat.reduceEqDiff]
      refine hQ _ 1 (by omega) (by omega) ?_
      simp (disch := (first | omega | assumption)) only [Sl, Sa, Sw, ↓reduceIte, Nat.reduceEqDiff, Nat.reduceLT, List.all_nil, List.all_cons, Nat.reduceBneDiff, Nat.reduceAdd, bne_iff_ne, ne_eq, reduceCtorEq, not_false_eq_true, not_true_eq_false, Bool.and_true, Bool.true_and, and_true, true_and, and_self, i_eq]
      repeat' first | rfl | omega | (simp only [List.length_append, List.length_cons, List.length_nil]; done) | apply And.intro
  · obtain rfl : i = n := by omega
    have hall : R.take (i - 1) = R := List.take_of_length_le (by omega)
    rw [hall]
    repeat first
      | (refine hK _ ?_; clear hK K)
      | ((first | refine vm_reg (fun K hK => ?_) | refine vm_dreg (fun K hK => ?_) | refine vm_dregx (fun K hK => ?_)); simp (disch := (first | omega | assumption)) only [S1, ↓reduceIte, Nat.reduceEqDiff, Nat.reduceAdd, Nat.reduceMul, Nat.reduceDiv, AOp.sb, AOp.mut, ↓Bool.false_eq_true, beq_self_eq_true, ite_self, Nat.reduceLeDiff, Int.reduceEq, Int.reduceSub, Int.reduceAdd, Int.reduceNeg, Int.reduceLT, Int.reduceLE, Nat.reduceLT, bz_T2, h]; refine hK _ ?_; clear hK K)
      | simp only [Sv, ↓reduceIte, Nat.reduceEqDiff]
    refine he _ _ ?_
    have zc5 := hno
    repeat first | (refine hK _ ?_; clear hK K) | simp only [Sv, ↓reduceIte, Nat.reduceEqDiff] | ((first | refine vm_reg (fun K hK => ?_) | refine vm_dreg (fun K hK => ?_) | refine vm_dregx (fun K hK => ?_) | refine clp_q ?_ | refine clq_mk (by assumption) ?_ | refine mcq_q ?_ | (apply mcr_mk; assumption)); simp (disch := (first | omega | assumption)) only [S1, ↓reduceIte, Nat.reduceEqDiff, Nat.reduceAdd, Nat.reduceMul, Nat.reduceDiv, AOp.sb, AOp.mut, ↓Bool.false_eq_true, beq_self_eq_true, ite_self, Nat.reduceLeDiff, Int.reduceEq, Int.reduceSub, Int.reduceAdd, Int.reduceNeg, Int.reduceLT, Int.reduceLE, Nat.reduceLT, bz_T2])
    simp (disch := (first | omega | assumption)) only [retOk, retN, ret1, retF, ret1F, V.okArg, and_true, true_and, S1, ↓reduceIte, Nat.reduceEqDiff, Nat.reduceAdd, Nat.reduceMul, Nat.reduceDiv, AOp.sb, AOp.mut, ↓Bool.false_eq_true, beq_self_eq_true, ite_self, Nat.reduceLeDiff, Int.reduceEq, Int.reduceSub, Int.reduceAdd, Int.reduceNeg, Int.reduceLT, Int.reduceLE, Nat.reduceLT, bz_T2]
theorem gf_gN (l : List (Bool × List Nat)) : gf l = gN (zcs l) := by
  unfold gf gN zcs
  rw [List.foldl_map]
  congr 1
  funext g p
  rw [show (zvp p).natAbs = nv B p.2 from zv_abs _ _]
/-- nowhere -/
theorem zat_neg (l : List (Bool × List Nat)) : AFun Try.prog J0 22 [.l 2 (ZC l), .i .i64 (-1)] (.g [.b false, .l 1 []]) := by
  refine AFun.mkc fol J0s Try.func22 rfl (ac := a22) (by kernel_rfl) (rs := [.c 4 true 2]) (by kernel_rfl) rfl rfl ?_
  apply vm_start
  unfold a22
  simp only [init_eq, initE]
  repeat first
    | (refine hK _ ?_; clear hK K)
    | ((first | refine vm_reg (fun K hK => ?_) | refine vm_dreg (fun K hK => ?_) | refine vm_dregx (fun K hK => ?_)); simp (disch := (first | omega | assumption)) only [S1, ↓reduceIte, Nat.reduceEqDiff, Nat.reduceAdd, Nat.reduceMul, Nat.reduceDiv, AOp.sb, AOp.mut, ↓Bool.false_eq_true, beq_self_eq_true, ite_self, Nat.reduceLeDiff, Int.reduceEq, Int.reduceSub, Int.reduceAdd, Int.reduceNeg, Int.reduceLT, Int.reduceLE, Nat.reduceLT, bz_T2]; refine hK _ ?_; clear hK K)
    | simp only [Sv, ↓reduceIte, Nat.reduceEqDiff]
  simp (disch := (first | omega | assumption)) only [retC, rsVs_nil, rsVs_cons, rsV_t, rsV_c, rsp_pt, rsq_t, rsq_f, ocons_ss, retV_1, retV_2, retNV_nil, retNV_cons, retOk, retN, ret1, retF, ret1F, V.okArg, and_true, true_and, S1, ↓reduceIte, Nat.reduceEqDiff, Nat.reduceAdd, Nat.reduceMul, Nat.reduceDiv, AOp.sb, AOp.mut, ↓Bool.false_eq_true, beq_self_eq_true, ite_self, Nat.reduceLeDiff, Int.reduceEq, Int.reduceSub, Int.reduceAdd, Int.reduceNeg, Int.reduceLT, Int.reduceLE, Nat.reduceLT, bz_T2]
-- surd/zpoly.Coef
def a40 : AC := .seq (.reg [⟨some 4, none, .al 33 [(.b false), (.l 1 [])]⟩])
  (.seq (.reg [⟨some 5, none, .mv (.t 0)⟩, 
      ⟨some 6, none, .mv (.t 1)⟩, 
      ⟨some 7, none, .call 22 [(2, (.t 5)), (1, (.t 6))]⟩, 
      ⟨some 8, none, .call 25 [(1, (.t 7))]⟩, 
      ⟨none, none, .st 2 (.t 4) (.t 8)⟩])
  (.ret))
theorem zcoef_spec (l : List (Bool × List Nat)) (m : Nat) (hm : m ≤ 100000000) (hp : Zk l m) (i : Nat) : AFun Try.prog J0 40 [.l 2 (ZC l), .i .i64 (i : Int)] (zN ((zcs l).getD i 0)) := by
  have h1 := zat_spec l i
  obtain ⟨w1, l1⟩ := Zk_get hp i
  have h2 := znorm_spec (l.getD i (false, [])).1 (l.getD i (false, [])).2 w1 (by omega)
  rw [zcs_get]
  unfold zvp
  generalize l.getD i (false, []) = p at *
  refine AFun.mkc fol J0s Try.func40 rfl (ac := a40) (by kernel_rfl) (rs := [.c 4 true 2]) (by kernel_rfl) rfl rfl ?_
  apply vm_start
  unfold a40
  simp only [init_eq, initE]
  have zc6 := h1
  have zc7 := h2
  repeat first | (refine hK _ ?_; clear hK K) | simp only [Sv, ↓reduceIte, Nat.reduceEqDiff] | ((first | refine vm_reg (fun K hK => ?_) | refine vm_dreg (fun K hK => ?_) | refine vm_dregx (fun K hK => ?_) | refine clp_q ?_ | refine clq_mk (by assumption) ?_ | refine mcq_q ?_ | (apply mcr_mk; assumption)); simp (disch := (first | omega | assumption)) only [S1, ↓reduceIte, Nat.reduceEqDiff, Nat.reduceAdd, Nat.reduceMul, Nat.reduceDiv, AOp.sb, AOp.mut, ↓Bool.false_eq_true, beq_self_eq_true, ite_self, Nat.reduceLeDiff, Int.reduceEq, Int.reduceSub, Int.reduceAdd, Int.reduceNeg, Int.reduceLT, Int.reduceLE, Nat.reduceLT, bz_T2])
  simp (disch := (first | omega | assumption)) only [retC, rsVs_nil, rsVs_cons, rsV_t, rsV_c, rsp_pt, rsq_t, rsq_f, ocons_ss, retV_1, retV_2, retNV_nil, retNV_cons, retOk, retN, ret1, retF, ret1F, V.okArg, and_true, true_and, S1, ↓reduceIte, Nat.reduceEqDiff, Nat.reduceAdd, Nat.reduceMul, Nat.reduceDiv, AOp.sb, AOp.mut, ↓Bool.false_eq_true, beq_self_eq_true, ite_self, Nat.reduceLeDiff, Int.reduceEq, Int.reduceSub, Int.reduceAdd, Int.reduceNeg, Int.reduceLT, Int.reduceLE, Nat.reduceLT, bz_T2]
theorem zcoef_neg (l : List (Bool × List Nat)) : AFun Try.prog J0 40 [.l 2 (ZC l), .i .i64 (-1)] (zN 0) := by
  have h1 := zat_neg l
  have h2 := znorm_spec false [] Wd_nil (by decide)
  rw [show zv false [] = 0 from rfl, show zL false [] = .g [.b false, .l 1 []] from rfl] at h2
  refine AFun.mkc fol J0s Try.func40 rfl (ac := a40) (by kernel_rfl) (rs := [.c 4 true 2]) (by kernel_rfl) rfl rfl ?_
  apply vm_start
  unfold a40
  simp only [init_eq, initE]
  have zc8 := h1
  have zc9 := h2
  repeat first | (refine hK _ ?_; clear hK K) | simp only [Sv, ↓reduceIte, Nat.reduceEqDiff] | ((first | refine vm_reg (fun K hK => ?_) | refine vm_dreg (fun K hK => ?_) | refine vm_dregx (fun K hK => ?_) | refine clp_q ?_ | refine clq_mk (by assumption) ?_ | refine mcq_q ?_ | (apply mcr_mk; assumption)); simp (disch := (first | omega | assumption)) only [S1, ↓reduceIte, Nat.reduceEqDiff, Nat.reduceAdd, Nat.reduceMul, Nat.reduceDiv, AOp.sb, AOp.mut, ↓Bool.false_eq_true, beq_self_eq_true, ite_self, Nat.reduceLeDiff, Int.reduceEq, Int.reduceSub, Int.reduceAdd, Int.reduceNeg, Int.reduceLT, Int.reduceLE, Nat.reduceLT, bz_T2])
  simp (disch := (first | omega | assumption)) only [retC, rsVs_nil, rsVs_cons, rsV_t, rsV_c, rsp_pt, rsq_t, rsq_f, ocons_ss, retV_1, retV_2, retNV_nil, retNV_cons, retOk, retN, ret1, retF, ret1F, V.okArg, and_true, true_and, S1, ↓reduceIte, Nat.reduceEqDiff, Nat.reduceAdd, Nat.reduceMul, Nat.reduceDiv, AOp.sb, AOp.mut, ↓Bool.false_eq_true, beq_self_eq_true, ite_self, Nat.reduceLeDiff, Int.reduceEq, Int.reduceSub, Int.reduceAdd, Int.reduceNeg, Int.reduceLT, Int.reduceLE, Nat.reduceLT, bz_T2]
  all_goals rfl
-- surd/zpoly.Lead
def a29 : AC := .seq (.reg [⟨some 2, none, .al 33 [(.b false), (.l 1 [])]⟩])
  (.seq (.reg [⟨some 3, none, .mv (.t 0)⟩, 
      ⟨some 4, none, .mv (.t 0)⟩, 
      ⟨some 5, none, .call 12 [(2, (.t 4))]⟩, 
      ⟨some 6, none, .call 40 [(2, (.t 3)), (1, (.t 5))]⟩, 
      ⟨none, none, .st 2 (.t 2) (.t 6)⟩])
  (.ret))
theorem zlead_spec (l : List (Bool × List Nat)) (m : Nat) (hm : m ≤ 100000000) (ll : l.length ≤ 1000000) (hp : Zk l m) : AFun Try.prog J0 29 [.l 2 (ZC l)] (zN (ldz (zcs l))) := by
  have h1 := zpdeg_spec l m hm ll hp
  have h3 := zcoef_neg l
  unfold ldz
  rw [tzi_cf]
  obtain ⟨n, hn⟩ : ∃ n, n = (tzi (zcs l)).length := ⟨_, rfl⟩
  rw [← hn] at h1 ⊢
  by_cases h : n = 0
  · subst h
    have e0 : tzi (zcs l) = [] := List.eq_nil_of_length_eq_zero hn.symm
    rw [show (zcs l).getD (0 - 1) 0 = 0 from by rw [← tzi_cf, e0]; simp]
    rw [show ((0 : Nat) : Int) - 1 = -1 from rfl] at h1
    refine AFun.mkc fol J0s Try.func29 rfl (ac := a29) (by kernel_rfl) (rs := [.c 2 true 2]) (by kernel_rfl) rfl rfl ?_
    apply vm_start
    unfold a29
    simp only [init_eq, initE]
    have zc10 := h1
    have zc11 := h3
    repeat first | (refine hK _ ?_; clear hK K) | simp only [Sv, ↓reduceIte, Nat.reduceEqDiff] | ((first | refine vm_reg (fun K hK => ?_) | refine vm_dreg (fun K hK => ?_) | refine vm_dregx (fun K hK => ?_) | refine clp_q ?_ | refine clq_mk (by assumption) ?_ | refine mcq_q ?_ | (apply mcr_mk; assumption)); simp (disch := (first | omega | assumption)) only [S1, ↓reduceIte, Nat.reduceEqDiff, Nat.reduceAdd, Nat.reduceMul, Nat.reduceDiv, AOp.sb, AOp.mut, ↓Bool.false_eq_true, beq_self_eq_true, ite_self, Nat.reduceLeDiff, Int.reduceEq, Int.reduceSub, Int.reduceAdd, Int.reduceNeg, Int.reduceLT, Int.reduceLE, Nat.reduceLT, bz_T2])
    simp (disch := (first | omega | assumption)) only [retC, rsVs_nil, rsVs_cons, rsV_t, rsV_c, rsp_pt, rsq_t, rsq_f, ocons_ss, retV_1, retV_2, retNV_nil, retNV_cons, retOk, retN, ret1, retF, ret1F, V.okArg, and_true, true_and, S1, ↓reduceIte, Nat.reduceEqDiff, Nat.reduceAdd, Nat.reduceMul, Nat.reduceDiv, AOp.sb, AOp.mut, ↓Bool.false_eq_true, beq_self_eq_true, ite_self, Nat.reduceLeDiff, Int.reduceEq, Int.reduceSub, Int.reduceAdd, Int.reduceNeg, Int.reduceLT, Int.reduceLE, Nat.reduceLT, bz_T2]
    all_goals rfl
  · have h2 := zcoef_spec l m hm hp (n - 1)
    rw [show ((n : Int) - 1) = ((n - 1 : Nat) : Int) from by omega] at h1
    refine AFun.mkc fol J0s Try.func29 rfl (ac := a29) (by kernel_rfl) (rs := [.c 2 true 2]) (by kernel_rfl) rfl rfl ?_
    apply vm_start
    unfold a29
    simp only [init_eq, initE]
    have zc12 := h1
    have zc13 := h2
    repeat first | (refine hK _ ?_; clear hK K) | simp only [Sv, ↓reduceIte, Nat.reduceEqDiff] | ((first | refine vm_reg (fun K hK => ?_) | refine vm_dreg (fun K hK => ?_) | refine vm_dregx (fun K hK => ?_) | refine clp_q ?_ | refine clq_mk (by assumption) ?_ | refine mcq_q ?_ | (apply mcr_mk; assumption)); simp (disch := (first | omega | assumption)) only [S1, ↓reduceIte, Nat.reduceEqDiff, Nat.reduceAdd, Nat.reduceMul, Nat.reduceDiv, AOp.sb, AOp.mut, ↓Bool.false_eq_true, beq_self_eq_true, ite_self, Nat.reduceLeDiff, Int.reduceEq, Int.reduceSub, Int.reduceAdd, Int.reduceNeg, Int.reduceLT, Int.reduceLE, Nat.reduceLT, bz_T2])
    simp (disch := (first | omega | assumption)) only [retC, rsVs_nil, rsVs_cons, rsV_t, rsV_c, rsp_pt, rsq_t, rsq_f, ocons_ss, retV_1, retV_2, retNV_nil, retNV_cons, retOk, retN, ret1, retF, ret1F, V.okArg, and_true, true_and, S1, ↓reduceIte, Nat.reduceEqDiff, Nat.reduceAdd, Nat.reduceMul, Nat.reduceDiv, AOp.sb, AOp.mut, ↓Bool.false_eq_true, beq_self_eq_true, ite_self, Nat.reduceLeDiff, Int.reduceEq, Int.reduceSub, Int.reduceAdd, Int.reduceNeg, Int.reduceLT, Int.reduceLE, Nat.reduceLT, bz_T2]
-- surd/zpoly.Content
def a14 : AC := .seq (.reg [⟨some 2, none, .al 33 [(.b false), (.l 1 [])]⟩])
  (.seq (.reg [⟨some 3, none, .mv (.t 0)⟩, 
      ⟨some 4, none, .call 29 [(2, (.t 3))]⟩, 
      ⟨some 5, none, .call 28 [(1, (.t 4))]⟩, 
      ⟨some 6, none, .bin .lss (.t 5) (.k (.i .i64 0))⟩, 
      ⟨some 7, none, .mv (.t 0)⟩, 
      ⟨some 8, none, .call 30 [(2, (.t 7))]⟩, 
      ⟨some 9, none, .call 27 [(1, (.t 6)), (1, (.t 8))]⟩, 
      ⟨none, none, .st 2 (.t 2) (.t 9)⟩])
  (.ret))
theorem zpcont_spec (l : List (Bool × List Nat)) (m : Nat) (hm : m ≤ 100000000) (ll : l.length ≤ 1000000) (hp : Zk l m) : AFun Try.prog J0 14 [.l 2 (ZC l)] (zN (cn (zcs l))) := by
  have h1 := zlead_spec l m hm ll hp
  have hb : (ldz (zcs l)).natAbs < B ^ m := by unfold ldz; rw [tzi_cf]; exact Zk_Cz hp _
  have h2 := zsignN hb (by omega)
  have h3 := zgcd_spec l m (by omega) (by omega) hp
  have h4 := znat_spec (decide (ldz (zcs l) < 0)) (dg B (gf l)) (Wd_dg _) (Nat.le_trans (dlen (gf_lt hp)) (by omega))
  rw [show zv (decide (ldz (zcs l) < 0)) (dg B (gf l)) = cn (zcs l) from by
    unfold zv zI cn
    rw [nv_dgB, gf_gN]
    by_cases h : ldz (zcs l) < 0
    · rw [decide_eq_true h, if_pos h]; rfl
    · rw [decide_eq_false h, if_neg h]; rfl] at h4
  have h5 : decide (sgz (ldz (zcs l)) < 0) = decide (ldz (zcs l) < 0) := by rw [decide_eq_decide]; exact Iff.of_eq (sgz_ng _)
  rw [← h5] at h4
  generalize sgz (ldz (zcs l)) = sg at *
  refine AFun.mkc fol J0s Try.func14 rfl (ac := a14) (by kernel_rfl) (rs := [.c 2 true 2]) (by kernel_rfl) rfl rfl ?_
  apply vm_start
  unfold a14
  simp only [init_eq, initE]
  have zc14 := h1
  have zc15 := h2
  have zc16 := h3
  have zc17 := h4
  repeat first | (refine hK _ ?_; clear hK K) | simp only [Sv, ↓reduceIte, Nat.reduceEqDiff] | ((first | refine vm_reg (fun K hK => ?_) | refine vm_dreg (fun K hK => ?_) | refine vm_dregx (fun K hK => ?_) | refine clp_q ?_ | refine clq_mk (by assumption) ?_ | refine mcq_q ?_ | (apply mcr_mk; assumption)); simp (disch := (first | omega | assumption)) only [S1, ↓reduceIte, Nat.reduceEqDiff, Nat.reduceAdd, Nat.reduceMul, Nat.reduceDiv, AOp.sb, AOp.mut, ↓Bool.false_eq_true, beq_self_eq_true, ite_self, Nat.reduceLeDiff, Int.reduceEq, Int.reduceSub, Int.reduceAdd, Int.reduceNeg, Int.reduceLT, Int.reduceLE, Nat.reduceLT, bz_T2])
  simp (disch := (first | omega | assumption)) only [retC, rsVs_nil, rsVs_cons, rsV_t, rsV_c, rsp_pt, rsq_t, rsq_f, ocons_ss, retV_1, retV_2, retNV_nil, retNV_cons, retOk, retN, ret1, retF, ret1F, V.okArg, and_true, true_and, S1, ↓reduceIte, Nat.reduceEqDiff, Nat.reduceAdd, Nat.reduceMul, Nat.reduceDiv, AOp.sb, AOp.mut, ↓Bool.false_eq_true, beq_self_eq_true, ite_self, Nat.reduceLeDiff, Int.reduceEq, Int.reduceSub, Int.reduceAdd, Int.reduceNeg, Int.reduceLT, Int.reduceLE, Nat.reduceLT, bz_T2]
-- surd/zpoly.Over
def a31 : AC := .seq (.reg [⟨some 3, none, .bx 33 (.t 1)⟩, 
      ⟨some 4, none, .mv (.k .nl)⟩, 
      ⟨some 5, none, .mv (.k (.i .i64 0))⟩])
  (.seq (.seq (.reg [⟨some 10, none, .ld true 2 (.t 3)⟩, 
        ⟨some 11, none, .call 28 [(1, (.t 10))]⟩, 
        ⟨some 12, none, .bin .eql (.t 11) (.k (.i .i64 0))⟩])
    (.cond (.t 12)
    (.seq (.reg [⟨some 4, none, .mv (.k .nl)⟩, 
          ⟨some 5, none, .mv (.k (.i .i64 1))⟩])
      (.ret))
    (.skip)))
  (.seq (.reg [⟨some 13, none, .mv (.t 0)⟩, 
      ⟨some 14, none, .len (.t 13)⟩, 
      ⟨some 15, none, .mk 33 2 32 [(.b false), (.l 1 [])] (.t 14) (.t 14)⟩, 
      ⟨some 6, none, .mv (.t 15)⟩])
  (.seq (.seq (.reg [⟨some 16, none, .mv (.t 6)⟩, 
        ⟨some 17, none, .len (.t 16)⟩, 
        ⟨some 18, none, .mv (.k (.i .i64 0))⟩])
    (.blk 0
    (.loop
      (.seq (.reg [⟨some 19, none, .bin .lss (.t 18) (.t 17)⟩])
        (.seq (.cond (.t 19)
          (.skip)
          (.exit 0))
        (.seq (.blk 1
          (.seq (.reg [⟨some 20, none, .mv (.t 18)⟩, 
                ⟨some 7, none, .mv (.t 20)⟩])
            (.seq (.dreg [⟨some 22, none, .mv (.t 0)⟩, 
                ⟨some 23, none, .mv (.t 7)⟩, 
                ⟨some 24, none, .idx 2 (.t 22) (.t 23)⟩, 
                ⟨some 25, none, .ld true 2 (.t 24)⟩, 
                ⟨some 26, none, .ld true 2 (.t 3)⟩, 
                ⟨some 27, none, .call 42 [(1, (.t 25)), (1, (.t 26))]⟩, 
                ⟨some 21, none, .mv (.t 27)⟩, 
                ⟨some 28, none, .ext (.t 21) 0⟩, 
                ⟨some 29, none, .ext (.t 21) 1⟩, 
                ⟨some 8, none, .al 33 [(.b false), (.l 1 [])]⟩, 
                ⟨none, none, .st 2 (.t 8) (.t 28)⟩, 
                ⟨some 9, none, .mv (.t 29)⟩])
            (.seq (.seq (.reg [⟨some 30, none, .mv (.t 9)⟩, 
                  ⟨some 31, none, .bin .neq (.t 30) (.k (.i .i64 0))⟩])
              (.cond (.t 31)
              (.seq (.reg [⟨some 32, none, .mv (.t 9)⟩, 
                    ⟨some 4, none, .mv (.k .nl)⟩, 
                    ⟨some 5, none, .mv (.t 32)⟩])
                (.ret))
              (.skip)))
            (.reg [⟨some 33, none, .mv (.t 6)⟩, 
              ⟨some 34, none, .mv (.t 7)⟩, 
              ⟨some 35, none, .ld true 2 (.t 8)⟩, 
              ⟨some 36, none, .idx 2 (.t 33) (.t 34)⟩, 
              ⟨none, none, .st 2 (.t 36) (.t 35)⟩])))))
        (.reg [⟨some 37, none, .bin .add (.t 18) (.k (.i .i64 1))⟩, 
          ⟨some 18, none, .mv (.t 37)⟩])))))))
  (.seq (.reg [⟨some 38, none, .mv (.t 6)⟩, 
      ⟨some 39, none, .call 10 [(2, (.t 38))]⟩, 
      ⟨some 4, none, .mv (.t 39)⟩, 
      ⟨some 5, none, .mv (.k (.i .i64 0))⟩])
  (.ret)))))
theorem zpover_spec (l : List (Bool × List Nat)) (s : Bool) (c : List Nat) (m : Nat) (hm : m ≤ 10000000) (ll : l.length ≤ 1000000) (hl : Zk l m) (wc : Wd c) (lc : c.length ≤ m) (h0 : zv s c ≠ 0) (hd : ∀ i, zv s c ∣ (zcs l).getD i 0) : AFun Try.prog J0 31 [.l 2 (ZC l), zL s c] (.t [.l 2 (ZC (nfl (tzi ((zcs l).map fun x => x.tdiv (zv s c))))), .i .i64 0]) := by
  have hsg := zsign_spec s c wc (by omega)
  have hsg0 : ¬ sgz (zv s c) = 0 := fun h => h0 ((sgz_z _).mp h)
  have ha := ZC_len l
  have hda : l.length * 2 / 2 = l.length := by omega
  have hn0 : (0 : Int) ≤ (l.length : Int) := by omega
  have lR : ((zcs l).map fun x => x.tdiv (zv s c)).length = l.length := by rw [List.length_map, zcs_len]
  have hge := fun i => getD_map0 (zcs l) (fun x => x.tdiv (zv s c)) (by simp) i
  have hno := zpnormN ((zcs l).map fun x => x.tdiv (zv s c)) m (by omega) (by omega) (fun i => by
    rw [hge, Int.natAbs_tdiv]
    exact Nat.lt_of_le_of_lt (Nat.div_le_self _ _) (Zk_Cz hl i))
  simp only [zcs_get] at hge hd
  generalize ((zcs l).map fun x => x.tdiv (zv s c)) = R at *
  generalize tzi R = res at *
  have hf0 := fll_0 R
  rw [lR] at hf0
  have hmk := mk_ZC l.length
  rw [← hf0] at hmk
  have hex : ∀ i, AFun Try.prog J0 42 [zL (l.getD i (false, [])).1 (l.getD i (false, [])).2, zL s c] (.t [zN (R.getD i 0), .i .i64 0]) := fun i => by
    obtain ⟨w1, l1⟩ := Zk_get hl i
    have h3 := zexact_spec (l.getD i (false, [])).1 s (l.getD i (false, [])).2 c w1 wc (by omega) (by omega)
    have hm0 : (zvp (l.getD i (false, []))).tmod (zv s c) = 0 := Int.tmod_eq_zero_of_dvd (hd i)
    unfold zvp at hm0
    rw [show zxQ (zv (l.getD i (false, [])).1 (l.getD i (false, [])).2) (zv s c) = R.getD i 0 from by unfold zxQ; rw [if_pos hm0, hge]; rfl, show zxE (zv (l.getD i (false, [])).1 (l.getD i (false, [])).2) (zv s c) = 0 from by unfold zxE; rw [if_neg h0, if_pos hm0]] at h3
    exact h3
  clear hd hge
  generalize sgz (zv s c) = sg at *
  refine AFun.mk fol J0s Try.func31 rfl (ac := a31) (by kernel_rfl) rfl rfl rfl ?_
  apply vm_start
  unfold a31
  simp only [init_eq, initE]
  have zc18 := hsg
  repeat first | (refine hK _ ?_; clear hK K) | simp only [Sv, ↓reduceIte, Nat.reduceEqDiff] | ((first | refine vm_reg (fun K hK => ?_) | refine vm_dreg (fun K hK => ?_) | refine vm_dregx (fun K hK => ?_) | refine clp_q ?_ | refine clq_mk (by assumption) ?_ | refine mcq_q ?_ | (apply mcr_mk; assumption)); simp (disch := (first | omega | assumption)) only [S1, ↓reduceIte, Nat.reduceEqDiff, Nat.reduceAdd, Nat.reduceMul, Nat.reduceDiv, AOp.sb, AOp.mut, ↓Bool.false_eq_true, beq_self_eq_true, ite_self, Nat.reduceLeDiff, Int.reduceEq, Int.reduceSub, Int.reduceAdd, Int.reduceNeg, Int.reduceLT, Int.reduceLE, Nat.reduceLT, bz_T2, hsg0, ha, hda, hn0, hmk])
  refine vm_loopA [] Nat (fun i => ⟨[(0, .l 2 (ZC l)), (3, .pt 0 0), (6, .ow 2 1 l.length), (17, .i .i64 (l.length : Int)), (18, .i .i64 (i : Int))],
      [(0, some ⟨33, 2, [.b s, .l 1 (W c)], true, true⟩), (1, some ⟨33, 2, ZC (nfl (fll R i)), true, false⟩)], 2⟩)
    (fun i => i ≤ l.length) (fun i => l.length - i) 0 (Nat.zero_le _) (by simp (disch := (first | omega | assumption)) only [Sl, Sa, Sw, ↓reduceIte, Nat.reduceEqDiff, Nat.reduceLT, List.all_nil, List.all_cons, Nat.reduceBneDiff, Nat.reduceAdd, bne_iff_ne, ne_eq, reduceCtorEq, not_false_eq_true, not_true_eq_false, Bool.and_true, Bool.true_and, and_true, true_and, and_self]) (by
    simp (disch := (first | omega | assumption)) only [Sl, Sa, Sw, ↓reduceIte, Nat.reduceEqDiff, Nat.reduceLT, List.all_nil, List.all_cons, Nat.reduceBneDiff, Nat.reduceAdd, bne_iff_ne, ne_eq, reduceCtorEq, not_false_eq_true, not_true_eq_false, Bool.and_true, Bool.true_and, and_true, true_and, and_self, i_eq]
    repeat' first | rfl | omega | (simp only [List.length_append, List.length_cons, List.length_nil]; done) | apply And.intro) ?_
  intro i hi Q' hQ he hr
  by_cases h : (i : Int) < (l.length : Int)
  · obtain ⟨r1, r2⟩ := ZC_row l i (by omega)
    have h3 := hex i
    have hz := ZN_len (fll R i)
    rw [fll_len _ _ (by omega), lR] at hz
    have hs := ZN_set (fll R i) i (R.getD i 0)
    rw [fll_set R i (by omega)] at hs
    clear hex
    generalize l.getD i (false, []) = x at *
    generalize R.getD i 0 = z at *
    have zc19 := h3
    repeat first | (refine hK _ ?_; clear hK K) | simp only [Sv, ↓reduceIte, Nat.reduceEqDiff] | ((first | refine vm_reg (fun K hK => ?_) | refine vm_dreg (fun K hK => ?_) | refine vm_dregx (fun K hK => ?_) | refine clp_q ?_ | refine clq_mk (by assumption) ?_ | refine mcq_q ?_ | (apply mcr_mk; assumption)); simp (disch := (first | omega | assumption)) only [S1, ↓reduceIte, Nat.reduceEqDiff, Nat.reduceAdd, Nat.reduceMul, Nat.reduceDiv, AOp.sb, AOp.mut, ↓Bool.false_eq_true, beq_self_eq_true, ite_self, Nat.reduceLeDiff, Int.reduceEq, Int.reduceSub, Int.reduceAdd, Int.reduceNeg, Int.reduceLT, Int.reduceLE, Nat.reduceLT, bz_T2, h, r1, hz, hs])
    refine hQ _ (i + 1) (by omega) (by omega) ?_
    simp (disch := (first | omega | assumption)) only [Sl, Sa, Sw, ↓reduceIte, Nat.reduceEqDiff, Nat.reduceLT, List.all_nil, List.all_cons, Nat.reduceBneDiff, Nat.reduceAdd, bne_iff_ne, ne_eq, reduceCtorEq, not_false_eq_true, not_true_eq_false, Bool.and_true, Bool.true_and, and_true, true_and, and_self, i_eq]
    repeat' first | rfl | omega | (simp only [List.length_append, List.length_cons, List.length_nil]; done) | apply And.intro
  · obtain rfl : i = l.length := by omega
    rw [show fll R l.length = R from by rw [← lR]; exact fll_all R]
    repeat first
      | (refine hK _ ?_; clear hK K)
      | ((first | refine vm_reg (fun K hK => ?_) | refine vm_dreg (fun K hK => ?_) | refine vm_dregx (fun K hK => ?_)); simp (disch := (first | omega | assumption)) only [S1, ↓reduceIte, Nat.reduceEqDiff, Nat.reduceAdd, Nat.reduceMul, Nat.reduceDiv, AOp.sb, AOp.mut, ↓Bool.false_eq_true, beq_self_eq_true, ite_self, Nat.reduceLeDiff, Int.reduceEq, Int.reduceSub, Int.reduceAdd, Int.reduceNeg, Int.reduceLT, Int.reduceLE, Nat.reduceLT, bz_T2, h]; refine hK _ ?_; clear hK K)
      | simp only [Sv, ↓reduceIte, Nat.reduceEqDiff]
    refine he _ _ ?_
    have zc20 := hno
    repeat first | (refine hK _ ?_; clear hK K) | simp only [Sv, ↓reduceIte, Nat.reduceEqDiff] | ((first | refine vm_reg (fun K hK => ?_) | refine vm_dreg (fun K hK => ?_) | refine vm_dregx (fun K hK => ?_) | refine clp_q ?_ | refine clq_mk (by assumption) ?_ | refine mcq_q ?_ | (apply mcr_mk; assumption)); simp (disch := (first | omega | assumption)) only [S1, ↓reduceIte, Nat.reduceEqDiff, Nat.reduceAdd, Nat.reduceMul, Nat.reduceDiv, AOp.sb, AOp.mut, ↓Bool.false_eq_true, beq_self_eq_true, ite_self, Nat.reduceLeDiff, Int.reduceEq, Int.reduceSub, Int.reduceAdd, Int.reduceNeg, Int.reduceLT, Int.reduceLE, Nat.reduceLT, bz_T2])
    simp (disch := (first | omega | assumption)) only [retOk, retN, ret1, retF, ret1F, V.okArg, and_true, true_and, S1, ↓reduceIte, Nat.reduceEqDiff, Nat.reduceAdd, Nat.reduceMul, Nat.reduceDiv, AOp.sb, AOp.mut, ↓Bool.false_eq_true, beq_self_eq_true, ite_self, Nat.reduceLeDiff, Int.reduceEq, Int.reduceSub, Int.reduceAdd, Int.reduceNeg, Int.reduceLT, Int.reduceLE, Nat.reduceLT, bz_T2]
theorem zpover_0 (l : List (Bool × List Nat)) (s : Bool) (c : List Nat) (wc : Wd c) (lc : c.length ≤ 10000000) (h0 : zv s c = 0) : AFun Try.prog J0 31 [.l 2 (ZC l), zL s c] (.t [.l 2 [], .i .i64 1]) := by
  have hsg := zsign_spec s c wc (by omega)
  rw [h0, show sgz 0 = 0 from rfl] at hsg
  refine AFun.mk fol J0s Try.func31 rfl (ac := a31) (by kernel_rfl) rfl rfl rfl ?_
  apply vm_start
  unfold a31
  simp only [init_eq, initE]
  have zc21 := hsg
  repeat first | (refine hK _ ?_; clear hK K) | simp only [Sv, ↓reduceIte, Nat.reduceEqDiff] | ((first | refine vm_reg (fun K hK => ?_) | refine vm_dreg (fun K hK => ?_) | refine vm_dregx (fun K hK => ?_) | refine clp_q ?_ | refine clq_mk (by assumption) ?_ | refine mcq_q ?_ | (apply mcr_mk; assumption)); simp (disch := (first | omega | assumption)) only [S1, ↓reduceIte, Nat.reduceEqDiff, Nat.reduceAdd, Nat.reduceMul, Nat.reduceDiv, AOp.sb, AOp.mut, ↓Bool.false_eq_true, beq_self_eq_true, ite_self, Nat.reduceLeDiff, Int.reduceEq, Int.reduceSub, Int.reduceAdd, Int.reduceNeg, Int.reduceLT, Int.reduceLE, Nat.reduceLT, bz_T2])
  simp (disch := (first | omega | assumption)) only [retOk, retN, ret1, retF, ret1F, V.okArg, and_true, true_and, S1, ↓reduceIte, Nat.reduceEqDiff, Nat.reduceAdd, Nat.reduceMul, Nat.reduceDiv, AOp.sb, AOp.mut, ↓Bool.false_eq_true, beq_self_eq_true, ite_self, Nat.reduceLeDiff, Int.reduceEq, Int.reduceSub, Int.reduceAdd, Int.reduceNeg, Int.reduceLT, Int.reduceLE, Nat.reduceLT, bz_T2]
-- surd/zpoly.Primitive
def a15 : AC := .seq (.reg [⟨some 2, none, .mv (.k .nl)⟩])
  (.seq (.reg [⟨some 6, none, .mv (.t 0)⟩, 
      ⟨some 7, none, .mv (.t 0)⟩, 
      ⟨some 8, none, .call 14 [(2, (.t 7))]⟩, 
      ⟨some 9, none, .call 31 [(2, (.t 6)), (1, (.t 8))]⟩, 
      ⟨some 5, none, .mv (.t 9)⟩, 
      ⟨some 10, none, .ext (.t 5) 0⟩, 
      ⟨some 11, none, .ext (.t 5) 1⟩, 
      ⟨some 3, none, .mv (.t 10)⟩, 
      ⟨some 4, none, .mv (.t 11)⟩])
  (.seq (.reg [⟨some 12, none, .mv (.t 3)⟩, 
      ⟨some 2, none, .mv (.t 12)⟩])
  (.ret)))
theorem zpprim_spec (l : List (Bool × List Nat)) (m : Nat) (hm : m ≤ 10000000) (ll : l.length ≤ 1000000) (hp : Zk l m) : AFun Try.prog J0 15 [.l 2 (ZC l)] (.l 2 (ZC (nfl (prm (zcs l))))) := by
  have h1 := zpcont_spec l m (by omega) ll hp
  have hcb : (cn (zcs l)).natAbs < B ^ m := by rw [cn_abs, ← gf_gN]; exact gf_lt hp
  by_cases h : cn (zcs l) = 0
  · have h2 := zpover_0 l (decide (cn (zcs l) < 0)) (dg B (cn (zcs l)).natAbs) (Wd_dg _) (Nat.le_trans (dlen hcb) hm) (by rw [zv_N, h])
    rw [show prm (zcs l) = [] from if_pos h, show ZC (nfl []) = [] from rfl]
    generalize cn (zcs l) = c at *
    refine AFun.mk fol J0s Try.func15 rfl (ac := a15) (by kernel_rfl) rfl rfl rfl ?_
    apply vm_start
    unfold a15
    simp only [init_eq, initE]
    have zc22 := h1
    have zc23 := h2
    repeat first | (refine hK _ ?_; clear hK K) | simp only [Sv, ↓reduceIte, Nat.reduceEqDiff] | ((first | refine vm_reg (fun K hK => ?_) | refine vm_dreg (fun K hK => ?_) | refine vm_dregx (fun K hK => ?_) | refine clp_q ?_ | refine clq_mk (by assumption) ?_ | refine mcq_q ?_ | (apply mcr_mk; assumption)); simp (disch := (first | omega | assumption)) only [S1, ↓reduceIte, Nat.reduceEqDiff, Nat.reduceAdd, Nat.reduceMul, Nat.reduceDiv, AOp.sb, AOp.mut, ↓Bool.false_eq_true, beq_self_eq_true, ite_self, Nat.reduceLeDiff, Int.reduceEq, Int.reduceSub, Int.reduceAdd, Int.reduceNeg, Int.reduceLT, Int.reduceLE, Nat.reduceLT, bz_T2])
    simp (disch := (first | omega | assumption)) only [retOk, retN, ret1, retF, ret1F, V.okArg, and_true, true_and, S1, ↓reduceIte, Nat.reduceEqDiff, Nat.reduceAdd, Nat.reduceMul, Nat.reduceDiv, AOp.sb, AOp.mut, ↓Bool.false_eq_true, beq_self_eq_true, ite_self, Nat.reduceLeDiff, Int.reduceEq, Int.reduceSub, Int.reduceAdd, Int.reduceNeg, Int.reduceLT, Int.reduceLE, Nat.reduceLT, bz_T2]
  · have h2 := zpover_spec l (decide (cn (zcs l) < 0)) (dg B (cn (zcs l)).natAbs) m hm ll hp (Wd_dg _) (dlen hcb) (by rw [zv_N]; exact h) (fun i => by rw [zv_N]; exact cn_dvd _ i)
    rw [zv_N, show tzi ((zcs l).map fun x => x.tdiv (cn (zcs l))) = prm (zcs l) from by unfold prm; rw [if_neg h]] at h2
    generalize cn (zcs l) = c at *
    generalize prm (zcs l) = r at *
    refine AFun.mk fol J0s Try.func15 rfl (ac := a15) (by kernel_rfl) rfl rfl rfl ?_
    apply vm_start
    unfold a15
    simp only [init_eq, initE]
    have zc24 := h1
    have zc25 := h2
    repeat first | (refine hK _ ?_; clear hK K) | simp only [Sv, ↓reduceIte, Nat.reduceEqDiff] | ((first | refine vm_reg (fun K hK => ?_) | refine vm_dreg (fun K hK => ?_) | refine vm_dregx (fun K hK => ?_) | refine clp_q ?_ | refine clq_mk (by assumption) ?_ | refine mcq_q ?_ | (apply mcr_mk; assumption)); simp (disch := (first | omega | assumption)) only [S1, ↓reduceIte, Nat.reduceEqDiff, Nat.reduceAdd, Nat.reduceMul, Nat.reduceDiv, AOp.sb, AOp.mut, ↓Bool.false_eq_true, beq_self_eq_true, ite_self, Nat.reduceLeDiff, Int.reduceEq, Int.reduceSub, Int.reduceAdd, Int.reduceNeg, Int.reduceLT, Int.reduceLE, Nat.reduceLT, bz_T2])
    simp (disch := (first | omega | assumption)) only [retOk, retN, ret1, retF, ret1F, V.okArg, and_true, true_and, S1, ↓reduceIte, Nat.reduceEqDiff, Nat.reduceAdd, Nat.reduceMul, Nat.reduceDiv, AOp.sb, AOp.mut, ↓Bool.false_eq_true, beq_self_eq_true, ite_self, Nat.reduceLeDiff, Int.reduceEq, Int.reduceSub, Int.reduceAdd, Int.reduceNeg, Int.reduceLT, Int.reduceLE, Nat.reduceLT, bz_T2]
/-! ### surdtop: what its laws share -/
-- surd/surdtop.sameNat
def a33 : AC := .seq (.reg [⟨some 4, none, .mv (.k (.b false))⟩])
  (.seq (.seq (.reg [⟨some 6, none, .mv (.t 0)⟩, 
        ⟨some 7, none, .len (.t 6)⟩, 
        ⟨some 8, none, .mv (.t 1)⟩, 
        ⟨some 9, none, .len (.t 8)⟩, 
        ⟨some 10, none, .bin .neq (.t 7) (.t 9)⟩])
    (.cond (.t 10)
    (.seq (.reg [⟨some 4, none, .mv (.k (.b false))⟩])
      (.ret))
    (.skip)))
  (.seq (.seq (.reg [⟨some 11, none, .mv (.t 0)⟩, 
        ⟨some 12, none, .len (.t 11)⟩, 
        ⟨some 13, none, .mv (.k (.i .i64 0))⟩])
    (.blk 0
    (.loop
      (.seq (.reg [⟨some 14, none, .bin .lss (.t 13) (.t 12)⟩])
        (.seq (.cond (.t 14)
          (.skip)
          (.exit 0))
        (.seq (.blk 1
          (.seq (.reg [⟨some 15, none, .mv (.t 13)⟩, 
                ⟨some 5, none, .mv (.t 15)⟩])
            (.seq (.dreg [⟨some 16, none, .mv (.t 0)⟩, 
                ⟨some 17, none, .mv (.t 5)⟩, 
                ⟨some 18, none, .idx 1 (.t 16) (.t 17)⟩, 
                ⟨some 19, none, .ld false 1 (.t 18)⟩, 
                ⟨some 20, none, .mv (.t 1)⟩, 
                ⟨some 21, none, .mv (.t 5)⟩, 
                ⟨some 22, none, .idx 1 (.t 20) (.t 21)⟩, 
                ⟨some 23, none, .ld false 1 (.t 22)⟩, 
                ⟨some 24, none, .bin .neq (.t 19) (.t 23)⟩])
            (.cond (.t 24)
            (.seq (.reg [⟨some 4, none, .mv (.k (.b false))⟩])
              (.ret))
            (.skip)))))
        (.reg [⟨some 25, none, .bin .add (.t 13) (.k (.i .i64 1))⟩, 
          ⟨some 13, none, .mv (.t 25)⟩])))))))
  (.seq (.reg [⟨some 4, none, .mv (.k (.b true))⟩])
  (.ret))))
theorem tsame_spec (a : List Nat) (la : a.length ≤ 1000000000) : AFun Try.prog J0 33 [.l 1 (W a), .l 1 (W a)] (.b true) := by
  refine AFun.mk fol J0s Try.func33 rfl (ac := a33) (by kernel_rfl) rfl rfl rfl ?_
  apply vm_start
  unfold a33
  simp only [init_eq, initE]
  repeat first
    | (refine hK _ ?_; clear hK K)
    | ((first | refine vm_reg (fun K hK => ?_) | refine vm_dreg (fun K hK => ?_) | refine vm_dregx (fun K hK => ?_)); simp (disch := (first | omega | assumption)) only [S1, ↓reduceIte, Nat.reduceEqDiff, Nat.reduceAdd, Nat.reduceMul, Nat.reduceDiv, AOp.sb, AOp.mut, ↓Bool.false_eq_true, beq_self_eq_true, ite_self, Nat.reduceLeDiff, Int.reduceEq, Int.reduceSub, Int.reduceAdd, Int.reduceNeg, Int.reduceLT, Int.reduceLE, Nat.reduceLT, bz_T2]; refine hK _ ?_; clear hK K)
    | simp only [Sv, ↓reduceIte, Nat.reduceEqDiff]
  refine vm_loopA [] Nat (fun i => ⟨[(0, .l 1 (W a)), (1, .l 1 (W a)), (12, .i .i64 (a.length : Int)), (13, .i .i64 (i : Int))], [], 0⟩) (fun i => i ≤ a.length) (fun i => a.length - i) 0 (Nat.zero_le _) (by simp (disch := (first | omega | assumption)) only [Sl, Sa, Sw, ↓reduceIte, Nat.reduceEqDiff, Nat.reduceLT, List.all_nil, List.all_cons, Nat.reduceBneDiff, Nat.reduceAdd, bne_iff_ne, ne_eq, reduceCtorEq, not_false_eq_true, not_true_eq_false, Bool.and_true, Bool.true_and, and_true, true_and, and_self]) (by
    simp (disch := (first | omega | assumption)) only [Sl, Sa, Sw, ↓reduceIte, Nat.reduceEqDiff, Nat.reduceLT, List.all_nil, List.all_cons, Nat.reduceBneDiff, Nat.reduceAdd, bne_iff_ne, ne_eq, reduceCtorEq, not_false_eq_true, not_true_eq_false, Bool.and_true, Bool.true_and, and_true, true_and, and_self, i_eq]
    repeat' first | rfl | omega | (simp only [List.length_append, List.length_cons, List.length_nil]; done) | apply And.intro) ?_
  intro i hi Q' hQ he hr
  by_cases h : (i : Int) < (a.length : Int)
  · repeat first
      | (refine hK _ ?_; clear hK K)
      | ((first | refine vm_reg (fun K hK => ?_) | refine vm_dreg (fun K hK => ?_) | refine vm_dregx (fun K hK => ?_)); simp (disch := (first | omega | assumption)) only [S1, ↓reduceIte, Nat.reduceEqDiff, Nat.reduceAdd, Nat.reduceMul, Nat.reduceDiv, AOp.sb, AOp.mut, ↓Bool.false_eq_true, beq_self_eq_true, ite_self, Nat.reduceLeDiff, Int.reduceEq, Int.reduceSub, Int.reduceAdd, Int.reduceNeg, Int.reduceLT, Int.reduceLE, Nat.reduceLT, bz_T2, h, W_get]; refine hK _ ?_; clear hK K)
      | simp only [Sv, ↓reduceIte, Nat.reduceEqDiff]
    refine hQ _ (i + 1) (by omega) (by omega) ?_
    simp (disch := (first | omega | assumption)) only [Sl, Sa, Sw, ↓reduceIte, Nat.reduceEqDiff, Nat.reduceLT, List.all_nil, List.all_cons, Nat.reduceBneDiff, Nat.reduceAdd, bne_iff_ne, ne_eq, reduceCtorEq, not_false_eq_true, not_true_eq_false, Bool.and_true, Bool.true_and, and_true, true_and, and_self, i_eq]
    repeat' first | rfl | omega | (simp only [List.length_append, List.length_cons, List.length_nil]; done) | apply And.intro
  · obtain rfl : i = a.length := by omega
    repeat first
      | (refine hK _ ?_; clear hK K)
      | ((first | refine vm_reg (fun K hK => ?_) | refine vm_dreg (fun K hK => ?_) | refine vm_dregx (fun K hK => ?_)); simp (disch := (first | omega | assumption)) only [S1, ↓reduceIte, Nat.reduceEqDiff, Nat.reduceAdd, Nat.reduceMul, Nat.reduceDiv, AOp.sb, AOp.mut, ↓Bool.false_eq_true, beq_self_eq_true, ite_self, Nat.reduceLeDiff, Int.reduceEq, Int.reduceSub, Int.reduceAdd, Int.reduceNeg, Int.reduceLT, Int.reduceLE, Nat.reduceLT, bz_T2, h]; refine hK _ ?_; clear hK K)
      | simp only [Sv, ↓reduceIte, Nat.reduceEqDiff]
    refine he _ _ ?_
    repeat first
      | (refine hK _ ?_; clear hK K)
      | ((first | refine vm_reg (fun K hK => ?_) | refine vm_dreg (fun K hK => ?_) | refine vm_dregx (fun K hK => ?_)); simp (disch := (first | omega | assumption)) only [S1, ↓reduceIte, Nat.reduceEqDiff, Nat.reduceAdd, Nat.reduceMul, Nat.reduceDiv, AOp.sb, AOp.mut, ↓Bool.false_eq_true, beq_self_eq_true, ite_self, Nat.reduceLeDiff, Int.reduceEq, Int.reduceSub, Int.reduceAdd, Int.reduceNeg, Int.reduceLT, Int.reduceLE, Nat.reduceLT, bz_T2]; refine hK _ ?_; clear hK K)
      | simp only [Sv, ↓reduceIte, Nat.reduceEqDiff]
    simp (disch := (first | omega | assumption)) only [retOk, retN, ret1, retF, ret1F, V.okArg, and_true, true_and, S1, ↓reduceIte, Nat.reduceEqDiff, Nat.reduceAdd, Nat.reduceMul, Nat.reduceDiv, AOp.sb, AOp.mut, ↓Bool.false_eq_true, beq_self_eq_true, ite_self, Nat.reduceLeDiff, Int.reduceEq, Int.reduceSub, Int.reduceAdd, Int.reduceNeg, Int.reduceLT, Int.reduceLE, Nat.reduceLT, bz_T2]
-- surd/surdtop.sameInt
def a18 : AC := .seq (.reg [⟨some 2, none, .bx 33 (.t 0)⟩, 
      ⟨some 3, none, .bx 33 (.t 1)⟩, 
      ⟨some 4, none, .mv (.k (.b false))⟩])
  (.seq (.reg [⟨some 5, none, .fad 0 (.t 2)⟩, 
      ⟨some 6, none, .ld false 1 (.t 5)⟩, 
      ⟨some 7, none, .fad 0 (.t 3)⟩, 
      ⟨some 8, none, .ld false 1 (.t 7)⟩, 
      ⟨some 9, none, .eqb false (.t 6) (.t 8)⟩, 
      ⟨some 10, none, .mv (.t 9)⟩, 
      ⟨some 11, some (10, true), .fad 1 (.t 2)⟩, 
      ⟨some 12, some (10, true), .ld false 1 (.t 11)⟩, 
      ⟨some 13, some (10, true), .fad 1 (.t 3)⟩, 
      ⟨some 14, some (10, true), .ld false 1 (.t 13)⟩, 
      ⟨some 15, some (10, true), .call 33 [(1, (.t 12)), (1, (.t 14))]⟩, 
      ⟨some 16, none, .pick (.t 10) (.t 15) (.k (.b false))⟩, 
      ⟨some 4, none, .mv (.t 16)⟩])
  (.ret))
theorem tsameI_spec (s : Bool) (a : List Nat) (la : a.length ≤ 1000000000) : AFun Try.prog J0 18 [zL s a, zL s a] (.b true) := by
  have h := tsame_spec a la
  have hs : (s == s) = true := by cases s <;> rfl
  refine AFun.mk fol J0s Try.func18 rfl (ac := a18) (by kernel_rfl) rfl rfl rfl ?_
  apply vm_start
  unfold a18
  simp only [init_eq, initE]
  have zc26 := h
  repeat first | (refine hK _ ?_; clear hK K) | simp only [Sv, ↓reduceIte, Nat.reduceEqDiff] | ((first | refine vm_reg (fun K hK => ?_) | refine vm_dreg (fun K hK => ?_) | refine vm_dregx (fun K hK => ?_) | refine clp_q ?_ | refine clq_mk (by assumption) ?_ | refine mcq_q ?_ | (apply mcr_mk; assumption)); simp (disch := (first | omega | assumption)) only [S1, ↓reduceIte, Nat.reduceEqDiff, Nat.reduceAdd, Nat.reduceMul, Nat.reduceDiv, AOp.sb, AOp.mut, ↓Bool.false_eq_true, beq_self_eq_true, ite_self, Nat.reduceLeDiff, Int.reduceEq, Int.reduceSub, Int.reduceAdd, Int.reduceNeg, Int.reduceLT, Int.reduceLE, Nat.reduceLT, bz_T2, hs])
  simp (disch := (first | omega | assumption)) only [retOk, retN, ret1, retF, ret1F, V.okArg, and_true, true_and, S1, ↓reduceIte, Nat.reduceEqDiff, Nat.reduceAdd, Nat.reduceMul, Nat.reduceDiv, AOp.sb, AOp.mut, ↓Bool.false_eq_true, beq_self_eq_true, ite_self, Nat.reduceLeDiff, Int.reduceEq, Int.reduceSub, Int.reduceAdd, Int.reduceNeg, Int.reduceLT, Int.reduceLE, Nat.reduceLT, bz_T2, hs]
-- surd/surdtop.sameZ
def a4 : AC := .seq (.reg [⟨some 4, none, .mv (.k (.b false))⟩])
  (.seq (.seq (.reg [⟨some 6, none, .mv (.t 0)⟩, 
        ⟨some 7, none, .len (.t 6)⟩, 
        ⟨some 8, none, .mv (.t 1)⟩, 
        ⟨some 9, none, .len (.t 8)⟩, 
        ⟨some 10, none, .bin .neq (.t 7) (.t 9)⟩])
    (.cond (.t 10)
    (.seq (.reg [⟨some 4, none, .mv (.k (.b false))⟩])
      (.ret))
    (.skip)))
  (.seq (.seq (.reg [⟨some 11, none, .mv (.t 0)⟩, 
        ⟨some 12, none, .len (.t 11)⟩, 
        ⟨some 13, none, .mv (.k (.i .i64 0))⟩])
    (.blk 0
    (.loop
      (.seq (.reg [⟨some 14, none, .bin .lss (.t 13) (.t 12)⟩])
        (.seq (.cond (.t 14)
          (.skip)
          (.exit 0))
        (.seq (.blk 1
          (.seq (.reg [⟨some 15, none, .mv (.t 13)⟩, 
                ⟨some 5, none, .mv (.t 15)⟩])
            (.seq (.dreg [⟨some 16, none, .mv (.t 0)⟩, 
                ⟨some 17, none, .mv (.t 5)⟩, 
                ⟨some 18, none, .idx 2 (.t 16) (.t 17)⟩, 
                ⟨some 19, none, .ld true 2 (.t 18)⟩, 
                ⟨some 20, none, .mv (.t 1)⟩, 
                ⟨some 21, none, .mv (.t 5)⟩, 
                ⟨some 22, none, .idx 2 (.t 20) (.t 21)⟩, 
                ⟨some 23, none, .ld true 2 (.t 22)⟩, 
                ⟨some 24, none, .call 18 [(1, (.t 19)), (1, (.t 23))]⟩, 
                ⟨some 25, none, .un .not (.t 24)⟩])
            (.cond (.t 25)
            (.seq (.reg [⟨some 4, none, .mv (.k (.b false))⟩])
              (.ret))
            (.skip)))))
        (.reg [⟨some 26, none, .bin .add (.t 13) (.k (.i .i64 1))⟩, 
          ⟨some 13, none, .mv (.t 26)⟩])))))))
  (.seq (.reg [⟨some 4, none, .mv (.k (.b true))⟩])
  (.ret))))
theorem tsameZ_spec (l : List (Bool × List Nat)) (m : Nat) (hm : m ≤ 1000000000) (ll : l.length ≤ 1000000000) (hp : Zk l m) : AFun Try.prog J0 4 [.l 2 (ZC l), .l 2 (ZC l)] (.b true) := by
  have hz := ZC_len l
  have hd : l.length * 2 / 2 = l.length := by omega
  refine AFun.mk fol J0s Try.func4 rfl (ac := a4) (by kernel_rfl) rfl rfl rfl ?_
  apply vm_start
  unfold a4
  simp only [init_eq, initE]
  repeat first
    | (refine hK _ ?_; clear hK K)
    | ((first | refine vm_reg (fun K hK => ?_) | refine vm_dreg (fun K hK => ?_) | refine vm_dregx (fun K hK => ?_)); simp (disch := (first | omega | assumption)) only [S1, ↓reduceIte, Nat.reduceEqDiff, Nat.reduceAdd, Nat.reduceMul, Nat.reduceDiv, AOp.sb, AOp.mut, ↓Bool.false_eq_true, beq_self_eq_true, ite_self, Nat.reduceLeDiff, Int.reduceEq, Int.reduceSub, Int.reduceAdd, Int.reduceNeg, Int.reduceLT, Int.reduceLE, Nat.reduceLT, bz_T2, hz, hd]; refine hK _ ?_; clear hK K)
    | simp only [Sv, ↓reduceIte, Nat.reduceEqDiff]
  refine vm_loopA [] Nat (fun i => ⟨[(0, .l 2 (ZC l)), (1, .l 2 (ZC l)), (12, .i .i64 (l.length : Int)), (13, .i .i64 (i : Int))], [], 0⟩) (fun i => i ≤ l.length) (fun i => l.length - i) 0 (Nat.zero_le _) (by simp (disch := (first | omega | assumption)) only [Sl, Sa, Sw, ↓reduceIte, Nat.reduceEqDiff, Nat.reduceLT, List.all_nil, List.all_cons, Nat.reduceBneDiff, Nat.reduceAdd, bne_iff_ne, ne_eq, reduceCtorEq, not_false_eq_true, not_true_eq_false, Bool.and_true, Bool.true_and, and_true, true_and, and_self]) (by
    simp (disch := (first | omega | assumption)) only [Sl, Sa, Sw, ↓reduceIte, Nat.reduceEqDiff, Nat.reduceLT, List.all_nil, List.all_cons, Nat.reduceBneDiff, Nat.reduceAdd, bne_iff_ne, ne_eq, reduceCtorEq, not_false_eq_true, not_true_eq_false, Bool.and_true, Bool.true_and, and_true, true_and, and_self, i_eq]
    repeat' first | rfl | omega | (simp only [List.length_append, List.length_cons, List.length_nil]; done) | apply And.intro) ?_
  intro i hi Q' hQ he hr
  by_cases h : (i : Int) < (l.length : Int)
  · obtain ⟨r1, r2⟩ := ZC_row l i (by omega)
    obtain ⟨w1, l1⟩ := Zk_get hp i
    have h1 := tsameI_spec (l.getD i (false, [])).1 (l.getD i (false, [])).2 (by omega)
    generalize l.getD i (false, []) = x at *
    have zc27 := h1
    repeat first | (refine hK _ ?_; clear hK K) | simp only [Sv, ↓reduceIte, Nat.reduceEqDiff] | ((first | refine vm_reg (fun K hK => ?_) | refine vm_dreg (fun K hK => ?_) | refine vm_dregx (fun K hK => ?_) | refine clp_q ?_ | refine clq_mk (by assumption) ?_ | refine mcq_q ?_ | (apply mcr_mk; assumption)); simp (disch := (first | omega | assumption)) only [S1, ↓reduceIte, Nat.reduceEqDiff, Nat.reduceAdd, Nat.reduceMul, Nat.reduceDiv, AOp.sb, AOp.mut, ↓Bool.false_eq_true, beq_self_eq_true, ite_self, Nat.reduceLeDiff, Int.reduceEq, Int.reduceSub, Int.reduceAdd, Int.reduceNeg, Int.reduceLT, Int.reduceLE, Nat.reduceLT, bz_T2, h, hz, r1])
    refine hQ _ (i + 1) (by omega) (by omega) ?_
    simp (disch := (first | omega | assumption)) only [Sl, Sa, Sw, ↓reduceIte, Nat.reduceEqDiff, Nat.reduceLT, List.all_nil, List.all_cons, Nat.reduceBneDiff, Nat.reduceAdd, bne_iff_ne, ne_eq, reduceCtorEq, not_false_eq_true, not_true_eq_false, Bool.and_true, Bool.true_and, and_true, true_and, and_self, i_eq]
    repeat' first | rfl | omega | (simp only [List.length_append, List.length_cons, List.length_nil]; done) | apply And.intro
  · obtain rfl : i = l.length := by omega
    repeat first
      | (refine hK _ ?_; clear hK K)
      | ((first | refine vm_reg (fun K hK => ?_) | refine vm_dreg (fun K hK => ?_) | refine vm_dregx (fun K hK => ?_)); simp (disch := (first | omega | assumption)) only [S1, ↓reduceIte, Nat.reduceEqDiff, Nat.reduceAdd, Nat.reduceMul, Nat.reduceDiv, AOp.sb, AOp.mut, ↓Bool.false_eq_true, beq_self_eq_true, ite_self, Nat.reduceLeDiff, Int.reduceEq, Int.reduceSub, Int.reduceAdd, Int.reduceNeg, Int.reduceLT, Int.reduceLE, Nat.reduceLT, bz_T2, h]; refine hK _ ?_; clear hK K)
      | simp only [Sv, ↓reduceIte, Nat.reduceEqDiff]
    refine he _ _ ?_
    repeat first
      | (refine hK _ ?_; clear hK K)
      | ((first | refine vm_reg (fun K hK => ?_) | refine vm_dreg (fun K hK => ?_) | refine vm_dregx (fun K hK => ?_)); simp (disch := (first | omega | assumption)) only [S1, ↓reduceIte, Nat.reduceEqDiff, Nat.reduceAdd, Nat.reduceMul, Nat.reduceDiv, AOp.sb, AOp.mut, ↓Bool.false_eq_true, beq_self_eq_true, ite_self, Nat.reduceLeDiff, Int.reduceEq, Int.reduceSub, Int.reduceAdd, Int.reduceNeg, Int.reduceLT, Int.reduceLE, Nat.reduceLT, bz_T2]; refine hK _ ?_; clear hK K)
      | simp only [Sv, ↓reduceIte, Nat.reduceEqDiff]
    simp (disch := (first | omega | assumption)) only [retOk, retN, ret1, retF, ret1F, V.okArg, and_true, true_and, S1, ↓reduceIte, Nat.reduceEqDiff, Nat.reduceAdd, Nat.reduceMul, Nat.reduceDiv, AOp.sb, AOp.mut, ↓Bool.false_eq_true, beq_self_eq_true, ite_self, Nat.reduceLeDiff, Int.reduceEq, Int.reduceSub, Int.reduceAdd, Int.reduceNeg, Int.reduceLT, Int.reduceLE, Nat.reduceLT, bz_T2]
-- surd/surdtop.copyNat
def a32 : AC := .seq (.reg [⟨some 2, none, .mv (.k .nl)⟩])
  (.seq (.reg [⟨some 3, none, .bsl 43 1 0 [] []⟩, 
      ⟨some 4, none, .mv (.t 0)⟩, 
      ⟨some 5, none, .app 43 1 8 (.t 3) (.t 4)⟩, 
      ⟨some 2, none, .mv (.t 5)⟩])
  (.ret))
theorem tcopyN_spec (a : List Nat) (la : a.length ≤ 1000000000) : AFun Try.prog J0 32 [.l 1 (W a)] (.o 43 1 (W a)) := by
  refine AFun.mk fol J0s Try.func32 rfl (ac := a32) (by kernel_rfl) rfl rfl rfl ?_
  apply vm_start
  unfold a32
  simp only [init_eq, initE]
  repeat first
    | (refine hK _ ?_; clear hK K)
    | ((first | refine vm_reg (fun K hK => ?_) | refine vm_dreg (fun K hK => ?_) | refine vm_dregx (fun K hK => ?_)); simp (disch := (first | omega | assumption)) only [S1, ↓reduceIte, Nat.reduceEqDiff, Nat.reduceAdd, Nat.reduceMul, Nat.reduceDiv, AOp.sb, AOp.mut, ↓Bool.false_eq_true, beq_self_eq_true, ite_self, Nat.reduceLeDiff, Int.reduceEq, Int.reduceSub, Int.reduceAdd, Int.reduceNeg, Int.reduceLT, Int.reduceLE, Nat.reduceLT, bz_T2, List.nil_append]; refine hK _ ?_; clear hK K)
    | simp only [Sv, ↓reduceIte, Nat.reduceEqDiff]
  simp (disch := (first | omega | assumption)) only [retOk, retN, ret1, retF, ret1F, V.okArg, and_true, true_and, S1, ↓reduceIte, Nat.reduceEqDiff, Nat.reduceAdd, Nat.reduceMul, Nat.reduceDiv, AOp.sb, AOp.mut, ↓Bool.false_eq_true, beq_self_eq_true, ite_self, Nat.reduceLeDiff, Int.reduceEq, Int.reduceSub, Int.reduceAdd, Int.reduceNeg, Int.reduceLT, Int.reduceLE, Nat.reduceLT, bz_T2, List.nil_append]
-- surd/surdtop.copyInt
def a17 : AC := .seq (.reg [⟨some 1, none, .bx 33 (.t 0)⟩, 
      ⟨some 2, none, .al 33 [(.b false), (.l 1 [])]⟩])
  (.seq (.dreg [⟨some 3, none, .fad 0 (.t 1)⟩, 
      ⟨some 4, none, .ld false 1 (.t 3)⟩, 
      ⟨some 5, none, .fad 1 (.t 1)⟩, 
      ⟨some 6, none, .ld false 1 (.t 5)⟩, 
      ⟨some 7, none, .call 32 [(1, (.t 6))]⟩, 
      ⟨some 8, none, .bld [(.b false), (.l 1 [])] [(0, 1, (.t 4)), (1, 1, (.t 7))]⟩, 
      ⟨none, none, .st 2 (.t 2) (.t 8)⟩])
  (.ret))
theorem tcopyI_spec (s : Bool) (a : List Nat) (la : a.length ≤ 1000000000) : AFun Try.prog J0 17 [zL s a] (zL s a) := by
  have h := (tcopyN_spec a la).frozen
  refine AFun.mkc fol J0s Try.func17 rfl (ac := a17) (by kernel_rfl) (rs := [.c 2 true 2]) (by kernel_rfl) rfl rfl ?_
  apply vm_start
  unfold a17
  simp only [init_eq, initE]
  have zc28 := h
  repeat first | (refine hK _ ?_; clear hK K) | simp only [Sv, ↓reduceIte, Nat.reduceEqDiff] | ((first | refine vm_reg (fun K hK => ?_) | refine vm_dreg (fun K hK => ?_) | refine vm_dregx (fun K hK => ?_) | refine clp_q ?_ | refine clq_mk (by assumption) ?_ | refine mcq_q ?_ | (apply mcr_mk; assumption)); simp (disch := (first | omega | assumption)) only [S1, ↓reduceIte, Nat.reduceEqDiff, Nat.reduceAdd, Nat.reduceMul, Nat.reduceDiv, AOp.sb, AOp.mut, ↓Bool.false_eq_true, beq_self_eq_true, ite_self, Nat.reduceLeDiff, Int.reduceEq, Int.reduceSub, Int.reduceAdd, Int.reduceNeg, Int.reduceLT, Int.reduceLE, Nat.reduceLT, bz_T2])
  simp (disch := (first | omega | assumption)) only [retC, rsVs_nil, rsVs_cons, rsV_t, rsV_c, rsp_pt, rsq_t, rsq_f, ocons_ss, retV_1, retV_2, retNV_nil, retNV_cons, retOk, retN, ret1, retF, ret1F, V.okArg, and_true, true_and, S1, ↓reduceIte, Nat.reduceEqDiff, Nat.reduceAdd, Nat.reduceMul, Nat.reduceDiv, AOp.sb, AOp.mut, ↓Bool.false_eq_true, beq_self_eq_true, ite_self, Nat.reduceLeDiff, Int.reduceEq, Int.reduceSub, Int.reduceAdd, Int.reduceNeg, Int.reduceLT, Int.reduceLE, Nat.reduceLT, bz_T2]
-- surd/surdtop.copyZ
def a7 : AC := .seq (.reg [⟨some 2, none, .mv (.k .nl)⟩])
  (.seq (.reg [⟨some 6, none, .bsl 33 2 0 [] []⟩, 
      ⟨some 3, none, .mv (.t 6)⟩])
  (.seq (.seq (.reg [⟨some 7, none, .mv (.t 0)⟩, 
        ⟨some 8, none, .len (.t 7)⟩, 
        ⟨some 9, none, .mv (.k (.i .i64 0))⟩])
    (.blk 0
    (.loop
      (.seq (.reg [⟨some 10, none, .bin .lss (.t 9) (.t 8)⟩])
        (.seq (.cond (.t 10)
          (.skip)
          (.exit 0))
        (.seq (.blk 1
          (.seq (.reg [⟨some 11, none, .idx 2 (.t 7) (.t 9)⟩, 
                ⟨some 12, none, .ld true 2 (.t 11)⟩, 
                ⟨some 5, none, .al 33 [(.b false), (.l 1 [])]⟩, 
                ⟨none, none, .st 2 (.t 5) (.t 12)⟩])
            (.reg [⟨some 13, none, .mv (.t 3)⟩, 
              ⟨some 14, none, .ld true 2 (.t 5)⟩, 
              ⟨some 15, none, .call 17 [(1, (.t 14))]⟩, 
              ⟨some 16, none, .bsl 33 2 1 [(.b false), (.l 1 [])] [(0, (.t 15))]⟩, 
              ⟨some 17, none, .app 33 2 32 (.t 13) (.t 16)⟩, 
              ⟨some 3, none, .mv (.t 17)⟩])))
        (.reg [⟨some 18, none, .bin .add (.t 9) (.k (.i .i64 1))⟩, 
          ⟨some 9, none, .mv (.t 18)⟩])))))))
  (.seq (.reg [⟨some 19, none, .mv (.t 3)⟩, 
      ⟨some 2, none, .mv (.t 19)⟩])
  (.ret))))
theorem tcopyZ_spec (l : List (Bool × List Nat)) (m : Nat) (hm : m ≤ 1000000000) (ll : l.length ≤ 1000000) (hp : Zk l m) : AFun Try.prog J0 7 [.l 2 (ZC l)] (.o 33 2 (ZC l)) := by
  have hz := ZC_len l
  have hd : l.length * 2 / 2 = l.length := by omega
  refine AFun.mk fol J0s Try.func7 rfl (ac := a7) (by kernel_rfl) rfl rfl rfl ?_
  apply vm_start
  unfold a7
  simp only [init_eq, initE]
  repeat first
    | (refine hK _ ?_; clear hK K)
    | ((first | refine vm_reg (fun K hK => ?_) | refine vm_dreg (fun K hK => ?_) | refine vm_dregx (fun K hK => ?_)); simp (disch := (first | omega | assumption)) only [S1, ↓reduceIte, Nat.reduceEqDiff, Nat.reduceAdd, Nat.reduceMul, Nat.reduceDiv, AOp.sb, AOp.mut, ↓Bool.false_eq_true, beq_self_eq_true, ite_self, Nat.reduceLeDiff, Int.reduceEq, Int.reduceSub, Int.reduceAdd, Int.reduceNeg, Int.reduceLT, Int.reduceLE, Nat.reduceLT, bz_T2, hz, hd]; refine hK _ ?_; clear hK K)
    | simp only [Sv, ↓reduceIte, Nat.reduceEqDiff]
  refine vm_loopA [] Nat (fun i => ⟨[(3, .ow 2 0 i), (7, .l 2 (ZC l)), (8, .i .i64 (l.length : Int)), (9, .i .i64 (i : Int))], [(0, some ⟨33, 2, ZC (l.take i), true, false⟩)], 1⟩)
    (fun i => i ≤ l.length) (fun i => l.length - i) 0 (Nat.zero_le _) (by simp (disch := (first | omega | assumption)) only [Sl, Sa, Sw, ↓reduceIte, Nat.reduceEqDiff, Nat.reduceLT, List.all_nil, List.all_cons, Nat.reduceBneDiff, Nat.reduceAdd, bne_iff_ne, ne_eq, reduceCtorEq, not_false_eq_true, not_true_eq_false, Bool.and_true, Bool.true_and, and_true, true_and, and_self]) (by
    simp (disch := (first | omega | assumption)) only [Sl, Sa, Sw, ↓reduceIte, Nat.reduceEqDiff, Nat.reduceLT, List.all_nil, List.all_cons, Nat.reduceBneDiff, Nat.reduceAdd, bne_iff_ne, ne_eq, reduceCtorEq, not_false_eq_true, not_true_eq_false, Bool.and_true, Bool.true_and, and_true, true_and, and_self, i_eq]
    repeat' first | rfl | omega | (simp only [List.length_append, List.length_cons, List.length_nil]; done) | apply And.intro) ?_
  intro i hi Q' hQ he hr
  by_cases h : (i : Int) < (l.length : Int)
  · obtain ⟨r1, r2⟩ := ZC_row l i (by omega)
    obtain ⟨w1, l1⟩ := Zk_get hp i
    have h1 := tcopyI_spec (l.getD i (false, [])).1 (l.getD i (false, [])).2 (by omega)
    have hap : ZC (l.take i) ++ [.b (l.getD i (false, [])).1, .l 1 (W (l.getD i (false, [])).2)] = ZC (l.take (i + 1)) := by
      rw [List.take_succ_eq_append_getElem (by omega), ZC_app, List.getD_eq_getElem?_getD, List.getElem?_eq_getElem (by omega)]; rfl
    have l0 := ZC_len (l.take i)
    have l2 := ZC_len (l.take (i + 1))
    rw [List.length_take] at l0 l2
    generalize l.getD i (false, []) = x at *
    have zc29 := h1
    repeat first | (refine hK _ ?_; clear hK K) | simp only [Sv, ↓reduceIte, Nat.reduceEqDiff] | ((first | refine vm_reg (fun K hK => ?_) | refine vm_dreg (fun K hK => ?_) | refine vm_dregx (fun K hK => ?_) | refine clp_q ?_ | refine clq_mk (by assumption) ?_ | refine mcq_q ?_ | (apply mcr_mk; assumption)); simp (disch := (first | omega | assumption)) only [S1, ↓reduceIte, Nat.reduceEqDiff, Nat.reduceAdd, Nat.reduceMul, Nat.reduceDiv, AOp.sb, AOp.mut, ↓Bool.false_eq_true, beq_self_eq_true, ite_self, Nat.reduceLeDiff, Int.reduceEq, Int.reduceSub, Int.reduceAdd, Int.reduceNeg, Int.reduceLT, Int.reduceLE, Nat.reduceLT, bz_T2, h, hz, r1, hap])
    refine hQ _ (i + 1) (by omega) (by omega) ?_
    simp (disch := (first | omega | assumption)) only [Sl, Sa, Sw, ↓reduceIte, Nat.reduceEqDiff, Nat.reduceLT, List.all_nil, List.all_cons, Nat.reduceBneDiff, Nat.reduceAdd, bne_iff_ne, ne_eq, reduceCtorEq, not_false_eq_true, not_true_eq_false, Bool.and_true, Bool.true_and, and_true, true_and, and_self, i_eq]
    repeat' first | rfl | omega | (simp only [List.length_append, List.length_cons, List.length_nil]; done) | apply And.intro
  · obtain rfl : i = l.length := by omega
    rw [List.take_length]
    repeat first
      | (refine hK _ ?_; clear hK K)
      | ((first | refine vm_reg (fun K hK => ?_) | refine vm_dreg (fun K hK => ?_) | refine vm_dregx (fun K hK => ?_)); simp (disch := (first | omega | assumption)) only [S1, ↓reduceIte, Nat.reduceEqDiff, Nat.reduceAdd, Nat.reduceMul, Nat.reduceDiv, AOp.sb, AOp.mut, ↓Bool.false_eq_true, beq_self_eq_true, ite_self, Nat.reduceLeDiff, Int.reduceEq, Int.reduceSub, Int.reduceAdd, Int.reduceNeg, Int.reduceLT, Int.reduceLE, Nat.reduceLT, bz_T2, h]; refine hK _ ?_; clear hK K)
      | simp only [Sv, ↓reduceIte, Nat.reduceEqDiff]
    refine he _ _ ?_
    repeat first
      | (refine hK _ ?_; clear hK K)
      | ((first | refine vm_reg (fun K hK => ?_) | refine vm_dreg (fun K hK => ?_) | refine vm_dregx (fun K hK => ?_)); simp (disch := (first | omega | assumption)) only [S1, ↓reduceIte, Nat.reduceEqDiff, Nat.reduceAdd, Nat.reduceMul, Nat.reduceDiv, AOp.sb, AOp.mut, ↓Bool.false_eq_true, beq_self_eq_true, ite_self, Nat.reduceLeDiff, Int.reduceEq, Int.reduceSub, Int.reduceAdd, Int.reduceNeg, Int.reduceLT, Int.reduceLE, Nat.reduceLT, bz_T2]; refine hK _ ?_; clear hK K)
      | simp only [Sv, ↓reduceIte, Nat.reduceEqDiff]
    simp (disch := (first | omega | assumption)) only [retOk, retN, ret1, retF, ret1F, V.okArg, and_true, true_and, S1, ↓reduceIte, Nat.reduceEqDiff, Nat.reduceAdd, Nat.reduceMul, Nat.reduceDiv, AOp.sb, AOp.mut, ↓Bool.false_eq_true, beq_self_eq_true, ite_self, Nat.reduceLeDiff, Int.reduceEq, Int.reduceSub, Int.reduceAdd, Int.reduceNeg, Int.reduceLT, Int.reduceLE, Nat.reduceLT, bz_T2]
-- surd/surdtop.whole
def a21 : AC := .seq (.reg [⟨some 2, none, .al 33 [(.b false), (.l 1 [])]⟩])
  (.seq (.seq (.reg [⟨some 3, none, .mv (.t 0)⟩, 
        ⟨some 4, none, .bin .eql (.t 3) (.k (.i .i64 0))⟩])
    (.cond (.t 4)
    (.seq (.reg [⟨some 5, none, .bld [(.b false), (.l 1 [])] []⟩, 
          ⟨none, none, .st 2 (.t 2) (.t 5)⟩])
      (.ret))
    (.skip)))
  (.seq (.seq (.reg [⟨some 6, none, .mv (.t 0)⟩, 
        ⟨some 7, none, .bin .lss (.t 6) (.k (.i .i64 0))⟩])
    (.cond (.t 7)
    (.seq (.reg [⟨some 8, none, .mv (.t 0)⟩, 
          ⟨some 9, none, .un .neg (.t 8)⟩, 
          ⟨some 10, none, .cvt .u64 (.t 9)⟩, 
          ⟨some 11, none, .bsl 43 1 1 [(.i .u64 0)] [(0, (.t 10))]⟩, 
          ⟨some 12, none, .bld [(.b false), (.l 1 [])] [(0, 1, (.k (.b true))), (1, 1, (.t 11))]⟩, 
          ⟨none, none, .st 2 (.t 2) (.t 12)⟩])
      (.ret))
    (.skip)))
  (.seq (.reg [⟨some 13, none, .mv (.t 0)⟩, 
      ⟨some 14, none, .cvt .u64 (.t 13)⟩, 
      ⟨some 15, none, .bsl 43 1 1 [(.i .u64 0)] [(0, (.t 14))]⟩, 
      ⟨some 16, none, .bld [(.b false), (.l 1 [])] [(1, 1, (.t 15))]⟩, 
      ⟨none, none, .st 2 (.t 2) (.t 16)⟩])
  (.ret))))
theorem twhole_spec (n : Int) (h : n = -1 ∨ n = 0 ∨ n = 1) : AFun Try.prog J0 21 [.i .i64 n] (zN n) := by
  have e0 : zN 0 = .g [.b false, .l 1 []] := zN_00
  have e1 : zN 1 = .g [.b false, .l 1 [.i .u64 1]] := by show V.g [.b (decide ((1 : Int) < 0)), .l 1 (W (dg B 1))] = _; rw [show dg B 1 = [1] from by decide +kernel]; rfl
  have e2 : zN (-1) = .g [.b true, .l 1 [.i .u64 1]] := by show V.g [.b (decide ((-1 : Int) < 0)), .l 1 (W (dg B 1))] = _; rw [show dg B 1 = [1] from by decide +kernel]; rfl
  rcases h with rfl | rfl | rfl
  · rw [e2]
    refine AFun.mkc fol J0s Try.func21 rfl (ac := a21) (by kernel_rfl) (rs := [.c 2 true 2]) (by kernel_rfl) rfl rfl ?_
    apply vm_start
    unfold a21
    simp only [init_eq, initE]
    repeat first
      | (refine hK _ ?_; clear hK K)
      | ((first | refine vm_reg (fun K hK => ?_) | refine vm_dreg (fun K hK => ?_) | refine vm_dregx (fun K hK => ?_)); simp (disch := (first | omega | assumption)) only [S1, ↓reduceIte, Nat.reduceEqDiff, Nat.reduceAdd, Nat.reduceMul, Nat.reduceDiv, AOp.sb, AOp.mut, ↓Bool.false_eq_true, beq_self_eq_true, ite_self, Nat.reduceLeDiff, Int.reduceEq, Int.reduceSub, Int.reduceAdd, Int.reduceNeg, Int.reduceLT, Int.reduceLE, Nat.reduceLT, bz_T2]; refine hK _ ?_; clear hK K)
      | simp only [Sv, ↓reduceIte, Nat.reduceEqDiff]
    simp (disch := (first | omega | assumption)) only [retC, rsVs_nil, rsVs_cons, rsV_t, rsV_c, rsp_pt, rsq_t, rsq_f, ocons_ss, retV_1, retV_2, retNV_nil, retNV_cons, retOk, retN, ret1, retF, ret1F, V.okArg, and_true, true_and, S1, ↓reduceIte, Nat.reduceEqDiff, Nat.reduceAdd, Nat.reduceMul, Nat.reduceDiv, AOp.sb, AOp.mut, ↓Bool.false_eq_true, beq_self_eq_true, ite_self, Nat.reduceLeDiff, Int.reduceEq, Int.reduceSub, Int.reduceAdd, Int.reduceNeg, Int.reduceLT, Int.reduceLE, Nat.reduceLT, bz_T2, show IntKind.u64.wrap 1 = 1 from rfl]
  · rw [e0]
    refine AFun.mkc fol J0s Try.func21 rfl (ac := a21) (by kernel_rfl) (rs := [.c 2 true 2]) (by kernel_rfl) rfl rfl ?_
    apply vm_start
    unfold a21
    simp only [init_eq, initE]
    repeat first
      | (refine hK _ ?_; clear hK K)
      | ((first | refine vm_reg (fun K hK => ?_) | refine vm_dreg (fun K hK => ?_) | refine vm_dregx (fun K hK => ?_)); simp (disch := (first | omega | assumption)) only [S1, ↓reduceIte, Nat.reduceEqDiff, Nat.reduceAdd, Nat.reduceMul, Nat.reduceDiv, AOp.sb, AOp.mut, ↓Bool.false_eq_true, beq_self_eq_true, ite_self, Nat.reduceLeDiff, Int.reduceEq, Int.reduceSub, Int.reduceAdd, Int.reduceNeg, Int.reduceLT, Int.reduceLE, Nat.reduceLT, bz_T2]; refine hK _ ?_; clear hK K)
      | simp only [Sv, ↓reduceIte, Nat.reduceEqDiff]
    simp (disch := (first | omega | assumption)) only [retC, rsVs_nil, rsVs_cons, rsV_t, rsV_c, rsp_pt, rsq_t, rsq_f, ocons_ss, retV_1, retV_2, retNV_nil, retNV_cons, retOk, retN, ret1, retF, ret1F, V.okArg, and_true, true_and, S1, ↓reduceIte, Nat.reduceEqDiff, Nat.reduceAdd, Nat.reduceMul, Nat.reduceDiv, AOp.sb, AOp.mut, ↓Bool.false_eq_true, beq_self_eq_true, ite_self, Nat.reduceLeDiff, Int.reduceEq, Int.reduceSub, Int.reduceAdd, Int.reduceNeg, Int.reduceLT, Int.reduceLE, Nat.reduceLT, bz_T2, show IntKind.u64.wrap 1 = 1 from rfl]
  · rw [e1]
    refine AFun.mkc fol J0s Try.func21 rfl (ac := a21) (by kernel_rfl) (rs := [.c 2 true 2]) (by kernel_rfl) rfl rfl ?_
    apply vm_start
    unfold a21
    simp only [init_eq, initE]
    repeat first
      | (refine hK _ ?_; clear hK K)
      | ((first | refine vm_reg (fun K hK => ?_) | refine vm_dreg (fun K hK => ?_) | refine vm_dregx (fun K hK => ?_)); simp (disch := (first | omega | assumption)) only [S1, ↓reduceIte, Nat.reduceEqDiff, Nat.reduceAdd, Nat.reduceMul, Nat.reduceDiv, AOp.sb, AOp.mut, ↓Bool.false_eq_true, beq_self_eq_true, ite_self, Nat.reduceLeDiff, Int.reduceEq, Int.reduceSub, Int.reduceAdd, Int.reduceNeg, Int.reduceLT, Int.reduceLE, Nat.reduceLT, bz_T2]; refine hK _ ?_; clear hK K)
      | simp only [Sv, ↓reduceIte, Nat.reduceEqDiff]
    simp (disch := (first | omega | assumption)) only [retC, rsVs_nil, rsVs_cons, rsV_t, rsV_c, rsp_pt, rsq_t, rsq_f, ocons_ss, retV_1, retV_2, retNV_nil, retNV_cons, retOk, retN, ret1, retF, ret1F, V.okArg, and_true, true_and, S1, ↓reduceIte, Nat.reduceEqDiff, Nat.reduceAdd, Nat.reduceMul, Nat.reduceDiv, AOp.sb, AOp.mut, ↓Bool.false_eq_true, beq_self_eq_true, ite_self, Nat.reduceLeDiff, Int.reduceEq, Int.reduceSub, Int.reduceAdd, Int.reduceNeg, Int.reduceLT, Int.reduceLE, Nat.reduceLT, bz_T2, show IntKind.u64.wrap 1 = 1 from rfl]
end Go.Proofs.Ytihcbbkiifglmaa
