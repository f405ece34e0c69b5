/-
  zpoly: sums, products; the law's small polynomials.
-/
import Derived.Test.YtfkldohgiifgbaaLGKn
import Derived.Test.YtfkldohgiifgbaaH0
namespace Go.Proofs.Ytfkldohgiifgbaa
open Go Go.RowKit Ab
set_option linter.unusedSimpArgs false
set_option linter.unusedVariables false
set_option maxHeartbeats 10000000
theorem bz_H1 : type_of% (And.intro @W_len (And.intro @D_len (And.intro @Nat.div_one (And.intro @Nat.mul_one (And.intro @tn_nat (And.intro @W_nf (And.intro @D_nf (And.intro @W_nil (And.intro @D_nil (And.intro @wi (And.intro @nf_g (And.intro @Bool.false_and (And.intro @W_cell (And.intro @ZC_cell (@ZC_nil))))))))))))))) := And.intro @W_len (And.intro @D_len (And.intro @Nat.div_one (And.intro @Nat.mul_one (And.intro @tn_nat (And.intro @W_nf (And.intro @D_nf (And.intro @W_nil (And.intro @D_nil (And.intro @wi (And.intro @nf_g (And.intro @Bool.false_and (And.intro @W_cell (And.intro @ZC_cell (@ZC_nil))))))))))))))

theorem ZC_set : ∀ (l : List (Bool × List Nat)) (i : Nat) (s : Bool) (a : List Nat), ((ZC l).set (i * 2) (.b s)).set (i * 2 + 1) (.l 1 (W a)) = ZC (l.set i (s, a))
  | [], i, s, a => by simp [ZC]
  | p :: r, 0, s, a => rfl
  | p :: r, i + 1, s, a => by
    have := ZC_set r i s a
    rw [show (i + 1) * 2 = (i * 2 + 1) + 1 from by omega]
    simp only [ZC, List.set_cons_succ, this]
theorem nfl_set (l : List Int) (i : Nat) (c : Int) : (nfl l).set i (nfp c) = nfl (l.set i c) := by unfold nfl; rw [List.map_set]
theorem ZN_set (l : List Int) (i : Nat) (c : Int) : ((ZC (nfl l)).set (i * 2) (.b (decide (c < 0)))).set (i * 2 + 1) (.l 1 (W (dg B c.natAbs))) = ZC (nfl (l.set i c)) := by rw [ZC_set]; show ZC ((nfl l).set i (nfp c)) = _; rw [nfl_set]
theorem mk_ZC (n : Nat) : (List.replicate n [V.b false, V.l 1 []]).flatten = ZC (nfl (List.replicate n 0)) := by
  induction n with
  | zero => rfl
  | succ n ih => rw [List.replicate_succ, List.flatten_cons, ih, List.replicate_succ]; rfl
theorem zN_00 : zN 0 = .g [.b false, .l 1 []] := by show V.g [.b (decide ((0 : Int) < 0)), .l 1 (W (dg B 0))] = _; rw [dg_zero]; rfl
theorem ZN_row (l : List Int) (i : Nat) (h : i < l.length) : ((ZC (nfl l)).drop (i * 2)).take 2 = [.b (decide (l.getD i 0 < 0)), .l 1 (W (dg B (l.getD i 0).natAbs))] := by
  obtain ⟨r1, _⟩ := ZC_row (nfl l) i (by rw [nfl_len]; exact h)
  rw [nfl_get l i h] at r1
  exact r1
theorem ZN_len (l : List Int) : (ZC (nfl l)).length = l.length * 2 := by rw [ZC_len, nfl_len]
theorem Cb_B {l : List Int} {m : Nat} (h : Cb l m) (hm : m < 18446744073709551616) : ∀ c, c ∈ l → c.natAbs < 18446744073709551616 := fun c hc => Nat.lt_of_le_of_lt (Cb_mem h c hc) hm
-- surd/zpoly.at
def a75 : AC := .seq (.reg [⟨some 4, none, .al 83 [(.b false), (.l 1 [])]⟩])
  (.seq (.seq (.reg [⟨some 5, none, .mv (.t 1)⟩, 
        ⟨some 6, none, .bin .lss (.t 5) (.k (.i .i64 0))⟩, 
        ⟨some 7, none, .mv (.t 6)⟩, 
        ⟨some 8, some (7, false), .mv (.t 1)⟩, 
        ⟨some 9, some (7, false), .mv (.t 0)⟩, 
        ⟨some 10, some (7, false), .len (.t 9)⟩, 
        ⟨some 11, some (7, false), .bin .geq (.t 8) (.t 10)⟩, 
        ⟨some 12, none, .pick (.t 7) (.k (.b true)) (.t 11)⟩])
    (.cond (.t 12)
    (.seq (.reg [⟨some 13, none, .bld [(.b false), (.l 1 [])] []⟩, 
          ⟨none, none, .st 2 (.t 4) (.t 13)⟩])
      (.ret))
    (.skip)))
  (.seq (.reg [⟨some 14, none, .mv (.t 0)⟩, 
      ⟨some 15, none, .mv (.t 1)⟩, 
      ⟨some 16, none, .idx 2 (.t 14) (.t 15)⟩, 
      ⟨some 17, none, .ld true 2 (.t 16)⟩, 
      ⟨none, none, .st 2 (.t 4) (.t 17)⟩])
  (.ret)))
theorem zat_spec (l : List Int) (i : Nat) : AFun Try.prog J0 75 [.l 2 (ZC (nfl l)), .i .i64 (i : Int)] (zN (l.getD i 0)) := by
  have hl := ZN_len l
  have hd : l.length * 2 / 2 = l.length := by omega
  have h0 : ¬ (i : Int) < 0 := by omega
  by_cases h : i < l.length
  · have hr := ZN_row l i h
    have h1 : ¬ (l.length : Int) ≤ (i : Int) := by omega
    generalize l.getD i 0 = c at *
    refine AFun.mkc fol J0s Try.func75 rfl (ac := a75) (by kernel_rfl) (rs := [.c 4 true 2]) (by kernel_rfl) rfl ?_
    apply vm_start
    unfold a75
    simp only [init_eq, initE]
    repeat first
      | (refine hK _ ?_; clear hK K)
      | ((first | refine vm_reg (fun K hK => ?_) | refine vm_dreg (fun K hK => ?_)); simp (disch := (first | omega | assumption)) only [S1, ↓reduceIte, Nat.reduceEqDiff, Nat.reduceAdd, Nat.reduceMul, Nat.reduceDiv, AOp.sb, AOp.mut, ↓Bool.false_eq_true, beq_self_eq_true, ite_self, Nat.reduceLeDiff, Int.reduceEq, Int.reduceSub, Int.reduceAdd, Int.reduceNeg, Int.reduceLT, Int.reduceLE, Nat.reduceLT, bz_H1, h0, hl, hd, h1, hr]; refine hK _ ?_; clear hK K)
      | simp only [Sv, ↓reduceIte, Nat.reduceEqDiff]
    simp (disch := (first | omega | assumption)) only [retC, rsVs_nil, rsVs_cons, rsV_t, rsV_c, rsp_pt, rsq_t, rsq_f, ocons_ss, retV_1, retV_2, retNV_nil, retNV_cons, retOk, retN, ret1, retF, ret1F, V.okArg, and_true, true_and, S1, ↓reduceIte, Nat.reduceEqDiff, Nat.reduceAdd, Nat.reduceMul, Nat.reduceDiv, AOp.sb, AOp.mut, ↓Bool.false_eq_true, beq_self_eq_true, ite_self, Nat.reduceLeDiff, Int.reduceEq, Int.reduceSub, Int.reduceAdd, Int.reduceNeg, Int.reduceLT, Int.reduceLE, Nat.reduceLT, bz_H1]
  · rw [show l.getD i 0 = 0 from by rw [List.getD_eq_getElem?_getD, List.getElem?_eq_none (by omega)]; rfl, zN_00]
    have h1 : (l.length : Int) ≤ (i : Int) := by omega
    refine AFun.mkc fol J0s Try.func75 rfl (ac := a75) (by kernel_rfl) (rs := [.c 4 true 2]) (by kernel_rfl) rfl ?_
    apply vm_start
    unfold a75
    simp only [init_eq, initE]
    repeat first
      | (refine hK _ ?_; clear hK K)
      | ((first | refine vm_reg (fun K hK => ?_) | refine vm_dreg (fun K hK => ?_)); simp (disch := (first | omega | assumption)) only [S1, ↓reduceIte, Nat.reduceEqDiff, Nat.reduceAdd, Nat.reduceMul, Nat.reduceDiv, AOp.sb, AOp.mut, ↓Bool.false_eq_true, beq_self_eq_true, ite_self, Nat.reduceLeDiff, Int.reduceEq, Int.reduceSub, Int.reduceAdd, Int.reduceNeg, Int.reduceLT, Int.reduceLE, Nat.reduceLT, bz_H1, h0, hl, hd, h1]; refine hK _ ?_; clear hK K)
      | simp only [Sv, ↓reduceIte, Nat.reduceEqDiff]
    simp (disch := (first | omega | assumption)) only [retC, rsVs_nil, rsVs_cons, rsV_t, rsV_c, rsp_pt, rsq_t, rsq_f, ocons_ss, retV_1, retV_2, retNV_nil, retNV_cons, retOk, retN, ret1, retF, ret1F, V.okArg, and_true, true_and, S1, ↓reduceIte, Nat.reduceEqDiff, Nat.reduceAdd, Nat.reduceMul, Nat.reduceDiv, AOp.sb, AOp.mut, ↓Bool.false_eq_true, beq_self_eq_true, ite_self, Nat.reduceLeDiff, Int.reduceEq, Int.reduceSub, Int.reduceAdd, Int.reduceNeg, Int.reduceLT, Int.reduceLE, Nat.reduceLT, bz_H1]
theorem BW1' {n : Nat} (h : n < 18446744073709551616) : n < B ^ 1 := by rw [Nat.pow_one]; exact h
theorem zaddM {x y r : Int} {m : Nat} (hx : x.natAbs ≤ m) (hy : y.natAbs ≤ m) (hm : m < 18446744073709551616) (e : x + y = r) : AFun Try.prog J0 49 [zN x, zN y] (zN r) := by
  rw [← e]
  exact zaddN (m := 1) (BW1' (by omega)) (BW1' (by omega)) (by decide)
theorem zmulM {x y r : Int} {m : Nat} (hx : x.natAbs ≤ m) (hy : y.natAbs ≤ m) (hm : m < 18446744073709551616) (e : x * y = r) : AFun Try.prog J0 50 [zN x, zN y] (zN r) := by
  have := zmul_spec (decide (x < 0)) (decide (y < 0)) (dg B x.natAbs) (dg B y.natAbs) (Wd_dg _) (Wd_dg _) (Nat.le_trans (dlen (k := 1) (BW1' (by omega))) (by decide)) (Nat.le_trans (dlen (k := 1) (BW1' (by omega))) (by decide))
  rw [zv_N, zv_N, e] at this
  exact this
-- surd/zpoly.Add
def a46 : AC := .seq (.reg [⟨some 4, none, .mv (.k .nl)⟩])
  (.seq (.reg [⟨some 7, none, .mv (.t 0)⟩, 
      ⟨some 8, none, .len (.t 7)⟩, 
      ⟨some 9, none, .mv (.t 1)⟩, 
      ⟨some 10, none, .len (.t 9)⟩, 
      ⟨some 11, none, .mm true (.t 8) (.t 10)⟩, 
      ⟨some 12, none, .mk 83 2 32 [(.b false), (.l 1 [])] (.t 11) (.t 11)⟩, 
      ⟨some 5, none, .mv (.t 12)⟩])
  (.seq (.seq (.reg [⟨some 13, none, .mv (.t 5)⟩, 
        ⟨some 14, none, .len (.t 13)⟩, 
        ⟨some 15, none, .mv (.k (.i .i64 0))⟩])
    (.blk 0
    (.loop
      (.seq (.reg [⟨some 16, none, .bin .lss (.t 15) (.t 14)⟩])
        (.seq (.cond (.t 16)
          (.skip)
          (.exit 0))
        (.seq (.blk 1
          (.seq (.reg [⟨some 17, none, .mv (.t 15)⟩, 
                ⟨some 6, none, .mv (.t 17)⟩])
            (.reg [⟨some 18, none, .mv (.t 5)⟩, 
              ⟨some 19, none, .mv (.t 6)⟩, 
              ⟨some 20, none, .mv (.t 0)⟩, 
              ⟨some 21, none, .mv (.t 6)⟩, 
              ⟨some 22, none, .call 75 [(2, (.t 20)), (1, (.t 21))]⟩, 
              ⟨some 23, none, .mv (.t 1)⟩, 
              ⟨some 24, none, .mv (.t 6)⟩, 
              ⟨some 25, none, .call 75 [(2, (.t 23)), (1, (.t 24))]⟩, 
              ⟨some 26, none, .call 49 [(1, (.t 22)), (1, (.t 25))]⟩, 
              ⟨some 27, none, .idx 2 (.t 18) (.t 19)⟩, 
              ⟨none, none, .st 2 (.t 27) (.t 26)⟩])))
        (.reg [⟨some 28, none, .bin .add (.t 15) (.k (.i .i64 1))⟩, 
          ⟨some 15, none, .mv (.t 28)⟩])))))))
  (.seq (.reg [⟨some 29, none, .mv (.t 5)⟩, 
      ⟨some 30, none, .call 63 [(2, (.t 29))]⟩, 
      ⟨some 4, none, .mv (.t 30)⟩])
  (.ret))))
theorem zpadd_spec (a b : List Int) (m : Nat) (hm : m ≤ 1000000) (la : a.length ≤ 1000000) (lb : b.length ≤ 1000000) (ca : Cb a m) (cb : Cb b m) : AFun Try.prog J0 46 [.l 2 (ZC (nfl a)), .l 2 (ZC (nfl b))] (.l 2 (ZC (nfl (tzi (addl a b))))) := by
  have ha := ZN_len a
  have hb := ZN_len b
  have hda : a.length * 2 / 2 = a.length := by omega
  have hdb : b.length * 2 / 2 = b.length := by omega
  have ha1 := zat_spec a
  have hb1 := zat_spec b
  obtain ⟨n, hn⟩ : ∃ n, n = max a.length b.length := ⟨_, rfl⟩
  have hmx : max (a.length : Int) (b.length : Int) = (n : Int) := by omega
  have hn0 : (0 : Int) ≤ (n : Int) := by omega
  have lad : (addl a b).length = n := by rw [addl_len, hn]
  have hno := (zpnorm_spec (nfl (addl a b)) 100000000 (by decide) (ZOk_small (by omega) (Cb_B (addl_Cb ca cb) (by omega)))).frozen
  rw [zcs_nfl] at hno
  generalize tzi (addl a b) = res at *
  have hdn : n * 2 / 2 = n := by omega
  refine AFun.mk fol J0s Try.func46 rfl (ac := a46) (by kernel_rfl) rfl rfl ?_
  apply vm_start
  unfold a46
  simp only [init_eq, initE]
  repeat first
    | (refine hK _ ?_; clear hK K)
    | ((first | refine vm_reg (fun K hK => ?_) | refine vm_dreg (fun K hK => ?_)); simp (disch := (first | omega | assumption)) only [S1, ↓reduceIte, Nat.reduceEqDiff, Nat.reduceAdd, Nat.reduceMul, Nat.reduceDiv, AOp.sb, AOp.mut, ↓Bool.false_eq_true, beq_self_eq_true, ite_self, Nat.reduceLeDiff, Int.reduceEq, Int.reduceSub, Int.reduceAdd, Int.reduceNeg, Int.reduceLT, Int.reduceLE, Nat.reduceLT, bz_H1, ha, hb, hda, hdb, hmx, hn0, mk_ZC]; refine hK _ ?_; clear hK K)
    | simp only [Sv, ↓reduceIte, Nat.reduceEqDiff]
  refine vm_loopA [] Nat (fun i => ⟨[(0, .l 2 (ZC (nfl a))), (1, .l 2 (ZC (nfl b))), (5, .ow 2 0 n), (14, .i .i64 (n : Int)), (15, .i .i64 (i : Int))],
      [(0, some ⟨83, 2, ZC (nfl ((addl a b).take i ++ List.replicate (n - i) (0 : Int))), true, false⟩)], 1⟩)
    (fun i => i ≤ n) (fun i => n - i) 0 (Nat.zero_le _) (by simp (disch := (first | omega | assumption)) only [Sl, Sa, Sw, ↓reduceIte, Nat.reduceEqDiff, Nat.reduceLT, List.all_nil, List.all_cons, Nat.reduceBneDiff, Nat.reduceAdd, bne_iff_ne, ne_eq, reduceCtorEq, not_false_eq_true, not_true_eq_false, Bool.and_true, Bool.true_and, and_true, true_and, and_self]) (by
    simp (disch := (first | omega | assumption)) only [Sl, Sa, Sw, ↓reduceIte, Nat.reduceEqDiff, Nat.reduceLT, List.all_nil, List.all_cons, Nat.reduceBneDiff, Nat.reduceAdd, bne_iff_ne, ne_eq, reduceCtorEq, not_false_eq_true, not_true_eq_false, Bool.and_true, Bool.true_and, and_true, true_and, and_self, i_eq]
    repeat' first | rfl | omega | (simp only [List.length_append, List.length_cons, List.length_nil]; done) | apply And.intro) ?_
  intro i hi Q' hQ he hr
  by_cases h : (i : Int) < (n : Int)
  · have h1 := ha1 i
    have h2 := hb1 i
    have h3 := zaddM (m := m) (ca i) (cb i) (by omega) (addl_get a b i).symm
    have ts := take_snoc (addl a b) i (by omega)
    have hl := ZN_len ((addl a b).take i ++ List.replicate (n - i) (0 : Int))
    rw [show ((addl a b).take i ++ List.replicate (n - i) (0 : Int)).length = n from by rw [List.length_append, List.length_take, List.length_replicate]; omega] at hl
    have hs := ZN_set ((addl a b).take i ++ List.replicate (n - i) (0 : Int)) i ((addl a b).getD i 0)
    rw [show ((addl a b).take i ++ List.replicate (n - i) (0 : Int)).set i ((addl a b).getD i 0) = (addl a b).take (i + 1) ++ List.replicate (n - (i + 1)) (0 : Int) from by
      rw [show n - i = (n - (i + 1)) + 1 from by omega, List.replicate_succ, List.set_append_right _ _ (by rw [List.length_take]; omega), List.length_take, show i - min i (addl a b).length = 0 from by omega, List.set_cons_zero, ts, List.append_assoc]; rfl] at hs
    generalize a.getD i 0 = x at *
    generalize b.getD i 0 = y at *
    generalize (addl a b).getD i 0 = z at *
    have zc1 := h1
    have zc2 := h2
    have zc3 := h3
    repeat first | (refine hK _ ?_; clear hK K) | simp only [Sv, ↓reduceIte, Nat.reduceEqDiff] | ((first | refine vm_reg (fun K hK => ?_) | refine vm_dreg (fun K hK => ?_) | refine clp_q ?_ | refine clq_mk (by assumption) ?_); simp (disch := (first | omega | assumption)) only [S1, ↓reduceIte, Nat.reduceEqDiff, Nat.reduceAdd, Nat.reduceMul, Nat.reduceDiv, AOp.sb, AOp.mut, ↓Bool.false_eq_true, beq_self_eq_true, ite_self, Nat.reduceLeDiff, Int.reduceEq, Int.reduceSub, Int.reduceAdd, Int.reduceNeg, Int.reduceLT, Int.reduceLE, Nat.reduceLT, bz_H1, h, hl, hs])
    refine hQ _ (i + 1) (by omega) (by omega) ?_
    simp (disch := (first | omega | assumption)) only [Sl, Sa, Sw, ↓reduceIte, Nat.reduceEqDiff, Nat.reduceLT, List.all_nil, List.all_cons, Nat.reduceBneDiff, Nat.reduceAdd, bne_iff_ne, ne_eq, reduceCtorEq, not_false_eq_true, not_true_eq_false, Bool.and_true, Bool.true_and, and_true, true_and, and_self, i_eq]
    repeat' first | rfl | omega | (simp only [List.length_append, List.length_cons, List.length_nil]; done) | apply And.intro
  · obtain rfl : i = n := by omega
    rw [show (addl a b).take i ++ List.replicate (i - i) (0 : Int) = addl a b from by rw [Nat.sub_self, List.take_of_length_le (by omega)]; simp]
    repeat first
      | (refine hK _ ?_; clear hK K)
      | ((first | refine vm_reg (fun K hK => ?_) | refine vm_dreg (fun K hK => ?_)); simp (disch := (first | omega | assumption)) only [S1, ↓reduceIte, Nat.reduceEqDiff, Nat.reduceAdd, Nat.reduceMul, Nat.reduceDiv, AOp.sb, AOp.mut, ↓Bool.false_eq_true, beq_self_eq_true, ite_self, Nat.reduceLeDiff, Int.reduceEq, Int.reduceSub, Int.reduceAdd, Int.reduceNeg, Int.reduceLT, Int.reduceLE, Nat.reduceLT, bz_H1, h]; refine hK _ ?_; clear hK K)
      | simp only [Sv, ↓reduceIte, Nat.reduceEqDiff]
    refine he _ _ ?_
    have zc4 := hno
    repeat first | (refine hK _ ?_; clear hK K) | simp only [Sv, ↓reduceIte, Nat.reduceEqDiff] | ((first | refine vm_reg (fun K hK => ?_) | refine vm_dreg (fun K hK => ?_) | refine clp_q ?_ | refine clq_mk (by assumption) ?_); simp (disch := (first | omega | assumption)) only [S1, ↓reduceIte, Nat.reduceEqDiff, Nat.reduceAdd, Nat.reduceMul, Nat.reduceDiv, AOp.sb, AOp.mut, ↓Bool.false_eq_true, beq_self_eq_true, ite_self, Nat.reduceLeDiff, Int.reduceEq, Int.reduceSub, Int.reduceAdd, Int.reduceNeg, Int.reduceLT, Int.reduceLE, Nat.reduceLT, bz_H1])
    simp (disch := (first | omega | assumption)) only [retOk, retN, ret1, retF, ret1F, V.okArg, and_true, true_and, S1, ↓reduceIte, Nat.reduceEqDiff, Nat.reduceAdd, Nat.reduceMul, Nat.reduceDiv, AOp.sb, AOp.mut, ↓Bool.false_eq_true, beq_self_eq_true, ite_self, Nat.reduceLeDiff, Int.reduceEq, Int.reduceSub, Int.reduceAdd, Int.reduceNeg, Int.reduceLT, Int.reduceLE, Nat.reduceLT, bz_H1]
-- surd/zpoly.Mul
def a47 : AC := .seq (.reg [⟨some 4, none, .mv (.k .nl)⟩])
  (.seq (.reg [⟨some 8, none, .mv (.t 0)⟩, 
      ⟨some 9, none, .call 63 [(2, (.t 8))]⟩, 
      ⟨some 10, none, .mv (.t 1)⟩, 
      ⟨some 11, none, .call 63 [(2, (.t 10))]⟩, 
      ⟨some 0, none, .mv (.t 9)⟩, 
      ⟨some 1, none, .mv (.t 11)⟩])
  (.seq (.seq (.reg [⟨some 12, none, .mv (.t 0)⟩, 
        ⟨some 13, none, .len (.t 12)⟩, 
        ⟨some 14, none, .bin .eql (.t 13) (.k (.i .i64 0))⟩, 
        ⟨some 15, none, .mv (.t 14)⟩, 
        ⟨some 16, some (15, false), .mv (.t 1)⟩, 
        ⟨some 17, some (15, false), .len (.t 16)⟩, 
        ⟨some 18, some (15, false), .bin .eql (.t 17) (.k (.i .i64 0))⟩, 
        ⟨some 19, none, .pick (.t 15) (.k (.b true)) (.t 18)⟩])
    (.cond (.t 19)
    (.seq (.reg [⟨some 4, none, .mv (.k .nl)⟩])
      (.ret))
    (.skip)))
  (.seq (.reg [⟨some 20, none, .mv (.t 0)⟩, 
      ⟨some 21, none, .len (.t 20)⟩, 
      ⟨some 22, none, .mv (.t 1)⟩, 
      ⟨some 23, none, .len (.t 22)⟩, 
      ⟨some 24, none, .bin .add (.t 21) (.t 23)⟩, 
      ⟨some 25, none, .bin .sub (.t 24) (.k (.i .i64 1))⟩, 
      ⟨some 26, none, .mk 83 2 32 [(.b false), (.l 1 [])] (.t 25) (.t 25)⟩, 
      ⟨some 5, none, .mv (.t 26)⟩])
  (.seq (.seq (.reg [⟨some 27, none, .mv (.t 0)⟩, 
        ⟨some 28, none, .len (.t 27)⟩, 
        ⟨some 29, none, .mv (.k (.i .i64 0))⟩])
    (.blk 0
    (.loop
      (.seq (.reg [⟨some 30, none, .bin .lss (.t 29) (.t 28)⟩])
        (.seq (.cond (.t 30)
          (.skip)
          (.exit 0))
        (.seq (.blk 1
          (.seq (.reg [⟨some 31, none, .mv (.t 29)⟩, 
                ⟨some 6, none, .mv (.t 31)⟩])
            (.seq (.reg [⟨some 32, none, .mv (.t 1)⟩, 
                ⟨some 33, none, .len (.t 32)⟩, 
                ⟨some 34, none, .mv (.k (.i .i64 0))⟩])
            (.blk 2
            (.loop
              (.seq (.reg [⟨some 35, none, .bin .lss (.t 34) (.t 33)⟩])
                (.seq (.cond (.t 35)
                  (.skip)
                  (.exit 2))
                (.seq (.blk 3
                  (.seq (.reg [⟨some 36, none, .mv (.t 34)⟩, 
                        ⟨some 7, none, .mv (.t 36)⟩])
                    (.dreg [⟨some 37, none, .mv (.t 5)⟩, 
                      ⟨some 38, none, .mv (.t 6)⟩, 
                      ⟨some 39, none, .mv (.t 7)⟩, 
                      ⟨some 40, none, .bin .add (.t 38) (.t 39)⟩, 
                      ⟨some 41, none, .mv (.t 5)⟩, 
                      ⟨some 42, none, .mv (.t 6)⟩, 
                      ⟨some 43, none, .mv (.t 7)⟩, 
                      ⟨some 44, none, .bin .add (.t 42) (.t 43)⟩, 
                      ⟨some 45, none, .idx 2 (.t 41) (.t 44)⟩, 
                      ⟨some 46, none, .ld true 2 (.t 45)⟩, 
                      ⟨some 47, none, .mv (.t 0)⟩, 
                      ⟨some 48, none, .mv (.t 6)⟩, 
                      ⟨some 49, none, .idx 2 (.t 47) (.t 48)⟩, 
                      ⟨some 50, none, .ld true 2 (.t 49)⟩, 
                      ⟨some 51, none, .mv (.t 1)⟩, 
                      ⟨some 52, none, .mv (.t 7)⟩, 
                      ⟨some 53, none, .idx 2 (.t 51) (.t 52)⟩, 
                      ⟨some 54, none, .ld true 2 (.t 53)⟩, 
                      ⟨some 55, none, .call 50 [(1, (.t 50)), (1, (.t 54))]⟩, 
                      ⟨some 56, none, .call 49 [(1, (.t 46)), (1, (.t 55))]⟩, 
                      ⟨some 57, none, .idx 2 (.t 37) (.t 40)⟩, 
                      ⟨none, none, .st 2 (.t 57) (.t 56)⟩])))
                (.reg [⟨some 58, none, .bin .add (.t 34) (.k (.i .i64 1))⟩, 
                  ⟨some 34, none, .mv (.t 58)⟩])))))))))
        (.reg [⟨some 59, none, .bin .add (.t 29) (.k (.i .i64 1))⟩, 
          ⟨some 29, none, .mv (.t 59)⟩])))))))
  (.seq (.reg [⟨some 60, none, .mv (.t 5)⟩, 
      ⟨some 61, none, .call 63 [(2, (.t 60))]⟩, 
      ⟨some 4, none, .mv (.t 61)⟩])
  (.ret))))))
theorem zpmul_spec (p q : List Int) (m : Nat) (hm : m ≤ 1000) (lp : p.length ≤ 1000) (lq : q.length ≤ 1000) (cp : Cb p m) (cq : Cb q m) : AFun Try.prog J0 47 [.l 2 (ZC (nfl p)), .l 2 (ZC (nfl q))] (.l 2 (ZC (nfl (mull (tzi p) (tzi q))))) := by
  have n1 := (zpnorm_spec (nfl p) 100000000 (by decide) (ZOk_small (by omega) (Cb_B cp (by omega)))).frozen
  have n2 := (zpnorm_spec (nfl q) 100000000 (by decide) (ZOk_small (by omega) (Cb_B cq (by omega)))).frozen
  rw [zcs_nfl] at n1 n2
  have ca := Cb_tzi cp
  have cb := Cb_tzi cq
  have la := Nat.le_trans (tzi_len p) lp
  have lb := Nat.le_trans (tzi_len q) lq
  generalize tzi p = a at *
  generalize tzi q = b at *
  have ha := ZN_len a
  have hb := ZN_len b
  have hda : a.length * 2 / 2 = a.length := by omega
  have hdb : b.length * 2 / 2 = b.length := by omega
  by_cases ha0 : a.length = 0
  · rw [show mull a b = [] from if_pos (.inl ha0)]
    have ha0I : (a.length : Int) = 0 := by omega
    refine AFun.mk fol J0s Try.func47 rfl (ac := a47) (by kernel_rfl) rfl rfl ?_
    apply vm_start
    unfold a47
    simp only [init_eq, initE]
    have zc5 := n1
    have zc6 := n2
    repeat first | (refine hK _ ?_; clear hK K) | simp only [Sv, ↓reduceIte, Nat.reduceEqDiff] | ((first | refine vm_reg (fun K hK => ?_) | refine vm_dreg (fun K hK => ?_) | refine clp_q ?_ | refine clq_mk (by assumption) ?_); simp (disch := (first | omega | assumption)) only [S1, ↓reduceIte, Nat.reduceEqDiff, Nat.reduceAdd, Nat.reduceMul, Nat.reduceDiv, AOp.sb, AOp.mut, ↓Bool.false_eq_true, beq_self_eq_true, ite_self, Nat.reduceLeDiff, Int.reduceEq, Int.reduceSub, Int.reduceAdd, Int.reduceNeg, Int.reduceLT, Int.reduceLE, Nat.reduceLT, bz_H1, ha, hb, hda, hdb, ha0I, show ZC (nfl []) = [] from rfl])
    simp (disch := (first | omega | assumption)) only [retOk, retN, ret1, retF, ret1F, V.okArg, and_true, true_and, S1, ↓reduceIte, Nat.reduceEqDiff, Nat.reduceAdd, Nat.reduceMul, Nat.reduceDiv, AOp.sb, AOp.mut, ↓Bool.false_eq_true, beq_self_eq_true, ite_self, Nat.reduceLeDiff, Int.reduceEq, Int.reduceSub, Int.reduceAdd, Int.reduceNeg, Int.reduceLT, Int.reduceLE, Nat.reduceLT, bz_H1, ha, hb, hda, hdb, ha0I, show ZC (nfl []) = [] from rfl]
  · by_cases hb0 : b.length = 0
    · rw [show mull a b = [] from if_pos (.inr hb0)]
      have ha0I : ¬ (a.length : Int) = 0 := by omega
      have hb0I : (b.length : Int) = 0 := by omega
      refine AFun.mk fol J0s Try.func47 rfl (ac := a47) (by kernel_rfl) rfl rfl ?_
      apply vm_start
      unfold a47
      simp only [init_eq, initE]
      have zc7 := n1
      have zc8 := n2
      repeat first | (refine hK _ ?_; clear hK K) | simp only [Sv, ↓reduceIte, Nat.reduceEqDiff] | ((first | refine vm_reg (fun K hK => ?_) | refine vm_dreg (fun K hK => ?_) | refine clp_q ?_ | refine clq_mk (by assumption) ?_); simp (disch := (first | omega | assumption)) only [S1, ↓reduceIte, Nat.reduceEqDiff, Nat.reduceAdd, Nat.reduceMul, Nat.reduceDiv, AOp.sb, AOp.mut, ↓Bool.false_eq_true, beq_self_eq_true, ite_self, Nat.reduceLeDiff, Int.reduceEq, Int.reduceSub, Int.reduceAdd, Int.reduceNeg, Int.reduceLT, Int.reduceLE, Nat.reduceLT, bz_H1, ha, hb, hda, hdb, ha0I, hb0I, show ZC (nfl []) = [] from rfl])
      simp (disch := (first | omega | assumption)) only [retOk, retN, ret1, retF, ret1F, V.okArg, and_true, true_and, S1, ↓reduceIte, Nat.reduceEqDiff, Nat.reduceAdd, Nat.reduceMul, Nat.reduceDiv, AOp.sb, AOp.mut, ↓Bool.false_eq_true, beq_self_eq_true, ite_self, Nat.reduceLeDiff, Int.reduceEq, Int.reduceSub, Int.reduceAdd, Int.reduceNeg, Int.reduceLT, Int.reduceLE, Nat.reduceLT, bz_H1, ha, hb, hda, hdb, ha0I, hb0I, show ZC (nfl []) = [] from rfl]
    · have ha0I : ¬ (a.length : Int) = 0 := by omega
      have hb0I : ¬ (b.length : Int) = 0 := by omega
      obtain ⟨n, hn⟩ : ∃ n, n = a.length + b.length - 1 := ⟨_, rfl⟩
      have hnI : (a.length : Int) + (b.length : Int) - 1 = (n : Int) := by omega
      have hn0 : (0 : Int) ≤ (n : Int) := by omega
      have hml := mulF_len a b n
      have hmc := fun i => mulF_Cb (n := n) ca cb i
      have mm : m * m ≤ 1000 * 1000 := Nat.mul_le_mul hm hm
      have hbd : ∀ i, i ≤ a.length → i * (m * m) ≤ 1000 * (1000 * 1000) := fun i hi => Nat.mul_le_mul (by omega) mm
      have hno := (zpnorm_spec (nfl (mulF a b n a.length)) 100000000 (by decide) (ZOk_small (by rw [hml]; omega) (Cb_B (Cb_le (hmc _) (hbd _ (Nat.le_refl _))) (by decide)))).frozen
      rw [zcs_nfl, show tzi (mulF a b n a.length) = mull a b from by unfold mull; rw [if_neg (by omega), hn]] at hno
      generalize mull a b = res at *
      refine AFun.mk fol J0s Try.func47 rfl (ac := a47) (by kernel_rfl) rfl rfl ?_
      apply vm_start
      unfold a47
      simp only [init_eq, initE]
      have zc9 := n1
      have zc10 := n2
      repeat first | (refine hK _ ?_; clear hK K) | simp only [Sv, ↓reduceIte, Nat.reduceEqDiff] | ((first | refine vm_reg (fun K hK => ?_) | refine vm_dreg (fun K hK => ?_) | refine clp_q ?_ | refine clq_mk (by assumption) ?_); simp (disch := (first | omega | assumption)) only [S1, ↓reduceIte, Nat.reduceEqDiff, Nat.reduceAdd, Nat.reduceMul, Nat.reduceDiv, AOp.sb, AOp.mut, ↓Bool.false_eq_true, beq_self_eq_true, ite_self, Nat.reduceLeDiff, Int.reduceEq, Int.reduceSub, Int.reduceAdd, Int.reduceNeg, Int.reduceLT, Int.reduceLE, Nat.reduceLT, bz_H1, ha, hb, hda, hdb, ha0I, hb0I, hnI, hn0, mk_ZC])
      refine vm_loopA [] Nat (fun i => ⟨[(0, .l 2 (ZC (nfl a))), (1, .l 2 (ZC (nfl b))), (5, .ow 2 0 n), (28, .i .i64 (a.length : Int)), (29, .i .i64 (i : Int))],
          [(0, some ⟨83, 2, ZC (nfl (mulF a b n i)), true, false⟩)], 1⟩)
        (fun i => i ≤ a.length) (fun i => a.length - i) 0 (Nat.zero_le _) (by simp (disch := (first | omega | assumption)) only [Sl, Sa, Sw, ↓reduceIte, Nat.reduceEqDiff, Nat.reduceLT, List.all_nil, List.all_cons, Nat.reduceBneDiff, Nat.reduceAdd, bne_iff_ne, ne_eq, reduceCtorEq, not_false_eq_true, not_true_eq_false, Bool.and_true, Bool.true_and, and_true, true_and, and_self]) (by
        simp (disch := (first | omega | assumption)) only [Sl, Sa, Sw, ↓reduceIte, Nat.reduceEqDiff, Nat.reduceLT, List.all_nil, List.all_cons, Nat.reduceBneDiff, Nat.reduceAdd, bne_iff_ne, ne_eq, reduceCtorEq, not_false_eq_true, not_true_eq_false, Bool.and_true, Bool.true_and, and_true, true_and, and_self, i_eq]
        repeat' first | rfl | omega | (simp only [List.length_append, List.length_cons, List.length_nil]; done) | apply And.intro) ?_
      intro i hi Q' hQ he hr
      by_cases h : (i : Int) < (a.length : Int)
      · have hra := ZN_row a i (by omega)
        have cai := ca i
        have hme := mrow_len (mulF a b n i) i (a.getD i 0) b
        have hmb := fun j k => mrow_Cb (O := mulF a b n i) (i := i) cai cb j k
        have hmi : mulF a b n (i + 1) = mrow (mulF a b n i) i (a.getD i 0) b b.length := rfl
        have hOc := hmc i
        have hbi := hbd i hi
        have hm0 : mrow (mulF a b n i) i (a.getD i 0) b 0 = mulF a b n i := rfl
        have hms := fun j => show mrow (mulF a b n i) i (a.getD i 0) b (j + 1) = _ from rfl
        generalize a.getD i 0 = x at *
        rw [hml] at hme
        obtain ⟨O, hO⟩ : ∃ O, O = mulF a b n i := ⟨_, rfl⟩
        rw [← hO] at hme hmb hmi hOc hm0 hms
        rw [← hO]
        repeat first
          | (refine hK _ ?_; clear hK K)
          | ((first | refine vm_reg (fun K hK => ?_) | refine vm_dreg (fun K hK => ?_)); simp (disch := (first | omega | assumption)) only [S1, ↓reduceIte, Nat.reduceEqDiff, Nat.reduceAdd, Nat.reduceMul, Nat.reduceDiv, AOp.sb, AOp.mut, ↓Bool.false_eq_true, beq_self_eq_true, ite_self, Nat.reduceLeDiff, Int.reduceEq, Int.reduceSub, Int.reduceAdd, Int.reduceNeg, Int.reduceLT, Int.reduceLE, Nat.reduceLT, bz_H1, h, hb, hdb]; refine hK _ ?_; clear hK K)
          | simp only [Sv, ↓reduceIte, Nat.reduceEqDiff]
        refine vm_loopA [] Nat (fun j => ⟨[(0, .l 2 (ZC (nfl a))), (1, .l 2 (ZC (nfl b))), (5, .ow 2 0 n), (6, .i .i64 (i : Int)), (28, .i .i64 (a.length : Int)), (29, .i .i64 (i : Int)), (33, .i .i64 (b.length : Int)), (34, .i .i64 (j : Int))],
            [(0, some ⟨83, 2, ZC (nfl (mrow O i x b j)), true, false⟩)], 1⟩)
          (fun j => j ≤ b.length) (fun j => b.length - j) 0 (Nat.zero_le _) (by simp (disch := (first | omega | assumption)) only [Sl, Sa, Sw, ↓reduceIte, Nat.reduceEqDiff, Nat.reduceLT, List.all_nil, List.all_cons, Nat.reduceBneDiff, Nat.reduceAdd, bne_iff_ne, ne_eq, reduceCtorEq, not_false_eq_true, not_true_eq_false, Bool.and_true, Bool.true_and, and_true, true_and, and_self]) (by
          simp (disch := (first | omega | assumption)) only [Sl, Sa, Sw, ↓reduceIte, Nat.reduceEqDiff, Nat.reduceLT, List.all_nil, List.all_cons, Nat.reduceBneDiff, Nat.reduceAdd, bne_iff_ne, ne_eq, reduceCtorEq, not_false_eq_true, not_true_eq_false, Bool.and_true, Bool.true_and, and_true, true_and, and_self, i_eq]
          rw [hm0]
          repeat' first | rfl | omega | (simp only [List.length_append, List.length_cons, List.length_nil]; done) | apply And.intro) ?_
        intro j hj Q2 hQ2 he2 hr2
        by_cases h2 : (j : Int) < (b.length : Int)
        · have hrb := ZN_row b j (by omega)
          have cbj := cb j
          have hro := ZN_row (mrow O i x b j) (i + j) (by rw [hme]; omega)
          have hlo := ZN_len (mrow O i x b j)
          rw [hme] at hlo
          have hst := ZN_set (mrow O i x b j) (i + j) ((mrow O i x b j).getD (i + j) 0 + x * b.getD j 0)
          rw [show (mrow O i x b j).set (i + j) ((mrow O i x b j).getD (i + j) 0 + x * b.getD j 0) = mrow O i x b (j + 1) from rfl] at hst
          have ho := hmb j (i + j)
          rw [if_neg (by omega)] at ho
          have hok := hOc (i + j)
          have hp : (x * b.getD j 0).natAbs ≤ m * m := by rw [Int.natAbs_mul]; exact Nat.mul_le_mul cai cbj
          have c1 := zmulM (m := 1000000000) (x := x) (y := b.getD j 0) (by omega) (by omega) (by decide) rfl
          have c2 := zaddM (m := 1000000000) (x := (mrow O i x b j).getD (i + j) 0) (y := x * b.getD j 0) (by omega) (by omega) (by decide) rfl
          have tij : ((i : Int) + (j : Int)).toNat = i + j := by omega
          have eij : (i : Int) + (j : Int) < (n : Int) := by omega
          generalize x * b.getD j 0 = xy at *
          generalize (mrow O i x b j).getD (i + j) 0 = o at *
          generalize o + xy = s at *
          generalize b.getD j 0 = y at *
          have zc11 := c1
          have zc12 := c2
          repeat first | (refine hK _ ?_; clear hK K) | simp only [Sv, ↓reduceIte, Nat.reduceEqDiff] | ((first | refine vm_reg (fun K hK => ?_) | refine vm_dreg (fun K hK => ?_) | refine clp_q ?_ | refine clq_mk (by assumption) ?_); simp (disch := (first | omega | assumption)) only [S1, ↓reduceIte, Nat.reduceEqDiff, Nat.reduceAdd, Nat.reduceMul, Nat.reduceDiv, AOp.sb, AOp.mut, ↓Bool.false_eq_true, beq_self_eq_true, ite_self, Nat.reduceLeDiff, Int.reduceEq, Int.reduceSub, Int.reduceAdd, Int.reduceNeg, Int.reduceLT, Int.reduceLE, Nat.reduceLT, bz_H1, h2, ha, hb, hra, hrb, hro, hlo, tij, hst])
          refine hQ2 _ (j + 1) (by omega) (by omega) ?_
          simp (disch := (first | omega | assumption)) only [Sl, Sa, Sw, ↓reduceIte, Nat.reduceEqDiff, Nat.reduceLT, List.all_nil, List.all_cons, Nat.reduceBneDiff, Nat.reduceAdd, bne_iff_ne, ne_eq, reduceCtorEq, not_false_eq_true, not_true_eq_false, Bool.and_true, Bool.true_and, and_true, true_and, and_self, i_eq]
          repeat' first | rfl | omega | (simp only [List.length_append, List.length_cons, List.length_nil]; done) | apply And.intro
        · obtain rfl : j = b.length := by omega
          repeat first
            | (refine hK _ ?_; clear hK K)
            | ((first | refine vm_reg (fun K hK => ?_) | refine vm_dreg (fun K hK => ?_)); simp (disch := (first | omega | assumption)) only [S1, ↓reduceIte, Nat.reduceEqDiff, Nat.reduceAdd, Nat.reduceMul, Nat.reduceDiv, AOp.sb, AOp.mut, ↓Bool.false_eq_true, beq_self_eq_true, ite_self, Nat.reduceLeDiff, Int.reduceEq, Int.reduceSub, Int.reduceAdd, Int.reduceNeg, Int.reduceLT, Int.reduceLE, Nat.reduceLT, bz_H1, h2]; refine hK _ ?_; clear hK K)
            | simp only [Sv, ↓reduceIte, Nat.reduceEqDiff]
          refine he2 _ _ ?_
          repeat first
            | (refine hK _ ?_; clear hK K)
            | ((first | refine vm_reg (fun K hK => ?_) | refine vm_dreg (fun K hK => ?_)); simp (disch := (first | omega | assumption)) only [S1, ↓reduceIte, Nat.reduceEqDiff, Nat.reduceAdd, Nat.reduceMul, Nat.reduceDiv, AOp.sb, AOp.mut, ↓Bool.false_eq_true, beq_self_eq_true, ite_self, Nat.reduceLeDiff, Int.reduceEq, Int.reduceSub, Int.reduceAdd, Int.reduceNeg, Int.reduceLT, Int.reduceLE, Nat.reduceLT, bz_H1]; refine hK _ ?_; clear hK K)
            | simp only [Sv, ↓reduceIte, Nat.reduceEqDiff]
          refine hQ _ (i + 1) (by omega) (by omega) ?_
          simp only [hmi]
          simp (disch := (first | omega | assumption)) only [Sl, Sa, Sw, ↓reduceIte, Nat.reduceEqDiff, Nat.reduceLT, List.all_nil, List.all_cons, Nat.reduceBneDiff, Nat.reduceAdd, bne_iff_ne, ne_eq, reduceCtorEq, not_false_eq_true, not_true_eq_false, Bool.and_true, Bool.true_and, and_true, true_and, and_self, i_eq]
          repeat' first | rfl | omega | (simp only [List.length_append, List.length_cons, List.length_nil]; done) | apply And.intro
      · obtain rfl : i = a.length := by omega
        repeat first
          | (refine hK _ ?_; clear hK K)
          | ((first | refine vm_reg (fun K hK => ?_) | refine vm_dreg (fun K hK => ?_)); simp (disch := (first | omega | assumption)) only [S1, ↓reduceIte, Nat.reduceEqDiff, Nat.reduceAdd, Nat.reduceMul, Nat.reduceDiv, AOp.sb, AOp.mut, ↓Bool.false_eq_true, beq_self_eq_true, ite_self, Nat.reduceLeDiff, Int.reduceEq, Int.reduceSub, Int.reduceAdd, Int.reduceNeg, Int.reduceLT, Int.reduceLE, Nat.reduceLT, bz_H1, h]; refine hK _ ?_; clear hK K)
          | simp only [Sv, ↓reduceIte, Nat.reduceEqDiff]
        refine he _ _ ?_
        have zc13 := hno
        repeat first | (refine hK _ ?_; clear hK K) | simp only [Sv, ↓reduceIte, Nat.reduceEqDiff] | ((first | refine vm_reg (fun K hK => ?_) | refine vm_dreg (fun K hK => ?_) | refine clp_q ?_ | refine clq_mk (by assumption) ?_); simp (disch := (first | omega | assumption)) only [S1, ↓reduceIte, Nat.reduceEqDiff, Nat.reduceAdd, Nat.reduceMul, Nat.reduceDiv, AOp.sb, AOp.mut, ↓Bool.false_eq_true, beq_self_eq_true, ite_self, Nat.reduceLeDiff, Int.reduceEq, Int.reduceSub, Int.reduceAdd, Int.reduceNeg, Int.reduceLT, Int.reduceLE, Nat.reduceLT, bz_H1])
        simp (disch := (first | omega | assumption)) only [retOk, retN, ret1, retF, ret1F, V.okArg, and_true, true_and, S1, ↓reduceIte, Nat.reduceEqDiff, Nat.reduceAdd, Nat.reduceMul, Nat.reduceDiv, AOp.sb, AOp.mut, ↓Bool.false_eq_true, beq_self_eq_true, ite_self, Nat.reduceLeDiff, Int.reduceEq, Int.reduceSub, Int.reduceAdd, Int.reduceNeg, Int.reduceLT, Int.reduceLE, Nat.reduceLT, bz_H1]
end Go.Proofs.Ytfkldohgiifgbaa
