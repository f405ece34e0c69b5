/-
  surdref05: integers.
-/
import Derived.Test.YtfkldohgiifgbaaF4
import Derived.Test.YtfkldohgiifgbaaZ1
namespace Go.Proofs.Ytfkldohgiifgbaa
open Go Go.RowKit Ab
set_option linter.unusedSimpArgs false
set_option linter.unusedVariables false
set_option maxHeartbeats 10000000
theorem bz_F5 : type_of% (And.intro @W_len (And.intro @D_len (And.intro @Nat.div_one (And.intro @Nat.mul_one (And.intro @tn_nat (And.intro @W_nf (And.intro @D_nf (And.intro @W_nil (And.intro @D_nil (And.intro @wi (And.intro @D_get (And.intro @nf_g (And.intro @Bool.false_and (@W_cell)))))))))))))) := And.intro @W_len (And.intro @D_len (And.intro @Nat.div_one (And.intro @Nat.mul_one (And.intro @tn_nat (And.intro @W_nf (And.intro @D_nf (And.intro @W_nil (And.intro @D_nil (And.intro @wi (And.intro @D_get (And.intro @nf_g (And.intro @Bool.false_and (@W_cell)))))))))))))

-- surd/surdref05.I
def a72 : AC := .seq (.reg [⟨some 4, none, .al 83 [(.b false), (.l 1 [])]⟩])
  (.seq (.reg [⟨some 5, none, .mv (.t 1)⟩, 
      ⟨some 6, none, .call 96 [(1, (.t 5))]⟩, 
      ⟨some 1, none, .mv (.t 6)⟩])
  (.seq (.reg [⟨some 7, none, .mv (.t 0)⟩, 
      ⟨some 8, none, .mv (.t 7)⟩, 
      ⟨some 9, some (8, true), .mv (.t 1)⟩, 
      ⟨some 10, some (8, true), .len (.t 9)⟩, 
      ⟨some 11, some (8, true), .bin .gtr (.t 10) (.k (.i .i64 0))⟩, 
      ⟨some 12, none, .pick (.t 8) (.t 11) (.k (.b false))⟩, 
      ⟨some 13, none, .mv (.t 1)⟩, 
      ⟨some 14, none, .bld [(.b false), (.l 1 [])] [(0, 1, (.t 12)), (1, 1, (.t 13))]⟩, 
      ⟨none, none, .st 2 (.t 4) (.t 14)⟩])
  (.ret)))
theorem hI_spec (s : Bool) (a : List Nat) (ha : Wd a) (la : a.length ≤ 1000000000) : AFun Try.prog J0 72 [.b s, .l 1 (W a)] (zN (zv s a)) := by
  have h1 := (hnorm_spec a ha (by omega)).frozen
  have e := zN_I s (nv B a)
  unfold zv
  rw [e]
  generalize nv B a = n at *
  refine AFun.mkc fol J0s Try.func72 rfl (ac := a72) (by kernel_rfl) (rs := [.c 4 true 2]) (by kernel_rfl) rfl ?_
  apply vm_start
  unfold a72
  simp only [init_eq, initE]
  cases s
  · have zc1 := h1
    repeat first | (refine hK _ ?_; clear hK K) | simp only [Sv, ↓reduceIte, Nat.reduceEqDiff] | ((first | refine vm_reg (fun K hK => ?_) | refine vm_dreg (fun K hK => ?_) | refine clp_q ?_ | refine clq_mk (by assumption) ?_); simp (disch := (first | omega | assumption)) only [S1, ↓reduceIte, Nat.reduceEqDiff, Nat.reduceAdd, Nat.reduceMul, Nat.reduceDiv, AOp.sb, AOp.mut, ↓Bool.false_eq_true, beq_self_eq_true, ite_self, Nat.reduceLeDiff, Int.reduceEq, Int.reduceSub, Int.reduceAdd, Int.reduceNeg, Int.reduceLT, Int.reduceLE, Nat.reduceLT, bz_F5])
    simp (disch := (first | omega | assumption)) only [retC, rsVs_nil, rsVs_cons, rsV_t, rsV_c, rsp_pt, rsq_t, rsq_f, ocons_ss, retV_1, retV_2, retNV_nil, retNV_cons, retOk, retN, ret1, retF, ret1F, V.okArg, and_true, true_and, S1, ↓reduceIte, Nat.reduceEqDiff, Nat.reduceAdd, Nat.reduceMul, Nat.reduceDiv, AOp.sb, AOp.mut, ↓Bool.false_eq_true, beq_self_eq_true, ite_self, Nat.reduceLeDiff, Int.reduceEq, Int.reduceSub, Int.reduceAdd, Int.reduceNeg, Int.reduceLT, Int.reduceLE, Nat.reduceLT, bz_F5]
  · by_cases h : 0 < n
    · have e : decide (0 < n) = true := decide_eq_true h
      rw [e]
      have zc2 := h1
      repeat first | (refine hK _ ?_; clear hK K) | simp only [Sv, ↓reduceIte, Nat.reduceEqDiff] | ((first | refine vm_reg (fun K hK => ?_) | refine vm_dreg (fun K hK => ?_) | refine clp_q ?_ | refine clq_mk (by assumption) ?_); simp (disch := (first | omega | assumption)) only [S1, ↓reduceIte, Nat.reduceEqDiff, Nat.reduceAdd, Nat.reduceMul, Nat.reduceDiv, AOp.sb, AOp.mut, ↓Bool.false_eq_true, beq_self_eq_true, ite_self, Nat.reduceLeDiff, Int.reduceEq, Int.reduceSub, Int.reduceAdd, Int.reduceNeg, Int.reduceLT, Int.reduceLE, Nat.reduceLT, bz_F5, dg_pos, h])
      simp (disch := (first | omega | assumption)) only [retC, rsVs_nil, rsVs_cons, rsV_t, rsV_c, rsp_pt, rsq_t, rsq_f, ocons_ss, retV_1, retV_2, retNV_nil, retNV_cons, retOk, retN, ret1, retF, ret1F, V.okArg, and_true, true_and, S1, ↓reduceIte, Nat.reduceEqDiff, Nat.reduceAdd, Nat.reduceMul, Nat.reduceDiv, AOp.sb, AOp.mut, ↓Bool.false_eq_true, beq_self_eq_true, ite_self, Nat.reduceLeDiff, Int.reduceEq, Int.reduceSub, Int.reduceAdd, Int.reduceNeg, Int.reduceLT, Int.reduceLE, Nat.reduceLT, bz_F5, dg_pos, h]
    · have e : decide (0 < n) = false := decide_eq_false h
      rw [e]
      have zc3 := h1
      repeat first | (refine hK _ ?_; clear hK K) | simp only [Sv, ↓reduceIte, Nat.reduceEqDiff] | ((first | refine vm_reg (fun K hK => ?_) | refine vm_dreg (fun K hK => ?_) | refine clp_q ?_ | refine clq_mk (by assumption) ?_); simp (disch := (first | omega | assumption)) only [S1, ↓reduceIte, Nat.reduceEqDiff, Nat.reduceAdd, Nat.reduceMul, Nat.reduceDiv, AOp.sb, AOp.mut, ↓Bool.false_eq_true, beq_self_eq_true, ite_self, Nat.reduceLeDiff, Int.reduceEq, Int.reduceSub, Int.reduceAdd, Int.reduceNeg, Int.reduceLT, Int.reduceLE, Nat.reduceLT, bz_F5, dg_pos, h])
      simp (disch := (first | omega | assumption)) only [retC, rsVs_nil, rsVs_cons, rsV_t, rsV_c, rsp_pt, rsq_t, rsq_f, ocons_ss, retV_1, retV_2, retNV_nil, retNV_cons, retOk, retN, ret1, retF, ret1F, V.okArg, and_true, true_and, S1, ↓reduceIte, Nat.reduceEqDiff, Nat.reduceAdd, Nat.reduceMul, Nat.reduceDiv, AOp.sb, AOp.mut, ↓Bool.false_eq_true, beq_self_eq_true, ite_self, Nat.reduceLeDiff, Int.reduceEq, Int.reduceSub, Int.reduceAdd, Int.reduceNeg, Int.reduceLT, Int.reduceLE, Nat.reduceLT, bz_F5, dg_pos, h]
theorem hID (s : Bool) {n m : Nat} (h : n < B ^ m) (hm : m ≤ 1000000000) : AFun Try.prog J0 72 [.b s, .l 1 (W (dg B n))] (zN (zI s n)) := by
  have := hI_spec s (dg B n) (Wd_dg _) (Nat.le_trans (dlen h) hm)
  rwa [zv, nv_dgB] at this
-- surd/surdref05.Z
def a61 : AC := .seq (.reg [⟨some 2, none, .al 83 [(.b false), (.l 1 [])]⟩])
  (.seq (.seq (.reg [⟨some 3, none, .mv (.t 0)⟩, 
        ⟨some 4, none, .bin .lss (.t 3) (.k (.i .i64 0))⟩])
    (.cond (.t 4)
    (.seq (.reg [⟨some 5, none, .mv (.t 0)⟩, 
          ⟨some 6, none, .un .neg (.t 5)⟩, 
          ⟨some 7, none, .call 56 [(1, (.t 6))]⟩, 
          ⟨some 8, none, .call 72 [(1, (.k (.b true))), (1, (.t 7))]⟩, 
          ⟨none, none, .st 2 (.t 2) (.t 8)⟩])
      (.ret))
    (.skip)))
  (.seq (.reg [⟨some 9, none, .mv (.t 0)⟩, 
      ⟨some 10, none, .call 56 [(1, (.t 9))]⟩, 
      ⟨some 11, none, .call 72 [(1, (.k (.b false))), (1, (.t 10))]⟩, 
      ⟨none, none, .st 2 (.t 2) (.t 11)⟩])
  (.ret)))
theorem hZ_spec (n : Int) (h1 : -9223372036854775808 < n) (h2 : n < 9223372036854775808) : AFun Try.prog J0 61 [.i .i64 n] (zN n) := by
  have hw := (hword_spec n.natAbs (by omega)).frozen
  have hm := hID (decide (n < 0)) (n := n.natAbs) (m := 1) (by rw [Nat.pow_one]; show _ < 18446744073709551616; omega) (by decide)
  rw [zI_self] at hm
  by_cases h : n < 0
  · have ez : zN n = .g [.b true, .l 1 (W (dg B n.natAbs))] := by show V.g [.b (decide (n < 0)), _] = _; rw [decide_eq_true h]
    rw [ez] at hm ⊢
    rw [decide_eq_true h] at hm
    have e : -n = (n.natAbs : Int) := by omega
    have w1 : IntKind.i64.wrap (0 - n) = (n.natAbs : Int) := by rw [wi (by omega)]; omega
    refine AFun.mkc fol J0s Try.func61 rfl (ac := a61) (by kernel_rfl) (rs := [.c 2 true 2]) (by kernel_rfl) rfl ?_
    apply vm_start
    unfold a61
    simp only [init_eq, initE]
    have zc4 := hw
    have zc5 := hm
    repeat first | (refine hK _ ?_; clear hK K) | simp only [Sv, ↓reduceIte, Nat.reduceEqDiff] | ((first | refine vm_reg (fun K hK => ?_) | refine vm_dreg (fun K hK => ?_) | refine clp_q ?_ | refine clq_mk (by assumption) ?_); simp (disch := (first | omega | assumption)) only [S1, ↓reduceIte, Nat.reduceEqDiff, Nat.reduceAdd, Nat.reduceMul, Nat.reduceDiv, AOp.sb, AOp.mut, ↓Bool.false_eq_true, beq_self_eq_true, ite_self, Nat.reduceLeDiff, Int.reduceEq, Int.reduceSub, Int.reduceAdd, Int.reduceNeg, Int.reduceLT, Int.reduceLE, Nat.reduceLT, bz_F5, h, w1])
    simp (disch := (first | omega | assumption)) only [retC, rsVs_nil, rsVs_cons, rsV_t, rsV_c, rsp_pt, rsq_t, rsq_f, ocons_ss, retV_1, retV_2, retNV_nil, retNV_cons, retOk, retN, ret1, retF, ret1F, V.okArg, and_true, true_and, S1, ↓reduceIte, Nat.reduceEqDiff, Nat.reduceAdd, Nat.reduceMul, Nat.reduceDiv, AOp.sb, AOp.mut, ↓Bool.false_eq_true, beq_self_eq_true, ite_self, Nat.reduceLeDiff, Int.reduceEq, Int.reduceSub, Int.reduceAdd, Int.reduceNeg, Int.reduceLT, Int.reduceLE, Nat.reduceLT, bz_F5, h, w1]
  · have ez : zN n = .g [.b false, .l 1 (W (dg B n.natAbs))] := by show V.g [.b (decide (n < 0)), _] = _; rw [decide_eq_false h]
    rw [ez] at hm ⊢
    rw [decide_eq_false h] at hm
    obtain ⟨k, rfl⟩ : ∃ k : Nat, n = (k : Int) := ⟨n.natAbs, by omega⟩
    simp only [Int.natAbs_natCast] at hw hm ⊢
    refine AFun.mkc fol J0s Try.func61 rfl (ac := a61) (by kernel_rfl) (rs := [.c 2 true 2]) (by kernel_rfl) rfl ?_
    apply vm_start
    unfold a61
    simp only [init_eq, initE]
    have zc6 := hw
    have zc7 := hm
    repeat first | (refine hK _ ?_; clear hK K) | simp only [Sv, ↓reduceIte, Nat.reduceEqDiff] | ((first | refine vm_reg (fun K hK => ?_) | refine vm_dreg (fun K hK => ?_) | refine clp_q ?_ | refine clq_mk (by assumption) ?_); simp (disch := (first | omega | assumption)) only [S1, ↓reduceIte, Nat.reduceEqDiff, Nat.reduceAdd, Nat.reduceMul, Nat.reduceDiv, AOp.sb, AOp.mut, ↓Bool.false_eq_true, beq_self_eq_true, ite_self, Nat.reduceLeDiff, Int.reduceEq, Int.reduceSub, Int.reduceAdd, Int.reduceNeg, Int.reduceLT, Int.reduceLE, Nat.reduceLT, bz_F5, h])
    simp (disch := (first | omega | assumption)) only [retC, rsVs_nil, rsVs_cons, rsV_t, rsV_c, rsp_pt, rsq_t, rsq_f, ocons_ss, retV_1, retV_2, retNV_nil, retNV_cons, retOk, retN, ret1, retF, ret1F, V.okArg, and_true, true_and, S1, ↓reduceIte, Nat.reduceEqDiff, Nat.reduceAdd, Nat.reduceMul, Nat.reduceDiv, AOp.sb, AOp.mut, ↓Bool.false_eq_true, beq_self_eq_true, ite_self, Nat.reduceLeDiff, Int.reduceEq, Int.reduceSub, Int.reduceAdd, Int.reduceNeg, Int.reduceLT, Int.reduceLE, Nat.reduceLT, bz_F5, h]
-- surd/surdref05.Neg
def a111 : AC := .seq (.reg [⟨some 1, none, .bx 83 (.t 0)⟩, 
      ⟨some 2, none, .al 83 [(.b false), (.l 1 [])]⟩])
  (.seq (.reg [⟨some 3, none, .fad 0 (.t 1)⟩, 
      ⟨some 4, none, .ld false 1 (.t 3)⟩, 
      ⟨some 5, none, .un .not (.t 4)⟩, 
      ⟨some 6, none, .fad 1 (.t 1)⟩, 
      ⟨some 7, none, .ld false 1 (.t 6)⟩, 
      ⟨some 8, none, .call 72 [(1, (.t 5)), (1, (.t 7))]⟩, 
      ⟨none, none, .st 2 (.t 2) (.t 8)⟩])
  (.ret))
theorem hneg_spec (s : Bool) (a : List Nat) (ha : Wd a) (la : a.length ≤ 1000000000) : AFun Try.prog J0 111 [zL s a] (zN (-(zv s a))) := by
  have h1 := hI_spec (!s) a ha la
  rw [show zv (!s) a = -(zv s a) from by unfold zv zI; cases s <;> simp] at h1
  refine AFun.mkc fol J0s Try.func111 rfl (ac := a111) (by kernel_rfl) (rs := [.c 2 true 2]) (by kernel_rfl) rfl ?_
  apply vm_start
  unfold a111
  simp only [init_eq, initE]
  have zc8 := h1
  repeat first | (refine hK _ ?_; clear hK K) | simp only [Sv, ↓reduceIte, Nat.reduceEqDiff] | ((first | refine vm_reg (fun K hK => ?_) | refine vm_dreg (fun K hK => ?_) | refine clp_q ?_ | refine clq_mk (by assumption) ?_); simp (disch := (first | omega | assumption)) only [S1, ↓reduceIte, Nat.reduceEqDiff, Nat.reduceAdd, Nat.reduceMul, Nat.reduceDiv, AOp.sb, AOp.mut, ↓Bool.false_eq_true, beq_self_eq_true, ite_self, Nat.reduceLeDiff, Int.reduceEq, Int.reduceSub, Int.reduceAdd, Int.reduceNeg, Int.reduceLT, Int.reduceLE, Nat.reduceLT, bz_F5])
  simp (disch := (first | omega | assumption)) only [retC, rsVs_nil, rsVs_cons, rsV_t, rsV_c, rsp_pt, rsq_t, rsq_f, ocons_ss, retV_1, retV_2, retNV_nil, retNV_cons, retOk, retN, ret1, retF, ret1F, V.okArg, and_true, true_and, S1, ↓reduceIte, Nat.reduceEqDiff, Nat.reduceAdd, Nat.reduceMul, Nat.reduceDiv, AOp.sb, AOp.mut, ↓Bool.false_eq_true, beq_self_eq_true, ite_self, Nat.reduceLeDiff, Int.reduceEq, Int.reduceSub, Int.reduceAdd, Int.reduceNeg, Int.reduceLT, Int.reduceLE, Nat.reduceLT, bz_F5]
theorem zI_sub (s : Bool) (u v : Nat) (h : v ≤ u) : zI s (u - v) = zI s u + zI (!s) v := by
  unfold zI; cases s <;> simp <;> omega
theorem sg_ge (u v : Nat) : ((0 : Int) ≤ sg u v) = (v ≤ u) := by
  unfold sg
  split
  · rename_i h; exact propext ⟨fun h' => absurd h' (by decide), fun h' => absurd h' (by omega)⟩
  · rename_i h
    split <;> exact propext ⟨fun _ => by omega, fun _ => by decide⟩
-- surd/surdref05.Add
def a89 : AC := .seq (.reg [⟨some 2, none, .bx 83 (.t 0)⟩, 
      ⟨some 3, none, .bx 83 (.t 1)⟩, 
      ⟨some 4, none, .al 83 [(.b false), (.l 1 [])]⟩])
  (.seq (.seq (.reg [⟨some 5, none, .fad 0 (.t 2)⟩, 
        ⟨some 6, none, .ld false 1 (.t 5)⟩, 
        ⟨some 7, none, .fad 0 (.t 3)⟩, 
        ⟨some 8, none, .ld false 1 (.t 7)⟩, 
        ⟨some 9, none, .eqb false (.t 6) (.t 8)⟩])
    (.cond (.t 9)
    (.seq (.dreg [⟨some 10, none, .fad 0 (.t 2)⟩, 
          ⟨some 11, none, .ld false 1 (.t 10)⟩, 
          ⟨some 12, none, .fad 1 (.t 2)⟩, 
          ⟨some 13, none, .ld false 1 (.t 12)⟩, 
          ⟨some 14, none, .fad 1 (.t 3)⟩, 
          ⟨some 15, none, .ld false 1 (.t 14)⟩, 
          ⟨some 16, none, .call 57 [(1, (.t 13)), (1, (.t 15))]⟩, 
          ⟨some 17, none, .call 72 [(1, (.t 11)), (1, (.t 16))]⟩, 
          ⟨none, none, .st 2 (.t 4) (.t 17)⟩])
      (.ret))
    (.skip)))
  (.seq (.seq (.reg [⟨some 18, none, .fad 1 (.t 2)⟩, 
        ⟨some 19, none, .ld false 1 (.t 18)⟩, 
        ⟨some 20, none, .fad 1 (.t 3)⟩, 
        ⟨some 21, none, .ld false 1 (.t 20)⟩, 
        ⟨some 22, none, .call 73 [(1, (.t 19)), (1, (.t 21))]⟩, 
        ⟨some 23, none, .bin .geq (.t 22) (.k (.i .i64 0))⟩])
    (.cond (.t 23)
    (.seq (.dreg [⟨some 24, none, .fad 0 (.t 2)⟩, 
          ⟨some 25, none, .ld false 1 (.t 24)⟩, 
          ⟨some 26, none, .fad 1 (.t 2)⟩, 
          ⟨some 27, none, .ld false 1 (.t 26)⟩, 
          ⟨some 28, none, .fad 1 (.t 3)⟩, 
          ⟨some 29, none, .ld false 1 (.t 28)⟩, 
          ⟨some 30, none, .call 110 [(1, (.t 27)), (1, (.t 29))]⟩, 
          ⟨some 31, none, .call 72 [(1, (.t 25)), (1, (.t 30))]⟩, 
          ⟨none, none, .st 2 (.t 4) (.t 31)⟩])
      (.ret))
    (.skip)))
  (.seq (.dreg [⟨some 32, none, .fad 0 (.t 3)⟩, 
      ⟨some 33, none, .ld false 1 (.t 32)⟩, 
      ⟨some 34, none, .fad 1 (.t 3)⟩, 
      ⟨some 35, none, .ld false 1 (.t 34)⟩, 
      ⟨some 36, none, .fad 1 (.t 2)⟩, 
      ⟨some 37, none, .ld false 1 (.t 36)⟩, 
      ⟨some 38, none, .call 110 [(1, (.t 35)), (1, (.t 37))]⟩, 
      ⟨some 39, none, .call 72 [(1, (.t 33)), (1, (.t 38))]⟩, 
      ⟨none, none, .st 2 (.t 4) (.t 39)⟩])
  (.ret))))
theorem hzadd_spec (s t : Bool) (a b : List Nat) (m : Nat) (hm : m ≤ 100000000) (ha : Wd a) (hb : Wd b) (la : a.length ≤ m) (lb : b.length ≤ m) : AFun Try.prog J0 89 [zL s a, zL t b] (zN (zv s a + zv t b)) := by
  have l1 := nvlt ha la
  have l2 := nvlt hb lb
  have p1 := (hadd_spec a b ha hb (by omega) (by omega)).frozen
  have p2 := hcmpN_spec a b ha hb (by omega) (by omega)
  have p3 := fun h => (hsub_spec a b ha hb (by omega) (by omega) h).frozen
  have p4 := fun h => (hsub_spec b a hb ha (by omega) (by omega) h).frozen
  have p5 := hID s (padd l1 l2) (by omega)
  have p6 := hID s (Nat.lt_of_le_of_lt (Nat.sub_le (nv B a) (nv B b)) l1) (by omega)
  have p7 := hID t (Nat.lt_of_le_of_lt (Nat.sub_le (nv B b) (nv B a)) l2) (by omega)
  have hs := sg_ge (nv B a) (nv B b)
  have z1 := zadd_eq s t (nv B a) (nv B b)
  have z2 := zI_sub s (nv B a) (nv B b)
  have z3 := zI_sub t (nv B b) (nv B a)
  unfold zv
  generalize nv B a = u at *
  generalize nv B b = v at *
  by_cases h : s = t
  · subst h
    have hb' : (s == s) = true := by cases s <;> rfl
    rw [z1.1 rfl] at p5
    refine AFun.mkc fol J0s Try.func89 rfl (ac := a89) (by kernel_rfl) (rs := [.c 4 true 2]) (by kernel_rfl) rfl ?_
    apply vm_start
    unfold a89
    simp only [init_eq, initE]
    have zc9 := p1
    have zc10 := p5
    repeat first | (refine hK _ ?_; clear hK K) | simp only [Sv, ↓reduceIte, Nat.reduceEqDiff] | ((first | refine vm_reg (fun K hK => ?_) | refine vm_dreg (fun K hK => ?_) | refine clp_q ?_ | refine clq_mk (by assumption) ?_); simp (disch := (first | omega | assumption)) only [S1, ↓reduceIte, Nat.reduceEqDiff, Nat.reduceAdd, Nat.reduceMul, Nat.reduceDiv, AOp.sb, AOp.mut, ↓Bool.false_eq_true, beq_self_eq_true, ite_self, Nat.reduceLeDiff, Int.reduceEq, Int.reduceSub, Int.reduceAdd, Int.reduceNeg, Int.reduceLT, Int.reduceLE, Nat.reduceLT, bz_F5, hb'])
    simp (disch := (first | omega | assumption)) only [retC, rsVs_nil, rsVs_cons, rsV_t, rsV_c, rsp_pt, rsq_t, rsq_f, ocons_ss, retV_1, retV_2, retNV_nil, retNV_cons, retOk, retN, ret1, retF, ret1F, V.okArg, and_true, true_and, S1, ↓reduceIte, Nat.reduceEqDiff, Nat.reduceAdd, Nat.reduceMul, Nat.reduceDiv, AOp.sb, AOp.mut, ↓Bool.false_eq_true, beq_self_eq_true, ite_self, Nat.reduceLeDiff, Int.reduceEq, Int.reduceSub, Int.reduceAdd, Int.reduceNeg, Int.reduceLT, Int.reduceLE, Nat.reduceLT, bz_F5, hb']
  · have hb' : (s == t) = false := by cases s <;> cases t <;> first | rfl | exact absurd rfl h
    by_cases h2 : v ≤ u
    · have q := p3 h2
      have hst : (!s) = t := by cases s <;> cases t <;> first | rfl | exact absurd rfl h
      rw [z2 h2, hst] at p6
      refine AFun.mkc fol J0s Try.func89 rfl (ac := a89) (by kernel_rfl) (rs := [.c 4 true 2]) (by kernel_rfl) rfl ?_
      apply vm_start
      unfold a89
      simp only [init_eq, initE]
      have zc11 := p2
      have zc12 := q
      have zc13 := p6
      repeat first | (refine hK _ ?_; clear hK K) | simp only [Sv, ↓reduceIte, Nat.reduceEqDiff] | ((first | refine vm_reg (fun K hK => ?_) | refine vm_dreg (fun K hK => ?_) | refine clp_q ?_ | refine clq_mk (by assumption) ?_); simp (disch := (first | omega | assumption)) only [S1, ↓reduceIte, Nat.reduceEqDiff, Nat.reduceAdd, Nat.reduceMul, Nat.reduceDiv, AOp.sb, AOp.mut, ↓Bool.false_eq_true, beq_self_eq_true, ite_self, Nat.reduceLeDiff, Int.reduceEq, Int.reduceSub, Int.reduceAdd, Int.reduceNeg, Int.reduceLT, Int.reduceLE, Nat.reduceLT, bz_F5, hb', hs, h2])
      simp (disch := (first | omega | assumption)) only [retC, rsVs_nil, rsVs_cons, rsV_t, rsV_c, rsp_pt, rsq_t, rsq_f, ocons_ss, retV_1, retV_2, retNV_nil, retNV_cons, retOk, retN, ret1, retF, ret1F, V.okArg, and_true, true_and, S1, ↓reduceIte, Nat.reduceEqDiff, Nat.reduceAdd, Nat.reduceMul, Nat.reduceDiv, AOp.sb, AOp.mut, ↓Bool.false_eq_true, beq_self_eq_true, ite_self, Nat.reduceLeDiff, Int.reduceEq, Int.reduceSub, Int.reduceAdd, Int.reduceNeg, Int.reduceLT, Int.reduceLE, Nat.reduceLT, bz_F5, hb', hs, h2]
    · have q := p4 (by omega)
      have hst : (!t) = s := by cases s <;> cases t <;> first | rfl | exact absurd rfl h
      rw [z3 (by omega), hst, Int.add_comm] at p7
      refine AFun.mkc fol J0s Try.func89 rfl (ac := a89) (by kernel_rfl) (rs := [.c 4 true 2]) (by kernel_rfl) rfl ?_
      apply vm_start
      unfold a89
      simp only [init_eq, initE]
      have zc14 := p2
      have zc15 := q
      have zc16 := p7
      repeat first | (refine hK _ ?_; clear hK K) | simp only [Sv, ↓reduceIte, Nat.reduceEqDiff] | ((first | refine vm_reg (fun K hK => ?_) | refine vm_dreg (fun K hK => ?_) | refine clp_q ?_ | refine clq_mk (by assumption) ?_); simp (disch := (first | omega | assumption)) only [S1, ↓reduceIte, Nat.reduceEqDiff, Nat.reduceAdd, Nat.reduceMul, Nat.reduceDiv, AOp.sb, AOp.mut, ↓Bool.false_eq_true, beq_self_eq_true, ite_self, Nat.reduceLeDiff, Int.reduceEq, Int.reduceSub, Int.reduceAdd, Int.reduceNeg, Int.reduceLT, Int.reduceLE, Nat.reduceLT, bz_F5, hb', hs, h2])
      simp (disch := (first | omega | assumption)) only [retC, rsVs_nil, rsVs_cons, rsV_t, rsV_c, rsp_pt, rsq_t, rsq_f, ocons_ss, retV_1, retV_2, retNV_nil, retNV_cons, retOk, retN, ret1, retF, ret1F, V.okArg, and_true, true_and, S1, ↓reduceIte, Nat.reduceEqDiff, Nat.reduceAdd, Nat.reduceMul, Nat.reduceDiv, AOp.sb, AOp.mut, ↓Bool.false_eq_true, beq_self_eq_true, ite_self, Nat.reduceLeDiff, Int.reduceEq, Int.reduceSub, Int.reduceAdd, Int.reduceNeg, Int.reduceLT, Int.reduceLE, Nat.reduceLT, bz_F5, hb', hs, h2]
-- surd/surdref05.Sub
def a90 : AC := .seq (.reg [⟨some 2, none, .bx 83 (.t 0)⟩, 
      ⟨some 3, none, .bx 83 (.t 1)⟩, 
      ⟨some 4, none, .al 83 [(.b false), (.l 1 [])]⟩])
  (.seq (.dreg [⟨some 5, none, .ld true 2 (.t 2)⟩, 
      ⟨some 6, none, .ld true 2 (.t 3)⟩, 
      ⟨some 7, none, .call 111 [(1, (.t 6))]⟩, 
      ⟨some 8, none, .call 89 [(1, (.t 5)), (1, (.t 7))]⟩, 
      ⟨none, none, .st 2 (.t 4) (.t 8)⟩])
  (.ret))
theorem hzsub_spec (s t : Bool) (a b : List Nat) (m : Nat) (hm : m ≤ 100000000) (ha : Wd a) (hb : Wd b) (la : a.length ≤ m) (lb : b.length ≤ m) : AFun Try.prog J0 90 [zL s a, zL t b] (zN (zv s a - zv t b)) := by
  have h1 := hneg_spec t b hb (by omega)
  have h2 := hzadd_spec s (decide (-(zv t b) < 0)) a (dg B (-(zv t b)).natAbs) m hm ha (Wd_dg _) la (by rw [Int.natAbs_neg, zv_abs]; exact dlen (nvlt hb lb))
  rw [zv_N, ← Int.sub_eq_add_neg] at h2
  refine AFun.mkc fol J0s Try.func90 rfl (ac := a90) (by kernel_rfl) (rs := [.c 4 true 2]) (by kernel_rfl) rfl ?_
  apply vm_start
  unfold a90
  simp only [init_eq, initE]
  have zc17 := h1
  have zc18 := h2
  repeat first | (refine hK _ ?_; clear hK K) | simp only [Sv, ↓reduceIte, Nat.reduceEqDiff] | ((first | refine vm_reg (fun K hK => ?_) | refine vm_dreg (fun K hK => ?_) | refine clp_q ?_ | refine clq_mk (by assumption) ?_); simp (disch := (first | omega | assumption)) only [S1, ↓reduceIte, Nat.reduceEqDiff, Nat.reduceAdd, Nat.reduceMul, Nat.reduceDiv, AOp.sb, AOp.mut, ↓Bool.false_eq_true, beq_self_eq_true, ite_self, Nat.reduceLeDiff, Int.reduceEq, Int.reduceSub, Int.reduceAdd, Int.reduceNeg, Int.reduceLT, Int.reduceLE, Nat.reduceLT, bz_F5])
  simp (disch := (first | omega | assumption)) only [retC, rsVs_nil, rsVs_cons, rsV_t, rsV_c, rsp_pt, rsq_t, rsq_f, ocons_ss, retV_1, retV_2, retNV_nil, retNV_cons, retOk, retN, ret1, retF, ret1F, V.okArg, and_true, true_and, S1, ↓reduceIte, Nat.reduceEqDiff, Nat.reduceAdd, Nat.reduceMul, Nat.reduceDiv, AOp.sb, AOp.mut, ↓Bool.false_eq_true, beq_self_eq_true, ite_self, Nat.reduceLeDiff, Int.reduceEq, Int.reduceSub, Int.reduceAdd, Int.reduceNeg, Int.reduceLT, Int.reduceLE, Nat.reduceLT, bz_F5]
-- surd/surdref05.Mul
def a91 : AC := .seq (.reg [⟨some 2, none, .bx 83 (.t 0)⟩, 
      ⟨some 3, none, .bx 83 (.t 1)⟩, 
      ⟨some 4, none, .al 83 [(.b false), (.l 1 [])]⟩])
  (.seq (.dreg [⟨some 5, none, .fad 0 (.t 2)⟩, 
      ⟨some 6, none, .ld false 1 (.t 5)⟩, 
      ⟨some 7, none, .fad 0 (.t 3)⟩, 
      ⟨some 8, none, .ld false 1 (.t 7)⟩, 
      ⟨some 9, none, .eqb true (.t 6) (.t 8)⟩, 
      ⟨some 10, none, .fad 1 (.t 2)⟩, 
      ⟨some 11, none, .ld false 1 (.t 10)⟩, 
      ⟨some 12, none, .fad 1 (.t 3)⟩, 
      ⟨some 13, none, .ld false 1 (.t 12)⟩, 
      ⟨some 14, none, .call 58 [(1, (.t 11)), (1, (.t 13))]⟩, 
      ⟨some 15, none, .call 72 [(1, (.t 9)), (1, (.t 14))]⟩, 
      ⟨none, none, .st 2 (.t 4) (.t 15)⟩])
  (.ret))
theorem hzmul_spec (s t : Bool) (a b : List Nat) (m : Nat) (hm : m ≤ 100000000) (ha : Wd a) (hb : Wd b) (la : a.length ≤ m) (lb : b.length ≤ m) : AFun Try.prog J0 91 [zL s a, zL t b] (zN (zv s a * zv t b)) := by
  have h1 := (hmul_spec a b ha hb (by omega) (by omega)).frozen
  have pP : nv B a * nv B b < B ^ (m + m) := by rw [Nat.pow_add]; exact Nat.mul_lt_mul_of_lt_of_lt (nvlt ha la) (nvlt hb lb)
  have h2 := hID (!(s == t)) pP (by omega)
  rw [zmul_eq] at h2
  refine AFun.mkc fol J0s Try.func91 rfl (ac := a91) (by kernel_rfl) (rs := [.c 4 true 2]) (by kernel_rfl) rfl ?_
  apply vm_start
  unfold a91
  simp only [init_eq, initE]
  have zc19 := h1
  have zc20 := h2
  repeat first | (refine hK _ ?_; clear hK K) | simp only [Sv, ↓reduceIte, Nat.reduceEqDiff] | ((first | refine vm_reg (fun K hK => ?_) | refine vm_dreg (fun K hK => ?_) | refine clp_q ?_ | refine clq_mk (by assumption) ?_); simp (disch := (first | omega | assumption)) only [S1, ↓reduceIte, Nat.reduceEqDiff, Nat.reduceAdd, Nat.reduceMul, Nat.reduceDiv, AOp.sb, AOp.mut, ↓Bool.false_eq_true, beq_self_eq_true, ite_self, Nat.reduceLeDiff, Int.reduceEq, Int.reduceSub, Int.reduceAdd, Int.reduceNeg, Int.reduceLT, Int.reduceLE, Nat.reduceLT, bz_F5, zv])
  simp (disch := (first | omega | assumption)) only [retC, rsVs_nil, rsVs_cons, rsV_t, rsV_c, rsp_pt, rsq_t, rsq_f, ocons_ss, retV_1, retV_2, retNV_nil, retNV_cons, retOk, retN, ret1, retF, ret1F, V.okArg, and_true, true_and, S1, ↓reduceIte, Nat.reduceEqDiff, Nat.reduceAdd, Nat.reduceMul, Nat.reduceDiv, AOp.sb, AOp.mut, ↓Bool.false_eq_true, beq_self_eq_true, ite_self, Nat.reduceLeDiff, Int.reduceEq, Int.reduceSub, Int.reduceAdd, Int.reduceNeg, Int.reduceLT, Int.reduceLE, Nat.reduceLT, bz_F5, zv]
/-! the same, of integers in their own form -/
theorem haddZ {x y : Int} {m : Nat} (hx : x.natAbs < B ^ m) (hy : y.natAbs < B ^ m) (hm : m ≤ 100000000) : AFun Try.prog J0 89 [zN x, zN y] (zN (x + y)) := by
  have := hzadd_spec (decide (x < 0)) (decide (y < 0)) (dg B x.natAbs) (dg B y.natAbs) m hm (Wd_dg _) (Wd_dg _) (dlen hx) (dlen hy)
  rwa [zv_N, zv_N] at this
theorem hsubZ {x y : Int} {m : Nat} (hx : x.natAbs < B ^ m) (hy : y.natAbs < B ^ m) (hm : m ≤ 100000000) : AFun Try.prog J0 90 [zN x, zN y] (zN (x - y)) := by
  have := hzsub_spec (decide (x < 0)) (decide (y < 0)) (dg B x.natAbs) (dg B y.natAbs) m hm (Wd_dg _) (Wd_dg _) (dlen hx) (dlen hy)
  rwa [zv_N, zv_N] at this
theorem hmulZ {x y : Int} {m : Nat} (hx : x.natAbs < B ^ m) (hy : y.natAbs < B ^ m) (hm : m ≤ 100000000) : AFun Try.prog J0 91 [zN x, zN y] (zN (x * y)) := by
  have := hzmul_spec (decide (x < 0)) (decide (y < 0)) (dg B x.natAbs) (dg B y.natAbs) m hm (Wd_dg _) (Wd_dg _) (dlen hx) (dlen hy)
  rwa [zv_N, zv_N] at this
theorem haddN {u v m : Nat} (hu : u < B ^ m) (hv : v < B ^ m) (hm : m ≤ 100000000) : AFun Try.prog J0 57 [.l 1 (W (dg B u)), .l 1 (W (dg B v))] (.o 56 1 (W (dg B (u + v)))) := by
  have := hadd_spec (dg B u) (dg B v) (Wd_dg _) (Wd_dg _) (Nat.le_trans (dlen hu) (by omega)) (Nat.le_trans (dlen hv) (by omega))
  rwa [nv_dgB, nv_dgB] at this
theorem hmulN {u v m : Nat} (hu : u < B ^ m) (hv : v < B ^ m) (hm : m ≤ 100000000) : AFun Try.prog J0 58 [.l 1 (W (dg B u)), .l 1 (W (dg B v))] (.o 56 1 (W (dg B (u * v)))) := by
  have := hmul_spec (dg B u) (dg B v) (Wd_dg _) (Wd_dg _) (Nat.le_trans (dlen hu) (by omega)) (Nat.le_trans (dlen hv) (by omega))
  rwa [nv_dgB, nv_dgB] at this
theorem hcmpN {u v m : Nat} (hu : u < B ^ m) (hv : v < B ^ m) (hm : m ≤ 100000000) : AFun Try.prog J0 73 [.l 1 (W (dg B u)), .l 1 (W (dg B v))] (.i .i64 (sg u v)) := by
  have := hcmpN_spec (dg B u) (dg B v) (Wd_dg _) (Wd_dg _) (Nat.le_trans (dlen hu) (by omega)) (Nat.le_trans (dlen hv) (by omega))
  rwa [nv_dgB, nv_dgB] at this
theorem hzeroN {u m : Nat} (hu : u < B ^ m) (hm : m ≤ 100000000) : AFun Try.prog J0 55 [.l 1 (W (dg B u))] (.b (decide (u = 0))) := by
  have := hzero_spec (dg B u) (Wd_dg _) (Nat.le_trans (dlen hu) (by omega))
  rwa [nv_dgB] at this
-- surd/surdref05.Pow
def a74 : AC := .seq (.reg [⟨some 4, none, .mv (.k .nl)⟩])
  (.seq (.reg [⟨some 7, none, .call 56 [(1, (.k (.i .i64 1)))]⟩, 
      ⟨some 5, none, .mv (.t 7)⟩])
  (.seq (.seq (.reg [⟨some 6, none, .mv (.k (.i .i64 0))⟩])
    (.blk 0
    (.loop
      (.seq (.seq (.reg [⟨some 8, none, .mv (.t 6)⟩, 
              ⟨some 9, none, .mv (.t 1)⟩, 
              ⟨some 10, none, .bin .lss (.t 8) (.t 9)⟩])
          (.cond (.t 10)
          (.skip)
          (.exit 0)))
        (.seq (.blk 1
          (.reg [⟨some 13, none, .mv (.t 5)⟩, 
              ⟨some 14, none, .mv (.t 0)⟩, 
              ⟨some 15, none, .call 58 [(1, (.t 13)), (1, (.t 14))]⟩, 
              ⟨some 5, none, .mv (.t 15)⟩]))
        (.reg [⟨some 11, none, .mv (.t 6)⟩, 
          ⟨some 12, none, .bin .add (.t 11) (.k (.i .i64 1))⟩, 
          ⟨some 6, none, .mv (.t 12)⟩]))))))
  (.seq (.reg [⟨some 16, none, .mv (.t 5)⟩, 
      ⟨some 4, none, .mv (.t 16)⟩])
  (.ret))))
theorem hpow_spec (u k m : Nat) (hu : u < B ^ m) (hm : m * (k + 1) ≤ 100000000) (hm1 : 1 ≤ m) (hk : k < 9223372036854775807) : AFun Try.prog J0 74 [.l 1 (W (dg B u)), .i .i64 (k : Int)] (.o 56 1 (W (dg B (u ^ k)))) := by
  have hw := hword_spec 1 (by decide)
  have bnd : ∀ i, i ≤ k → u ^ i < B ^ (m * (k + 1)) := fun i hi => by
    refine Nat.lt_of_lt_of_le (Nat.lt_of_le_of_lt (Nat.pow_le_pow_left (Nat.le_of_lt hu) i) (Nat.pow_lt_pow_right (a := B ^ m) ?_ (Nat.lt_succ_of_le hi))) (by rw [← Nat.pow_mul]; exact Nat.le_refl _)
    exact Nat.lt_of_lt_of_le (by decide : 1 < B ^ 1) (Nat.pow_le_pow_right (by decide) hm1)
  have hu' : u < B ^ (m * (k + 1)) := Nat.lt_of_lt_of_le hu (Nat.pow_le_pow_right (by decide) (Nat.le_mul_of_pos_right _ (by omega)))
  have hmu := fun i hi => hmulN (bnd i hi) hu' hm
  refine AFun.mk fol J0s Try.func74 rfl (ac := a74) (by kernel_rfl) rfl rfl ?_
  apply vm_start
  unfold a74
  simp only [init_eq, initE]
  have zc21 := hw
  repeat first | (refine hK _ ?_; clear hK K) | simp only [Sv, ↓reduceIte, Nat.reduceEqDiff] | ((first | refine vm_reg (fun K hK => ?_) | refine vm_dreg (fun K hK => ?_) | refine clp_q ?_ | refine clq_mk (by assumption) ?_); simp (disch := (first | omega | assumption)) only [S1, ↓reduceIte, Nat.reduceEqDiff, Nat.reduceAdd, Nat.reduceMul, Nat.reduceDiv, AOp.sb, AOp.mut, ↓Bool.false_eq_true, beq_self_eq_true, ite_self, Nat.reduceLeDiff, Int.reduceEq, Int.reduceSub, Int.reduceAdd, Int.reduceNeg, Int.reduceLT, Int.reduceLE, Nat.reduceLT, bz_F5])
  refine vm_loopA [] Nat (fun i => ⟨[(0, .l 1 (W (dg B u))), (1, .i .i64 (k : Int)), (5, .ow 1 0 (dg B (u ^ i)).length), (6, .i .i64 (i : Int))], [(0, some ⟨56, 1, W (dg B (u ^ i)), true, false⟩)], 1⟩)
    (fun i => i ≤ k) (fun i => k - i) 0 (Nat.zero_le _) (by simp (disch := (first | omega | assumption)) only [Sl, Sa, Sw, ↓reduceIte, Nat.reduceEqDiff, Nat.reduceLT, List.all_nil, List.all_cons, Nat.reduceBneDiff, Nat.reduceAdd, bne_iff_ne, ne_eq, reduceCtorEq, not_false_eq_true, not_true_eq_false, Bool.and_true, Bool.true_and, and_true, true_and, and_self]) (by
    simp (disch := (first | omega | assumption)) only [Sl, Sa, Sw, ↓reduceIte, Nat.reduceEqDiff, Nat.reduceLT, List.all_nil, List.all_cons, Nat.reduceBneDiff, Nat.reduceAdd, bne_iff_ne, ne_eq, reduceCtorEq, not_false_eq_true, not_true_eq_false, Bool.and_true, Bool.true_and, and_true, true_and, and_self, i_eq]
    repeat' first | rfl | omega | (simp only [List.length_append, List.length_cons, List.length_nil]; done) | apply And.intro) ?_
  intro i hi Q' hQ he hr
  by_cases h : (i : Int) < (k : Int)
  · have hc := hmu i hi
    rw [← Nat.pow_succ] at hc
    have zc22 := hc
    repeat first | (refine hK _ ?_; clear hK K) | simp only [Sv, ↓reduceIte, Nat.reduceEqDiff] | ((first | refine vm_reg (fun K hK => ?_) | refine vm_dreg (fun K hK => ?_) | refine clp_q ?_ | refine clq_mk (by assumption) ?_); simp (disch := (first | omega | assumption)) only [S1, ↓reduceIte, Nat.reduceEqDiff, Nat.reduceAdd, Nat.reduceMul, Nat.reduceDiv, AOp.sb, AOp.mut, ↓Bool.false_eq_true, beq_self_eq_true, ite_self, Nat.reduceLeDiff, Int.reduceEq, Int.reduceSub, Int.reduceAdd, Int.reduceNeg, Int.reduceLT, Int.reduceLE, Nat.reduceLT, bz_F5, h])
    refine hQ _ (i + 1) (by omega) (by omega) ?_
    simp (disch := (first | omega | assumption)) only [Sl, Sa, Sw, ↓reduceIte, Nat.reduceEqDiff, Nat.reduceLT, List.all_nil, List.all_cons, Nat.reduceBneDiff, Nat.reduceAdd, bne_iff_ne, ne_eq, reduceCtorEq, not_false_eq_true, not_true_eq_false, Bool.and_true, Bool.true_and, and_true, true_and, and_self, i_eq]
    repeat' first | rfl | omega | (simp only [List.length_append, List.length_cons, List.length_nil]; done) | apply And.intro
  · obtain rfl : i = k := by omega
    repeat first
      | (refine hK _ ?_; clear hK K)
      | ((first | refine vm_reg (fun K hK => ?_) | refine vm_dreg (fun K hK => ?_)); simp (disch := (first | omega | assumption)) only [S1, ↓reduceIte, Nat.reduceEqDiff, Nat.reduceAdd, Nat.reduceMul, Nat.reduceDiv, AOp.sb, AOp.mut, ↓Bool.false_eq_true, beq_self_eq_true, ite_self, Nat.reduceLeDiff, Int.reduceEq, Int.reduceSub, Int.reduceAdd, Int.reduceNeg, Int.reduceLT, Int.reduceLE, Nat.reduceLT, bz_F5, h]; refine hK _ ?_; clear hK K)
      | simp only [Sv, ↓reduceIte, Nat.reduceEqDiff]
    refine he _ _ ?_
    repeat first
      | (refine hK _ ?_; clear hK K)
      | ((first | refine vm_reg (fun K hK => ?_) | refine vm_dreg (fun K hK => ?_)); simp (disch := (first | omega | assumption)) only [S1, ↓reduceIte, Nat.reduceEqDiff, Nat.reduceAdd, Nat.reduceMul, Nat.reduceDiv, AOp.sb, AOp.mut, ↓Bool.false_eq_true, beq_self_eq_true, ite_self, Nat.reduceLeDiff, Int.reduceEq, Int.reduceSub, Int.reduceAdd, Int.reduceNeg, Int.reduceLT, Int.reduceLE, Nat.reduceLT, bz_F5]; refine hK _ ?_; clear hK K)
      | simp only [Sv, ↓reduceIte, Nat.reduceEqDiff]
    simp (disch := (first | omega | assumption)) only [retOk, retN, ret1, retF, ret1F, V.okArg, and_true, true_and, S1, ↓reduceIte, Nat.reduceEqDiff, Nat.reduceAdd, Nat.reduceMul, Nat.reduceDiv, AOp.sb, AOp.mut, ↓Bool.false_eq_true, beq_self_eq_true, ite_self, Nat.reduceLeDiff, Int.reduceEq, Int.reduceSub, Int.reduceAdd, Int.reduceNeg, Int.reduceLT, Int.reduceLE, Nat.reduceLT, bz_F5]
end Go.Proofs.Ytfkldohgiifgbaa
