/-
  zz, surdref07: powers, shifts.
-/
import Derived.Test.YtnjjeephbeoakaaDoorZ5
import Derived.Test.YtnjjeephbeoakaaDoorZ6
import Derived.Test.YtnjjeephbeoakaaDoorRSh
import Derived.Test.YtnjjeephbeoakaaDoorZ9
namespace Go.Proofs.YtnjjeephbeoakaaDoor
open Go Go.RowKit Ab
set_option linter.unusedSimpArgs false
set_option linter.unusedVariables false
set_option maxHeartbeats 10000000
theorem bz_Z10 : type_of% (And.intro @Bool.false_and (And.intro @wi (And.intro @tn_nat (And.intro @Nat.div_one (And.intro @Nat.mul_one (And.intro @W_len (And.intro @W_nf (And.intro @W_cell (And.intro @W_nil (And.intro @W_get (@nf_g))))))))))) := And.intro @Bool.false_and (And.intro @wi (And.intro @tn_nat (And.intro @Nat.div_one (And.intro @Nat.mul_one (And.intro @W_len (And.intro @W_nf (And.intro @W_cell (And.intro @W_nil (And.intro @W_get (@nf_g))))))))))

theorem shlR_ok {v n : Nat} (h : n ≤ 1048576) : shlR v (n : Int) = (dg B (v * 2 ^ n), 0) := by unfold shlR; rw [if_neg (by omega)]; rfl
theorem shrR_ok {v n : Nat} : shrR v (n : Int) = (dg B (v / 2 ^ n), 0) := by unfold shrR; rw [if_neg (by omega)]; rfl
theorem lowR_ok {v n : Nat} : lowR v (n : Int) = dg B (v % 2 ^ n) := by unfold lowR; rw [if_neg (by omega)]; rfl
theorem zI_mul2 (s : Bool) (u n : Nat) : zI s (u * 2 ^ n) = zI s u * 2 ^ n := by
  unfold zI; cases s <;> simp [Int.natCast_mul, Int.neg_mul]

/-! ### to the left -/
/-- times 2^n, the code -/
def zlV (x : Int) (n : Int) : Int := if n < 0 ∨ 1048576 < n then 0 else x * 2 ^ n.toNat
def zlE (n : Int) : Int := if n < 0 ∨ 1048576 < n then 3 else 0
theorem shl_len' {u m n e : Nat} (hu : u < B ^ m) (hn : n ≤ 64 * e) : u * 2 ^ n < B ^ (m + e) := by
  have h2n : 2 ^ n ≤ B ^ e := by
    rw [B64, ← Nat.pow_mul]; exact Nat.pow_le_pow_right (by decide) hn
  rw [Nat.pow_add]
  exact Nat.lt_of_lt_of_le (Nat.mul_lt_mul_of_pos_right hu (Nat.two_pow_pos n)) (Nat.mul_le_mul_left _ h2n)
theorem shl_len {u m : Nat} {n : Nat} (hu : u < B ^ m) (hn : n ≤ 1048576) : u * 2 ^ n < B ^ (m + 16384) := shl_len' hu (by omega)
-- surd/zz.Shl
def a11 : AC := .seq (.reg [⟨some 2, none, .bx 25 (.t 0)⟩, 
      ⟨some 4, none, .al 25 [(.b false), (.l 1 [])]⟩, 
      ⟨some 5, none, .mv (.k (.i .i64 0))⟩])
  (.seq (.seq (.reg [⟨some 8, none, .mv (.t 1)⟩, 
        ⟨some 9, none, .bin .lss (.t 8) (.k (.i .i64 0))⟩, 
        ⟨some 10, none, .mv (.t 9)⟩, 
        ⟨some 11, some (10, false), .mv (.t 1)⟩, 
        ⟨some 12, some (10, false), .bin .gtr (.t 11) (.k (.i .i64 1048576))⟩, 
        ⟨some 13, none, .pick (.t 10) (.k (.b true)) (.t 12)⟩])
    (.cond (.t 13)
    (.seq (.reg [⟨some 14, none, .bld [(.b false), (.l 1 [])] []⟩, 
          ⟨none, none, .st 2 (.t 4) (.t 14)⟩, 
          ⟨some 5, none, .mv (.k (.i .i64 3))⟩])
      (.ret))
    (.skip)))
  (.seq (.reg [⟨some 16, none, .fad 1 (.t 2)⟩, 
      ⟨some 17, none, .ld false 1 (.t 16)⟩, 
      ⟨some 18, none, .mv (.t 1)⟩, 
      ⟨some 19, none, .call 38 [(1, (.t 17)), (1, (.t 18))]⟩, 
      ⟨some 15, none, .mv (.t 19)⟩, 
      ⟨some 20, none, .ext (.t 15) 0⟩, 
      ⟨some 21, none, .ext (.t 15) 1⟩, 
      ⟨some 6, none, .mv (.t 20)⟩, 
      ⟨some 7, none, .mv (.t 21)⟩])
  (.seq (.seq (.reg [⟨some 22, none, .mv (.t 7)⟩, 
        ⟨some 23, none, .bin .neq (.t 22) (.k (.i .i64 0))⟩])
    (.cond (.t 23)
    (.seq (.reg [⟨some 24, none, .bld [(.b false), (.l 1 [])] []⟩, 
          ⟨none, none, .st 2 (.t 4) (.t 24)⟩, 
          ⟨some 5, none, .mv (.k (.i .i64 3))⟩])
      (.ret))
    (.skip)))
  (.seq (.reg [⟨some 25, none, .fad 0 (.t 2)⟩, 
      ⟨some 26, none, .ld false 1 (.t 25)⟩, 
      ⟨some 27, none, .mv (.t 6)⟩, 
      ⟨some 28, none, .call 34 [(1, (.t 26)), (1, (.t 27))]⟩, 
      ⟨none, none, .st 2 (.t 4) (.t 28)⟩, 
      ⟨some 5, none, .mv (.k (.i .i64 0))⟩])
  (.ret)))))
theorem zshl_spec (s : Bool) (a : List Nat) (n : Int) (ha : Wd a) (la : a.length ≤ 1000000000) : AFun Tryd.prog J0 11 [zL s a, .i .i64 n] (.t [zN (zlV (zv s a) n), .i .i64 (zlE n)]) := by
  have h := shl_spec a n ha (by omega)
  rw [show zv s a = zI s (nv B a) from rfl]
  by_cases h1 : n < 0
  · rw [show zlV (zI s (nv B a)) n = 0 from if_pos (.inl h1), show zlE n = 3 from if_pos (.inl h1)]
    refine AFun.mkc fol J0s Tryd.func11 rfl (ac := a11) (by kernel_rfl) (rs := [.c 4 true 2, .t 5]) (by kernel_rfl) rfl ?_
    apply vm_start
    unfold a11
    simp only [init_eq, initE]
    repeat first | (refine hK _ ?_; clear hK K) | simp only [Sv, ↓reduceIte, Nat.reduceEqDiff] | ((first | refine vm_reg (fun K hK => ?_) | refine vm_dreg (fun K hK => ?_) | refine vm_dregx (fun K hK => ?_)); simp (disch := (first | omega | assumption)) only [S1, ↓reduceIte, Nat.reduceEqDiff, Nat.reduceAdd, Nat.reduceMul, Nat.reduceDiv, AOp.sb, AOp.mut, ↓Bool.false_eq_true, beq_self_eq_true, ite_self, Nat.reduceLeDiff, Int.reduceEq, Int.reduceSub, Int.reduceAdd, Int.reduceNeg, Int.reduceLT, Int.reduceLE, Nat.reduceLT, bz_Z10, List.length_nil, h1, zN_0])
    simp (disch := (first | omega | assumption)) only [retC, rsVs_nil, rsVs_cons, rsV_t, rsV_c, rsp_pt, rsq_t, rsq_f, ocons_ss, retV_1, retV_2, retNV_nil, retNV_cons, retOk, retN, ret1, retF, ret1F, V.okArg, and_true, true_and, S1, ↓reduceIte, Nat.reduceEqDiff, Nat.reduceAdd, Nat.reduceMul, Nat.reduceDiv, AOp.sb, AOp.mut, ↓Bool.false_eq_true, beq_self_eq_true, ite_self, Nat.reduceLeDiff, Int.reduceEq, Int.reduceSub, Int.reduceAdd, Int.reduceNeg, Int.reduceLT, Int.reduceLE, Nat.reduceLT, bz_Z10, List.length_nil, h1, zN_0]
  · by_cases h2 : 1048576 < n
    · rw [show zlV (zI s (nv B a)) n = 0 from if_pos (.inr h2), show zlE n = 3 from if_pos (.inr h2)]
      refine AFun.mkc fol J0s Tryd.func11 rfl (ac := a11) (by kernel_rfl) (rs := [.c 4 true 2, .t 5]) (by kernel_rfl) rfl ?_
      apply vm_start
      unfold a11
      simp only [init_eq, initE]
      repeat first | (refine hK _ ?_; clear hK K) | simp only [Sv, ↓reduceIte, Nat.reduceEqDiff] | ((first | refine vm_reg (fun K hK => ?_) | refine vm_dreg (fun K hK => ?_) | refine vm_dregx (fun K hK => ?_)); simp (disch := (first | omega | assumption)) only [S1, ↓reduceIte, Nat.reduceEqDiff, Nat.reduceAdd, Nat.reduceMul, Nat.reduceDiv, AOp.sb, AOp.mut, ↓Bool.false_eq_true, beq_self_eq_true, ite_self, Nat.reduceLeDiff, Int.reduceEq, Int.reduceSub, Int.reduceAdd, Int.reduceNeg, Int.reduceLT, Int.reduceLE, Nat.reduceLT, bz_Z10, List.length_nil, h1, h2, zN_0])
      simp (disch := (first | omega | assumption)) only [retC, rsVs_nil, rsVs_cons, rsV_t, rsV_c, rsp_pt, rsq_t, rsq_f, ocons_ss, retV_1, retV_2, retNV_nil, retNV_cons, retOk, retN, ret1, retF, ret1F, V.okArg, and_true, true_and, S1, ↓reduceIte, Nat.reduceEqDiff, Nat.reduceAdd, Nat.reduceMul, Nat.reduceDiv, AOp.sb, AOp.mut, ↓Bool.false_eq_true, beq_self_eq_true, ite_self, Nat.reduceLeDiff, Int.reduceEq, Int.reduceSub, Int.reduceAdd, Int.reduceNeg, Int.reduceLT, Int.reduceLE, Nat.reduceLT, bz_Z10, List.length_nil, h1, h2, zN_0]
    · obtain ⟨k, rfl⟩ : ∃ k : Nat, n = (k : Int) := ⟨n.toNat, by omega⟩
      rw [shlR_ok (by omega)] at h
      have hof := zof_spec s (nv B a * 2 ^ k)
      rw [zI_mul2] at hof
      rw [show zlV (zI s (nv B a)) (k : Int) = zI s (nv B a) * 2 ^ k from if_neg (by omega), show zlE (k : Int) = 0 from if_neg (by omega)]
      generalize zI s (nv B a) * 2 ^ k = z at *
      refine AFun.mkc fol J0s Tryd.func11 rfl (ac := a11) (by kernel_rfl) (rs := [.c 4 true 2, .t 5]) (by kernel_rfl) rfl ?_
      apply vm_start
      unfold a11
      simp only [init_eq, initE]
      have zc1 := h
      have zc2 := hof
      repeat first | (refine hK _ ?_; clear hK K) | simp only [Sv, ↓reduceIte, Nat.reduceEqDiff] | ((first | refine vm_reg (fun K hK => ?_) | refine vm_dreg (fun K hK => ?_) | refine vm_dregx (fun K hK => ?_) | refine clp_q ?_ | refine clq_mk (by assumption) ?_); simp (disch := (first | omega | assumption)) only [S1, ↓reduceIte, Nat.reduceEqDiff, Nat.reduceAdd, Nat.reduceMul, Nat.reduceDiv, AOp.sb, AOp.mut, ↓Bool.false_eq_true, beq_self_eq_true, ite_self, Nat.reduceLeDiff, Int.reduceEq, Int.reduceSub, Int.reduceAdd, Int.reduceNeg, Int.reduceLT, Int.reduceLE, Nat.reduceLT, bz_Z10, List.length_nil, h1, h2])
      simp (disch := (first | omega | assumption)) only [retC, rsVs_nil, rsVs_cons, rsV_t, rsV_c, rsp_pt, rsq_t, rsq_f, ocons_ss, retV_1, retV_2, retNV_nil, retNV_cons, retOk, retN, ret1, retF, ret1F, V.okArg, and_true, true_and, S1, ↓reduceIte, Nat.reduceEqDiff, Nat.reduceAdd, Nat.reduceMul, Nat.reduceDiv, AOp.sb, AOp.mut, ↓Bool.false_eq_true, beq_self_eq_true, ite_self, Nat.reduceLeDiff, Int.reduceEq, Int.reduceSub, Int.reduceAdd, Int.reduceNeg, Int.reduceLT, Int.reduceLE, Nat.reduceLT, bz_Z10, List.length_nil, h1, h2]
-- surd/surdref07.Shl
def a10 : AC := .seq (.reg [⟨some 2, none, .bx 25 (.t 0)⟩, 
      ⟨some 4, none, .al 25 [(.b false), (.l 1 [])]⟩, 
      ⟨some 5, none, .mv (.k (.i .i64 0))⟩])
  (.seq (.reg [⟨some 9, none, .fad 1 (.t 2)⟩, 
      ⟨some 10, none, .ld false 1 (.t 9)⟩, 
      ⟨some 11, none, .mv (.t 1)⟩, 
      ⟨some 12, none, .call 36 [(1, (.t 10)), (1, (.t 11))]⟩, 
      ⟨some 8, none, .mv (.t 12)⟩, 
      ⟨some 13, none, .ext (.t 8) 0⟩, 
      ⟨some 14, none, .ext (.t 8) 1⟩, 
      ⟨some 6, none, .mv (.t 13)⟩, 
      ⟨some 7, none, .mv (.t 14)⟩])
  (.seq (.seq (.reg [⟨some 15, none, .mv (.t 7)⟩, 
        ⟨some 16, none, .bin .neq (.t 15) (.k (.i .i64 0))⟩])
    (.cond (.t 16)
    (.seq (.reg [⟨some 17, none, .bld [(.b false), (.l 1 [])] []⟩, 
          ⟨none, none, .st 2 (.t 4) (.t 17)⟩, 
          ⟨some 5, none, .mv (.k (.i .i64 3))⟩])
      (.ret))
    (.skip)))
  (.seq (.reg [⟨some 18, none, .fad 0 (.t 2)⟩, 
      ⟨some 19, none, .ld false 1 (.t 18)⟩, 
      ⟨some 20, none, .mv (.t 6)⟩, 
      ⟨some 21, none, .call 37 [(1, (.t 19)), (1, (.t 20))]⟩, 
      ⟨none, none, .st 2 (.t 4) (.t 21)⟩, 
      ⟨some 5, none, .mv (.k (.i .i64 0))⟩])
  (.ret))))
theorem rzshl_spec (s : Bool) (a : List Nat) (n : Int) (ha : Wd a) (la : a.length ≤ 900000000) : AFun Tryd.prog J0 10 [zL s a, .i .i64 n] (.t [zN (zlV (zv s a) n), .i .i64 (zlE n)]) := by
  have h := rshl_spec a n ha (by omega)
  rw [show zv s a = zI s (nv B a) from rfl]
  by_cases h1 : n < 0 ∨ 1048576 < n
  · rw [show zlV (zI s (nv B a)) n = 0 from if_pos h1, show zlE n = 3 from if_pos h1]
    rw [show shlR (nv B a) n = ([], 3) from if_pos h1] at h
    refine AFun.mkc fol J0s Tryd.func10 rfl (ac := a10) (by kernel_rfl) (rs := [.c 4 true 2, .t 5]) (by kernel_rfl) rfl ?_
    apply vm_start
    unfold a10
    simp only [init_eq, initE]
    have zc3 := h
    repeat first | (refine hK _ ?_; clear hK K) | simp only [Sv, ↓reduceIte, Nat.reduceEqDiff] | ((first | refine vm_reg (fun K hK => ?_) | refine vm_dreg (fun K hK => ?_) | refine vm_dregx (fun K hK => ?_) | refine clp_q ?_ | refine clq_mk (by assumption) ?_); simp (disch := (first | omega | assumption)) only [S1, ↓reduceIte, Nat.reduceEqDiff, Nat.reduceAdd, Nat.reduceMul, Nat.reduceDiv, AOp.sb, AOp.mut, ↓Bool.false_eq_true, beq_self_eq_true, ite_self, Nat.reduceLeDiff, Int.reduceEq, Int.reduceSub, Int.reduceAdd, Int.reduceNeg, Int.reduceLT, Int.reduceLE, Nat.reduceLT, bz_Z10, List.length_nil, zN_0])
    simp (disch := (first | omega | assumption)) only [retC, rsVs_nil, rsVs_cons, rsV_t, rsV_c, rsp_pt, rsq_t, rsq_f, ocons_ss, retV_1, retV_2, retNV_nil, retNV_cons, retOk, retN, ret1, retF, ret1F, V.okArg, and_true, true_and, S1, ↓reduceIte, Nat.reduceEqDiff, Nat.reduceAdd, Nat.reduceMul, Nat.reduceDiv, AOp.sb, AOp.mut, ↓Bool.false_eq_true, beq_self_eq_true, ite_self, Nat.reduceLeDiff, Int.reduceEq, Int.reduceSub, Int.reduceAdd, Int.reduceNeg, Int.reduceLT, Int.reduceLE, Nat.reduceLT, bz_Z10, List.length_nil, zN_0]
  · obtain ⟨k, rfl⟩ : ∃ k : Nat, n = (k : Int) := ⟨n.toNat, by omega⟩
    rw [shlR_ok (by omega)] at h
    have hof := rmakeD s (m := a.length + 16384) (shl_len (nv_lt ha) (by omega : k ≤ 1048576)) (by omega)
    rw [zI_mul2] at hof
    rw [show zlV (zI s (nv B a)) (k : Int) = zI s (nv B a) * 2 ^ k from if_neg h1, show zlE (k : Int) = 0 from if_neg h1]
    generalize zI s (nv B a) * 2 ^ k = z at *
    refine AFun.mkc fol J0s Tryd.func10 rfl (ac := a10) (by kernel_rfl) (rs := [.c 4 true 2, .t 5]) (by kernel_rfl) rfl ?_
    apply vm_start
    unfold a10
    simp only [init_eq, initE]
    have zc4 := h
    have zc5 := hof
    repeat first | (refine hK _ ?_; clear hK K) | simp only [Sv, ↓reduceIte, Nat.reduceEqDiff] | ((first | refine vm_reg (fun K hK => ?_) | refine vm_dreg (fun K hK => ?_) | refine vm_dregx (fun K hK => ?_) | refine clp_q ?_ | refine clq_mk (by assumption) ?_); simp (disch := (first | omega | assumption)) only [S1, ↓reduceIte, Nat.reduceEqDiff, Nat.reduceAdd, Nat.reduceMul, Nat.reduceDiv, AOp.sb, AOp.mut, ↓Bool.false_eq_true, beq_self_eq_true, ite_self, Nat.reduceLeDiff, Int.reduceEq, Int.reduceSub, Int.reduceAdd, Int.reduceNeg, Int.reduceLT, Int.reduceLE, Nat.reduceLT, bz_Z10, List.length_nil])
    simp (disch := (first | omega | assumption)) only [retC, rsVs_nil, rsVs_cons, rsV_t, rsV_c, rsp_pt, rsq_t, rsq_f, ocons_ss, retV_1, retV_2, retNV_nil, retNV_cons, retOk, retN, ret1, retF, ret1F, V.okArg, and_true, true_and, S1, ↓reduceIte, Nat.reduceEqDiff, Nat.reduceAdd, Nat.reduceMul, Nat.reduceDiv, AOp.sb, AOp.mut, ↓Bool.false_eq_true, beq_self_eq_true, ite_self, Nat.reduceLeDiff, Int.reduceEq, Int.reduceSub, Int.reduceAdd, Int.reduceNeg, Int.reduceLT, Int.reduceLE, Nat.reduceLT, bz_Z10, List.length_nil]

/-! ### to the right -/
def zrV (x : Int) (n : Int) : Int := if n < 0 then 0 else x.fdiv (2 ^ n.toNat)
def zrE (n : Int) : Int := if n < 0 then 3 else 0
theorem zI_fdiv (s : Bool) (u n : Nat) : (zI s u).fdiv (2 ^ n) = zI s (u / 2 ^ n + if s = true ∧ u % 2 ^ n ≠ 0 then 1 else 0) := by
  have hp := Nat.two_pow_pos n
  have e : ((2 : Int) ^ n) = ((2 ^ n : Nat) : Int) := by rw [Int.natCast_pow]; rfl
  rw [e]
  generalize 2 ^ n = d at *
  rw [Int.fdiv_eq_ediv_of_nonneg _ (by omega)]
  cases s
  · simp [zI]
  · simp only [zI, if_true, true_and]
    have hd := Nat.div_add_mod u d
    have hm := Nat.mod_lt u hp
    generalize u / d = q at *
    generalize u % d = r at *
    by_cases hr : r = 0
    · subst hr
      rw [if_neg (by simp), ← hd]
      rw [show (-(((d * q + 0 : Nat) : Int))) = (d : Int) * (-(q : Int)) from by rw [Nat.add_zero, Int.natCast_mul, Int.mul_neg]]
      rw [Int.mul_ediv_cancel_left _ (by omega)]; rfl
    · rw [if_pos hr, ← hd]
      have e2 : (-(((d * q + r : Nat) : Int))) = ((d : Int) - r) + (d : Int) * (-(((q + 1 : Nat) : Int))) := by
        rw [Int.natCast_add, Int.natCast_mul, Int.natCast_add, Int.mul_neg, Int.mul_add]
        simp only [Int.natCast_one, Int.mul_one]
        omega
      rw [e2, Int.add_mul_ediv_left _ _ (by omega), Int.ediv_eq_zero_of_lt (by omega) (by omega), Int.zero_add]
theorem zI_0 (s : Bool) (u : Nat) : zI s u = 0 ↔ u = 0 := by unfold zI; cases s <;> simp
/-- how far is far enough -/
theorem shr_min (s : Bool) (u n : Nat) : (zI s u).fdiv (2 ^ min n (bl u + 1)) = (zI s u).fdiv (2 ^ n) := by
  rcases Nat.le_total n (bl u + 1) with h | h
  · rw [Nat.min_eq_left h]
  · rw [Nat.min_eq_right h, zI_fdiv, zI_fdiv]
    have h1 := bl_lt u
    have h2 : u < 2 ^ (bl u + 1) := Nat.lt_of_lt_of_le h1 (Nat.pow_le_pow_right (by decide) (by omega))
    have h3 : u < 2 ^ n := Nat.lt_of_lt_of_le h2 (Nat.pow_le_pow_right (by decide) h)
    rw [Nat.div_eq_of_lt h2, Nat.div_eq_of_lt h3, Nat.mod_eq_of_lt h2, Nat.mod_eq_of_lt h3]
theorem mod_ct {u n : Nat} (h : u ≠ 0) : (u % 2 ^ n ≠ 0) ↔ ct u < n := by
  obtain ⟨m, hm⟩ := ct_ex h
  generalize ct u = k at *
  have hk := Nat.two_pow_pos k
  constructor
  · intro h1
    rcases Nat.lt_or_ge k n with h2 | h2
    · exact h2
    · exfalso; apply h1
      rw [hm, show 2 ^ k = 2 ^ n * 2 ^ (k - n) from by rw [← Nat.pow_add]; congr 1; omega, Nat.mul_assoc, Nat.mul_mod_right]
  · intro h1 h2
    have h3 : 2 ^ n = 2 ^ k * (2 * 2 ^ (n - k - 1)) := by rw [← Nat.pow_succ', ← Nat.pow_add]; congr 1; omega
    rw [hm, h3, Nat.mul_mod_mul_left] at h2
    have h4 : (2 * m + 1) % (2 * 2 ^ (n - k - 1)) % 2 = (2 * m + 1) % 2 := Nat.mod_mul_right_mod _ _ _
    rcases Nat.mul_eq_zero.1 h2 with h5 | h5
    · omega
    · rw [h5] at h4; omega
theorem shr_le {u m n : Nat} (hu : u < B ^ m) (t : Bool) : u / 2 ^ n + (if t = true ∧ u % 2 ^ n ≠ 0 then 1 else 0) < B ^ (m + 1) := by
  have h1 := Nat.div_le_self u (2 ^ n)
  have h2 : B ^ m * 2 ≤ B ^ (m + 1) := Nat.mul_le_mul_left _ (by decide)
  split <;> omega
-- surd/zz.Shr
def a13 : AC := .seq (.reg [⟨some 2, none, .bx 25 (.t 0)⟩, 
      ⟨some 4, none, .al 25 [(.b false), (.l 1 [])]⟩, 
      ⟨some 5, none, .mv (.k (.i .i64 0))⟩])
  (.seq (.seq (.reg [⟨some 8, none, .mv (.t 1)⟩, 
        ⟨some 9, none, .bin .lss (.t 8) (.k (.i .i64 0))⟩])
    (.cond (.t 9)
    (.seq (.reg [⟨some 10, none, .bld [(.b false), (.l 1 [])] []⟩, 
          ⟨none, none, .st 2 (.t 4) (.t 10)⟩, 
          ⟨some 5, none, .mv (.k (.i .i64 3))⟩])
      (.ret))
    (.skip)))
  (.seq (.reg [⟨some 11, none, .mv (.t 1)⟩, 
      ⟨some 12, none, .ld true 2 (.t 2)⟩, 
      ⟨some 13, none, .call 41 [(1, (.t 12))]⟩, 
      ⟨some 14, none, .bin .add (.t 13) (.k (.i .i64 1))⟩, 
      ⟨some 15, none, .mm false (.t 11) (.t 14)⟩, 
      ⟨some 1, none, .mv (.t 15)⟩])
  (.seq (.reg [⟨some 17, none, .fad 1 (.t 2)⟩, 
      ⟨some 18, none, .ld false 1 (.t 17)⟩, 
      ⟨some 19, none, .mv (.t 1)⟩, 
      ⟨some 20, none, .call 42 [(1, (.t 18)), (1, (.t 19))]⟩, 
      ⟨some 16, none, .mv (.t 20)⟩, 
      ⟨some 21, none, .ext (.t 16) 0⟩, 
      ⟨some 22, none, .ext (.t 16) 1⟩, 
      ⟨some 6, none, .mv (.t 21)⟩, 
      ⟨some 7, none, .mv (.t 22)⟩])
  (.seq (.seq (.reg [⟨some 23, none, .mv (.t 7)⟩, 
        ⟨some 24, none, .bin .neq (.t 23) (.k (.i .i64 0))⟩])
    (.cond (.t 24)
    (.seq (.reg [⟨some 25, none, .bld [(.b false), (.l 1 [])] []⟩, 
          ⟨none, none, .st 2 (.t 4) (.t 25)⟩, 
          ⟨some 5, none, .mv (.k (.i .i64 3))⟩])
      (.ret))
    (.skip)))
  (.seq (.seq (.reg [⟨some 26, none, .ld true 2 (.t 2)⟩, 
        ⟨some 27, none, .call 18 [(1, (.t 26))]⟩, 
        ⟨some 28, none, .bin .lss (.t 27) (.k (.i .i64 0))⟩, 
        ⟨some 29, none, .mv (.t 28)⟩, 
        ⟨some 30, some (29, true), .fad 1 (.t 2)⟩, 
        ⟨some 31, some (29, true), .ld false 1 (.t 30)⟩, 
        ⟨some 32, some (29, true), .call 43 [(1, (.t 31))]⟩, 
        ⟨some 33, some (29, true), .mv (.t 1)⟩, 
        ⟨some 34, some (29, true), .bin .lss (.t 32) (.t 33)⟩, 
        ⟨some 35, none, .pick (.t 29) (.t 34) (.k (.b false))⟩])
    (.cond (.t 35)
    (.reg [⟨some 36, none, .mv (.t 6)⟩, 
        ⟨some 37, none, .call 30 [(1, (.k (.i .u64 1)))]⟩, 
        ⟨some 38, none, .call 44 [(1, (.t 36)), (1, (.t 37))]⟩, 
        ⟨some 6, none, .mv (.t 38)⟩])
    (.skip)))
  (.seq (.reg [⟨some 39, none, .fad 0 (.t 2)⟩, 
      ⟨some 40, none, .ld false 1 (.t 39)⟩, 
      ⟨some 41, none, .mv (.t 6)⟩, 
      ⟨some 42, none, .call 34 [(1, (.t 40)), (1, (.t 41))]⟩, 
      ⟨none, none, .st 2 (.t 4) (.t 42)⟩, 
      ⟨some 5, none, .mv (.k (.i .i64 0))⟩])
  (.ret)))))))
theorem zshr_spec (s : Bool) (a : List Nat) (n : Int) (ha : Wd a) (la : a.length ≤ 100000000) (hn : n < 9223372036854775808) : AFun Tryd.prog J0 13 [zL s a, .i .i64 n] (.t [zN (zrV (zv s a) n), .i .i64 (zrE n)]) := by
  by_cases h1 : n < 0
  · rw [show zrV (zv s a) n = 0 from if_pos h1, show zrE n = 3 from if_pos h1]
    refine AFun.mkc fol J0s Tryd.func13 rfl (ac := a13) (by kernel_rfl) (rs := [.c 4 true 2, .t 5]) (by kernel_rfl) rfl ?_
    apply vm_start
    unfold a13
    simp only [init_eq, initE]
    repeat first | (refine hK _ ?_; clear hK K) | simp only [Sv, ↓reduceIte, Nat.reduceEqDiff] | ((first | refine vm_reg (fun K hK => ?_) | refine vm_dreg (fun K hK => ?_) | refine vm_dregx (fun K hK => ?_)); simp (disch := (first | omega | assumption)) only [S1, ↓reduceIte, Nat.reduceEqDiff, Nat.reduceAdd, Nat.reduceMul, Nat.reduceDiv, AOp.sb, AOp.mut, ↓Bool.false_eq_true, beq_self_eq_true, ite_self, Nat.reduceLeDiff, Int.reduceEq, Int.reduceSub, Int.reduceAdd, Int.reduceNeg, Int.reduceLT, Int.reduceLE, Nat.reduceLT, bz_Z10, List.length_nil, h1, zN_0])
    simp (disch := (first | omega | assumption)) only [retC, rsVs_nil, rsVs_cons, rsV_t, rsV_c, rsp_pt, rsq_t, rsq_f, ocons_ss, retV_1, retV_2, retNV_nil, retNV_cons, retOk, retN, ret1, retF, ret1F, V.okArg, and_true, true_and, S1, ↓reduceIte, Nat.reduceEqDiff, Nat.reduceAdd, Nat.reduceMul, Nat.reduceDiv, AOp.sb, AOp.mut, ↓Bool.false_eq_true, beq_self_eq_true, ite_self, Nat.reduceLeDiff, Int.reduceEq, Int.reduceSub, Int.reduceAdd, Int.reduceNeg, Int.reduceLT, Int.reduceLE, Nat.reduceLT, bz_Z10, List.length_nil, h1, zN_0]
  · obtain ⟨k, rfl⟩ : ∃ k : Nat, n = (k : Int) := ⟨n.toNat, by omega⟩
    rw [show zrV (zv s a) (k : Int) = (zv s a).fdiv (2 ^ k) from if_neg h1, show zrE (k : Int) = 0 from if_neg h1]
    have hbt := zbits_spec s a ha (by omega)
    have hbl := bl_len ha
    have hsg := zsign_spec s a ha (by omega)
    rw [show zv s a = zI s (nv B a) from rfl] at *
    rw [← shr_min s (nv B a) k]
    have hbw : IntKind.i64.wrap (((bl (nv B a) : Nat) : Int) + 1) = ((bl (nv B a) + 1 : Nat) : Int) := by rw [wi (by omega)]; omega
    have hmin : min ((k : Nat) : Int) ((bl (nv B a) + 1 : Nat) : Int) = ((min k (bl (nv B a) + 1) : Nat) : Int) := by omega
    have htw := twos_spec a ha (by omega)
    have hm1 := shr_spec a ((min k (bl (nv B a) + 1) : Nat) : Int) ha (by omega) (by omega)
    rw [shrR_ok] at hm1
    obtain ⟨m, hm⟩ : ∃ m, m = min k (bl (nv B a) + 1) := ⟨_, rfl⟩
    rw [← hm] at hm1 hmin ⊢
    have hof1 := (natOf_spec 1 (by decide)).frozen
    have hu := nv_lt ha
    have hlen := dlen (Nat.lt_of_le_of_lt (Nat.div_le_self (nv B a) (2 ^ m)) hu)
    have hadd := (add_spec (dg B (nv B a / 2 ^ m)) (dg B 1) (Wd_dg _) (Wd_dg _) (by omega) (by have := dlen (show 1 < B ^ 1 by decide); omega)).frozen
    rw [nv_dgB, nv_dgB] at hadd
    rw [zI_fdiv]
    by_cases hs : s = true ∧ nv B a ≠ 0
    · obtain ⟨rfl, hu0⟩ := hs
      have hsn : sgz (zI true (nv B a)) = -1 := if_pos (by show -(nv B a : Int) < 0; omega)
      rw [hsn] at hsg
      have key := mod_ct (n := m) hu0
      by_cases hc : ((ct (nv B a) : Nat) : Int) < (m : Int)
      · have hk : nv B a % 2 ^ m ≠ 0 := key.2 (by omega)
        rw [if_pos ⟨rfl, hk⟩]
        have hof := zof_spec true (nv B a / 2 ^ m + 1)
        refine AFun.mkc fol J0s Tryd.func13 rfl (ac := a13) (by kernel_rfl) (rs := [.c 4 true 2, .t 5]) (by kernel_rfl) rfl ?_
        apply vm_start
        unfold a13
        simp only [init_eq, initE]
        have zc6 := hbt
        have zc7 := hm1
        have zc8 := hsg
        have zc9 := htw
        have zc10 := hof1
        have zc11 := hadd
        have zc12 := hof
        repeat first | (refine hK _ ?_; clear hK K) | simp only [Sv, ↓reduceIte, Nat.reduceEqDiff] | ((first | refine vm_reg (fun K hK => ?_) | refine vm_dreg (fun K hK => ?_) | refine vm_dregx (fun K hK => ?_) | refine clp_q ?_ | refine clq_mk (by assumption) ?_); simp (disch := (first | omega | assumption)) only [S1, ↓reduceIte, Nat.reduceEqDiff, Nat.reduceAdd, Nat.reduceMul, Nat.reduceDiv, AOp.sb, AOp.mut, ↓Bool.false_eq_true, beq_self_eq_true, ite_self, Nat.reduceLeDiff, Int.reduceEq, Int.reduceSub, Int.reduceAdd, Int.reduceNeg, Int.reduceLT, Int.reduceLE, Nat.reduceLT, bz_Z10, List.length_nil, h1, hbw, hmin, hc])
        simp (disch := (first | omega | assumption)) only [retC, rsVs_nil, rsVs_cons, rsV_t, rsV_c, rsp_pt, rsq_t, rsq_f, ocons_ss, retV_1, retV_2, retNV_nil, retNV_cons, retOk, retN, ret1, retF, ret1F, V.okArg, and_true, true_and, S1, ↓reduceIte, Nat.reduceEqDiff, Nat.reduceAdd, Nat.reduceMul, Nat.reduceDiv, AOp.sb, AOp.mut, ↓Bool.false_eq_true, beq_self_eq_true, ite_self, Nat.reduceLeDiff, Int.reduceEq, Int.reduceSub, Int.reduceAdd, Int.reduceNeg, Int.reduceLT, Int.reduceLE, Nat.reduceLT, bz_Z10, List.length_nil, h1, hbw, hmin, hc]
      · have hk : ¬ nv B a % 2 ^ m ≠ 0 := fun h => hc (by have := key.1 h; omega)
        rw [if_neg (fun h => hk h.2), Nat.add_zero]
        have hof := zof_spec true (nv B a / 2 ^ m)
        refine AFun.mkc fol J0s Tryd.func13 rfl (ac := a13) (by kernel_rfl) (rs := [.c 4 true 2, .t 5]) (by kernel_rfl) rfl ?_
        apply vm_start
        unfold a13
        simp only [init_eq, initE]
        have zc13 := hbt
        have zc14 := hm1
        have zc15 := hsg
        have zc16 := htw
        have zc17 := hof
        repeat first | (refine hK _ ?_; clear hK K) | simp only [Sv, ↓reduceIte, Nat.reduceEqDiff] | ((first | refine vm_reg (fun K hK => ?_) | refine vm_dreg (fun K hK => ?_) | refine vm_dregx (fun K hK => ?_) | refine clp_q ?_ | refine clq_mk (by assumption) ?_); simp (disch := (first | omega | assumption)) only [S1, ↓reduceIte, Nat.reduceEqDiff, Nat.reduceAdd, Nat.reduceMul, Nat.reduceDiv, AOp.sb, AOp.mut, ↓Bool.false_eq_true, beq_self_eq_true, ite_self, Nat.reduceLeDiff, Int.reduceEq, Int.reduceSub, Int.reduceAdd, Int.reduceNeg, Int.reduceLT, Int.reduceLE, Nat.reduceLT, bz_Z10, List.length_nil, h1, hbw, hmin, hc])
        simp (disch := (first | omega | assumption)) only [retC, rsVs_nil, rsVs_cons, rsV_t, rsV_c, rsp_pt, rsq_t, rsq_f, ocons_ss, retV_1, retV_2, retNV_nil, retNV_cons, retOk, retN, ret1, retF, ret1F, V.okArg, and_true, true_and, S1, ↓reduceIte, Nat.reduceEqDiff, Nat.reduceAdd, Nat.reduceMul, Nat.reduceDiv, AOp.sb, AOp.mut, ↓Bool.false_eq_true, beq_self_eq_true, ite_self, Nat.reduceLeDiff, Int.reduceEq, Int.reduceSub, Int.reduceAdd, Int.reduceNeg, Int.reduceLT, Int.reduceLE, Nat.reduceLT, bz_Z10, List.length_nil, h1, hbw, hmin, hc]
    · have hk : ¬ (s = true ∧ nv B a % 2 ^ m ≠ 0) := fun h => hs ⟨h.1, fun h0 => h.2 (by rw [h0]; exact Nat.zero_mod _)⟩
      rw [if_neg hk, Nat.add_zero]
      have hsn : ¬ sgz (zI s (nv B a)) < 0 := by
        rw [sgz_neg]
        intro h
        unfold zI at h
        cases s
        · simp at h; omega
        · simp only [if_true] at h; exact hs ⟨rfl, by omega⟩
      have hof := zof_spec s (nv B a / 2 ^ m)
      generalize sgz (zI s (nv B a)) = g at *
      refine AFun.mkc fol J0s Tryd.func13 rfl (ac := a13) (by kernel_rfl) (rs := [.c 4 true 2, .t 5]) (by kernel_rfl) rfl ?_
      apply vm_start
      unfold a13
      simp only [init_eq, initE]
      have zc18 := hbt
      have zc19 := hm1
      have zc20 := hsg
      have zc21 := hof
      repeat first | (refine hK _ ?_; clear hK K) | simp only [Sv, ↓reduceIte, Nat.reduceEqDiff] | ((first | refine vm_reg (fun K hK => ?_) | refine vm_dreg (fun K hK => ?_) | refine vm_dregx (fun K hK => ?_) | refine clp_q ?_ | refine clq_mk (by assumption) ?_); simp (disch := (first | omega | assumption)) only [S1, ↓reduceIte, Nat.reduceEqDiff, Nat.reduceAdd, Nat.reduceMul, Nat.reduceDiv, AOp.sb, AOp.mut, ↓Bool.false_eq_true, beq_self_eq_true, ite_self, Nat.reduceLeDiff, Int.reduceEq, Int.reduceSub, Int.reduceAdd, Int.reduceNeg, Int.reduceLT, Int.reduceLE, Nat.reduceLT, bz_Z10, List.length_nil, h1, hbw, hmin, hsn])
      simp (disch := (first | omega | assumption)) only [retC, rsVs_nil, rsVs_cons, rsV_t, rsV_c, rsp_pt, rsq_t, rsq_f, ocons_ss, retV_1, retV_2, retNV_nil, retNV_cons, retOk, retN, ret1, retF, ret1F, V.okArg, and_true, true_and, S1, ↓reduceIte, Nat.reduceEqDiff, Nat.reduceAdd, Nat.reduceMul, Nat.reduceDiv, AOp.sb, AOp.mut, ↓Bool.false_eq_true, beq_self_eq_true, ite_self, Nat.reduceLeDiff, Int.reduceEq, Int.reduceSub, Int.reduceAdd, Int.reduceNeg, Int.reduceLT, Int.reduceLE, Nat.reduceLT, bz_Z10, List.length_nil, h1, hbw, hmin, hsn]
-- surd/surdref07.Shr
def a12 : AC := .seq (.reg [⟨some 2, none, .bx 25 (.t 0)⟩, 
      ⟨some 4, none, .al 25 [(.b false), (.l 1 [])]⟩, 
      ⟨some 5, none, .mv (.k (.i .i64 0))⟩])
  (.seq (.reg [⟨some 10, none, .fad 1 (.t 2)⟩, 
      ⟨some 11, none, .ld false 1 (.t 10)⟩, 
      ⟨some 12, none, .mv (.t 1)⟩, 
      ⟨some 13, none, .call 39 [(1, (.t 11)), (1, (.t 12))]⟩, 
      ⟨some 9, none, .mv (.t 13)⟩, 
      ⟨some 14, none, .ext (.t 9) 0⟩, 
      ⟨some 15, none, .ext (.t 9) 1⟩, 
      ⟨some 16, none, .ext (.t 9) 2⟩, 
      ⟨some 6, none, .mv (.t 14)⟩, 
      ⟨some 7, none, .mv (.t 15)⟩, 
      ⟨some 8, none, .mv (.t 16)⟩])
  (.seq (.seq (.reg [⟨some 17, none, .mv (.t 8)⟩, 
        ⟨some 18, none, .bin .neq (.t 17) (.k (.i .i64 0))⟩])
    (.cond (.t 18)
    (.seq (.reg [⟨some 19, none, .bld [(.b false), (.l 1 [])] []⟩, 
          ⟨none, none, .st 2 (.t 4) (.t 19)⟩, 
          ⟨some 5, none, .mv (.k (.i .i64 3))⟩])
      (.ret))
    (.skip)))
  (.seq (.seq (.reg [⟨some 20, none, .fad 0 (.t 2)⟩, 
        ⟨some 21, none, .ld false 1 (.t 20)⟩, 
        ⟨some 22, none, .mv (.t 21)⟩, 
        ⟨some 23, some (22, true), .mv (.t 7)⟩, 
        ⟨some 24, some (22, true), .len (.t 23)⟩, 
        ⟨some 25, some (22, true), .bin .gtr (.t 24) (.k (.i .i64 0))⟩, 
        ⟨some 26, none, .pick (.t 22) (.t 25) (.k (.b false))⟩])
    (.cond (.t 26)
    (.reg [⟨some 27, none, .mv (.t 6)⟩, 
        ⟨some 28, none, .bsl 33 1 1 [(.i .u64 0)] [(0, (.k (.i .u64 1)))]⟩, 
        ⟨some 29, none, .call 40 [(1, (.t 27)), (1, (.t 28))]⟩, 
        ⟨some 6, none, .mv (.t 29)⟩])
    (.skip)))
  (.seq (.reg [⟨some 30, none, .fad 0 (.t 2)⟩, 
      ⟨some 31, none, .ld false 1 (.t 30)⟩, 
      ⟨some 32, none, .mv (.t 6)⟩, 
      ⟨some 33, none, .call 37 [(1, (.t 31)), (1, (.t 32))]⟩, 
      ⟨none, none, .st 2 (.t 4) (.t 33)⟩, 
      ⟨some 5, none, .mv (.k (.i .i64 0))⟩])
  (.ret)))))
theorem rzshr_spec (s : Bool) (a : List Nat) (n : Int) (ha : Wd a) (la : a.length ≤ 100000000) (hn : n < 9223372036854775808) : AFun Tryd.prog J0 12 [zL s a, .i .i64 n] (.t [zN (zrV (zv s a) n), .i .i64 (zrE n)]) := by
  have h := rcut_spec a n ha (by omega) hn
  rw [show zv s a = zI s (nv B a) from rfl]
  by_cases h1 : n < 0
  · rw [show zrV (zI s (nv B a)) n = 0 from if_pos h1, show zrE n = 3 from if_pos h1]
    rw [show shrR (nv B a) n = ([], 3) from if_pos h1, show lowR (nv B a) n = [] from if_pos h1] at h
    refine AFun.mkc fol J0s Tryd.func12 rfl (ac := a12) (by kernel_rfl) (rs := [.c 4 true 2, .t 5]) (by kernel_rfl) rfl ?_
    apply vm_start
    unfold a12
    simp only [init_eq, initE]
    have zc22 := h
    repeat first | (refine hK _ ?_; clear hK K) | simp only [Sv, ↓reduceIte, Nat.reduceEqDiff] | ((first | refine vm_reg (fun K hK => ?_) | refine vm_dreg (fun K hK => ?_) | refine vm_dregx (fun K hK => ?_) | refine clp_q ?_ | refine clq_mk (by assumption) ?_); simp (disch := (first | omega | assumption)) only [S1, ↓reduceIte, Nat.reduceEqDiff, Nat.reduceAdd, Nat.reduceMul, Nat.reduceDiv, AOp.sb, AOp.mut, ↓Bool.false_eq_true, beq_self_eq_true, ite_self, Nat.reduceLeDiff, Int.reduceEq, Int.reduceSub, Int.reduceAdd, Int.reduceNeg, Int.reduceLT, Int.reduceLE, Nat.reduceLT, bz_Z10, List.length_nil, zN_0])
    simp (disch := (first | omega | assumption)) only [retC, rsVs_nil, rsVs_cons, rsV_t, rsV_c, rsp_pt, rsq_t, rsq_f, ocons_ss, retV_1, retV_2, retNV_nil, retNV_cons, retOk, retN, ret1, retF, ret1F, V.okArg, and_true, true_and, S1, ↓reduceIte, Nat.reduceEqDiff, Nat.reduceAdd, Nat.reduceMul, Nat.reduceDiv, AOp.sb, AOp.mut, ↓Bool.false_eq_true, beq_self_eq_true, ite_self, Nat.reduceLeDiff, Int.reduceEq, Int.reduceSub, Int.reduceAdd, Int.reduceNeg, Int.reduceLT, Int.reduceLE, Nat.reduceLT, bz_Z10, List.length_nil, zN_0]
  · obtain ⟨k, rfl⟩ : ∃ k : Nat, n = (k : Int) := ⟨n.toNat, by omega⟩
    rw [show zrV (zI s (nv B a)) (k : Int) = (zI s (nv B a)).fdiv (2 ^ k) from if_neg h1, show zrE (k : Int) = 0 from if_neg h1, zI_fdiv]
    rw [shrR_ok, lowR_ok] at h
    have hu := nv_lt ha
    have hlen := dlen (Nat.lt_of_le_of_lt (Nat.div_le_self (nv B a) (2 ^ k)) hu)
    have hadd := (radd_spec (dg B (nv B a / 2 ^ k)) [1] (Wd_dg _) (Wd1 (by decide)) (by omega) (by simp)).frozen
    rw [nv_dgB, show nv B [1] = 1 from rfl] at hadd
    have hmk := rmakeD s (m := a.length + 1) (shr_le (n := k) hu s) (by omega)
    have hl0 : ((0 : Int) < ((dg B (nv B a % 2 ^ k)).length : Int)) = (nv B a % 2 ^ k ≠ 0) := by
      refine propext ⟨fun h e => ?_, fun h => ?_⟩
      · rw [e, dg_zero] at h; simp at h
      · rcases Nat.eq_zero_or_pos (dg B (nv B a % 2 ^ k)).length with h2 | h2
        · exact absurd ((dg_nil B2).1 (List.eq_nil_of_length_eq_zero h2)) h
        · omega
    by_cases hc : s = true ∧ nv B a % 2 ^ k ≠ 0
    · obtain ⟨rfl, hc⟩ := hc
      rw [if_pos ⟨rfl, hc⟩] at hmk ⊢
      rw [eq_true hc] at hl0
      refine AFun.mkc fol J0s Tryd.func12 rfl (ac := a12) (by kernel_rfl) (rs := [.c 4 true 2, .t 5]) (by kernel_rfl) rfl ?_
      apply vm_start
      unfold a12
      simp only [init_eq, initE]
      have zc23 := h
      have zc24 := hadd
      have zc25 := hmk
      repeat first | (refine hK _ ?_; clear hK K) | simp only [Sv, ↓reduceIte, Nat.reduceEqDiff] | ((first | refine vm_reg (fun K hK => ?_) | refine vm_dreg (fun K hK => ?_) | refine vm_dregx (fun K hK => ?_) | refine clp_q ?_ | refine clq_mk (by assumption) ?_); simp (disch := (first | omega | assumption)) only [S1, ↓reduceIte, Nat.reduceEqDiff, Nat.reduceAdd, Nat.reduceMul, Nat.reduceDiv, AOp.sb, AOp.mut, ↓Bool.false_eq_true, beq_self_eq_true, ite_self, Nat.reduceLeDiff, Int.reduceEq, Int.reduceSub, Int.reduceAdd, Int.reduceNeg, Int.reduceLT, Int.reduceLE, Nat.reduceLT, bz_Z10, List.length_nil, hl0, W1])
      simp (disch := (first | omega | assumption)) only [retC, rsVs_nil, rsVs_cons, rsV_t, rsV_c, rsp_pt, rsq_t, rsq_f, ocons_ss, retV_1, retV_2, retNV_nil, retNV_cons, retOk, retN, ret1, retF, ret1F, V.okArg, and_true, true_and, S1, ↓reduceIte, Nat.reduceEqDiff, Nat.reduceAdd, Nat.reduceMul, Nat.reduceDiv, AOp.sb, AOp.mut, ↓Bool.false_eq_true, beq_self_eq_true, ite_self, Nat.reduceLeDiff, Int.reduceEq, Int.reduceSub, Int.reduceAdd, Int.reduceNeg, Int.reduceLT, Int.reduceLE, Nat.reduceLT, bz_Z10, List.length_nil, hl0, W1]
    · rw [if_neg hc, Nat.add_zero] at hmk ⊢
      cases s with
      | false =>
        refine AFun.mkc fol J0s Tryd.func12 rfl (ac := a12) (by kernel_rfl) (rs := [.c 4 true 2, .t 5]) (by kernel_rfl) rfl ?_
        apply vm_start
        unfold a12
        simp only [init_eq, initE]
        have zc26 := h
        have zc27 := hmk
        repeat first | (refine hK _ ?_; clear hK K) | simp only [Sv, ↓reduceIte, Nat.reduceEqDiff] | ((first | refine vm_reg (fun K hK => ?_) | refine vm_dreg (fun K hK => ?_) | refine vm_dregx (fun K hK => ?_) | refine clp_q ?_ | refine clq_mk (by assumption) ?_); simp (disch := (first | omega | assumption)) only [S1, ↓reduceIte, Nat.reduceEqDiff, Nat.reduceAdd, Nat.reduceMul, Nat.reduceDiv, AOp.sb, AOp.mut, ↓Bool.false_eq_true, beq_self_eq_true, ite_self, Nat.reduceLeDiff, Int.reduceEq, Int.reduceSub, Int.reduceAdd, Int.reduceNeg, Int.reduceLT, Int.reduceLE, Nat.reduceLT, bz_Z10, List.length_nil])
        simp (disch := (first | omega | assumption)) only [retC, rsVs_nil, rsVs_cons, rsV_t, rsV_c, rsp_pt, rsq_t, rsq_f, ocons_ss, retV_1, retV_2, retNV_nil, retNV_cons, retOk, retN, ret1, retF, ret1F, V.okArg, and_true, true_and, S1, ↓reduceIte, Nat.reduceEqDiff, Nat.reduceAdd, Nat.reduceMul, Nat.reduceDiv, AOp.sb, AOp.mut, ↓Bool.false_eq_true, beq_self_eq_true, ite_self, Nat.reduceLeDiff, Int.reduceEq, Int.reduceSub, Int.reduceAdd, Int.reduceNeg, Int.reduceLT, Int.reduceLE, Nat.reduceLT, bz_Z10, List.length_nil]
      | true =>
        rw [eq_false (fun h => hc ⟨rfl, h⟩)] at hl0
        refine AFun.mkc fol J0s Tryd.func12 rfl (ac := a12) (by kernel_rfl) (rs := [.c 4 true 2, .t 5]) (by kernel_rfl) rfl ?_
        apply vm_start
        unfold a12
        simp only [init_eq, initE]
        have zc28 := h
        have zc29 := hmk
        repeat first | (refine hK _ ?_; clear hK K) | simp only [Sv, ↓reduceIte, Nat.reduceEqDiff] | ((first | refine vm_reg (fun K hK => ?_) | refine vm_dreg (fun K hK => ?_) | refine vm_dregx (fun K hK => ?_) | refine clp_q ?_ | refine clq_mk (by assumption) ?_); simp (disch := (first | omega | assumption)) only [S1, ↓reduceIte, Nat.reduceEqDiff, Nat.reduceAdd, Nat.reduceMul, Nat.reduceDiv, AOp.sb, AOp.mut, ↓Bool.false_eq_true, beq_self_eq_true, ite_self, Nat.reduceLeDiff, Int.reduceEq, Int.reduceSub, Int.reduceAdd, Int.reduceNeg, Int.reduceLT, Int.reduceLE, Nat.reduceLT, bz_Z10, List.length_nil, hl0])
        simp (disch := (first | omega | assumption)) only [retC, rsVs_nil, rsVs_cons, rsV_t, rsV_c, rsp_pt, rsq_t, rsq_f, ocons_ss, retV_1, retV_2, retNV_nil, retNV_cons, retOk, retN, ret1, retF, ret1F, V.okArg, and_true, true_and, S1, ↓reduceIte, Nat.reduceEqDiff, Nat.reduceAdd, Nat.reduceMul, Nat.reduceDiv, AOp.sb, AOp.mut, ↓Bool.false_eq_true, beq_self_eq_true, ite_self, Nat.reduceLeDiff, Int.reduceEq, Int.reduceSub, Int.reduceAdd, Int.reduceNeg, Int.reduceLT, Int.reduceLE, Nat.reduceLT, bz_Z10, List.length_nil, hl0]

/-! ### powers -/
theorem rzmulN {x y : Int} {m : Nat} (hx : x.natAbs < B ^ m) (hy : y.natAbs < B ^ m) (hm : m ≤ 100000000) : AFun Tryd.prog J0 29 [zN x, zN y] (zN (x * y)) := by
  have := rzmul_spec (decide (x < 0)) (decide (y < 0)) (dg B x.natAbs) (dg B y.natAbs) (Wd_dg _) (Wd_dg _) (Nat.le_trans (dlen hx) hm) (Nat.le_trans (dlen hy) hm)
  rwa [zv_N, zv_N] at this
theorem rzmulL {x : Int} {s : Bool} {a : List Nat} {m : Nat} (hx : x.natAbs < B ^ m) (ha : Wd a) (la : a.length ≤ 100000000) (hm : m ≤ 100000000) : AFun Tryd.prog J0 29 [zN x, zL s a] (zN (x * zv s a)) := by
  have := rzmul_spec (decide (x < 0)) s (dg B x.natAbs) a (Wd_dg _) ha (Nat.le_trans (dlen hx) hm) la
  rwa [zv_N] at this
theorem shrN (n k : Nat) (h : k ≤ 64) : ((n : Nat) : Int).fdiv (2 ^ (min k IntKind.i64.bits)) = ((n / 2 ^ k : Nat) : Int) := by
  rw [show IntKind.i64.bits = 64 from rfl, Nat.min_eq_left h, Int.fdiv_eq_ediv_of_nonneg _ (Int.pow_nonneg (by decide)), show ((2 : Int) ^ k) = ((2 ^ k : Nat) : Int) from by rw [Int.natCast_pow]; rfl]; rfl
-- surd/surdref07.Pow
def a7 : AC := .seq (.reg [⟨some 2, none, .bx 25 (.t 0)⟩, 
      ⟨some 4, none, .al 25 [(.b false), (.l 1 [])]⟩, 
      ⟨some 5, none, .mv (.k (.i .i64 0))⟩])
  (.seq (.seq (.reg [⟨some 8, none, .mv (.t 1)⟩, 
        ⟨some 9, none, .bin .lss (.t 8) (.k (.i .i64 0))⟩, 
        ⟨some 10, none, .mv (.t 9)⟩, 
        ⟨some 11, some (10, false), .mv (.t 1)⟩, 
        ⟨some 12, some (10, false), .bin .gtr (.t 11) (.k (.i .i64 65536))⟩, 
        ⟨some 13, none, .pick (.t 10) (.k (.b true)) (.t 12)⟩])
    (.cond (.t 13)
    (.seq (.reg [⟨some 14, none, .bld [(.b false), (.l 1 [])] []⟩, 
          ⟨none, none, .st 2 (.t 4) (.t 14)⟩, 
          ⟨some 5, none, .mv (.k (.i .i64 3))⟩])
      (.ret))
    (.skip)))
  (.seq (.reg [⟨some 15, none, .call 27 [(1, (.k (.i .i64 1)))]⟩, 
      ⟨some 6, none, .al 25 [(.b false), (.l 1 [])]⟩, 
      ⟨none, none, .st 2 (.t 6) (.t 15)⟩])
  (.seq (.seq (.reg [⟨some 7, none, .mv (.k (.i .i64 16))⟩])
    (.blk 0
    (.loop
      (.seq (.seq (.reg [⟨some 16, none, .mv (.t 7)⟩, 
              ⟨some 17, none, .bin .geq (.t 16) (.k (.i .i64 0))⟩])
          (.cond (.t 17)
          (.skip)
          (.exit 0)))
        (.seq (.blk 1
          (.seq (.reg [⟨some 20, none, .ld true 2 (.t 6)⟩, 
                ⟨some 21, none, .ld true 2 (.t 6)⟩, 
                ⟨some 22, none, .call 29 [(1, (.t 20)), (1, (.t 21))]⟩, 
                ⟨none, none, .st 2 (.t 6) (.t 22)⟩])
            (.seq (.reg [⟨some 23, none, .mv (.t 1)⟩, 
                ⟨some 24, none, .mv (.t 7)⟩, 
                ⟨some 25, none, .bin .shr (.t 23) (.t 24)⟩, 
                ⟨some 26, none, .bin .and (.t 25) (.k (.i .i64 1))⟩, 
                ⟨some 27, none, .bin .eql (.t 26) (.k (.i .i64 1))⟩])
            (.cond (.t 27)
            (.reg [⟨some 28, none, .ld true 2 (.t 6)⟩, 
                ⟨some 29, none, .ld true 2 (.t 2)⟩, 
                ⟨some 30, none, .call 29 [(1, (.t 28)), (1, (.t 29))]⟩, 
                ⟨none, none, .st 2 (.t 6) (.t 30)⟩])
            (.skip)))))
        (.reg [⟨some 18, none, .mv (.t 7)⟩, 
          ⟨some 19, none, .bin .sub (.t 18) (.k (.i .i64 1))⟩, 
          ⟨some 7, none, .mv (.t 19)⟩]))))))
  (.seq (.reg [⟨some 31, none, .ld true 2 (.t 6)⟩, 
      ⟨none, none, .st 2 (.t 4) (.t 31)⟩, 
      ⟨some 5, none, .mv (.k (.i .i64 0))⟩])
  (.ret)))))
theorem rzpow_spec (s : Bool) (a : List Nat) (n m : Nat) (hm : m * (n + 1) + 1 ≤ 100000000) (h1 : 1 ≤ m) (hn : n ≤ 65536) (ha : Wd a) (la : a.length ≤ 100000000) (hu : nv B a < B ^ m) : AFun Tryd.prog J0 7 [zL s a, .i .i64 (n : Int)] (.t [zN ((zv s a) ^ n), .i .i64 0]) := by
  have h0 := rzof_spec 1 (by decide) (by decide)
  have hab := zv_abs s a
  obtain ⟨K, hK⟩ : ∃ K, K = m * (n + 1) + 1 := ⟨_, rfl⟩
  have hb : ∀ e, e ≤ n → ((zv s a) ^ e).natAbs < B ^ K := fun e he => by
    rw [Int.natAbs_pow, hab]
    refine Nat.lt_of_lt_of_le (pow_B hu h1) (Nat.pow_le_pow_right (by decide) ?_)
    have := Nat.mul_le_mul_left m he
    have h2 : m * (n + 1) = m * n + m := Nat.mul_succ m n
    omega
  have hml := fun {z : Int} (hz : z.natAbs < B ^ K) => rzmulL (s := s) hz ha la (by omega)
  have hmm := fun {z : Int} (hz : z.natAbs < B ^ K) => rzmulN hz hz (by omega)
  generalize zv s a = X at *
  have g1 : ¬ (n : Int) < 0 := by omega
  have g2 : ¬ (65536 : Int) < (n : Int) := by omega
  refine AFun.mkc fol J0s Tryd.func7 rfl (ac := a7) (by kernel_rfl) (rs := [.c 4 true 2, .t 5]) (by kernel_rfl) rfl ?_
  apply vm_start
  unfold a7
  simp only [init_eq, initE]
  have zc30 := h0
  repeat first | (refine hK _ ?_; clear hK K) | simp only [Sv, ↓reduceIte, Nat.reduceEqDiff] | ((first | refine vm_reg (fun K hK => ?_) | refine vm_dreg (fun K hK => ?_) | refine vm_dregx (fun K hK => ?_) | refine clp_q ?_ | refine clq_mk (by assumption) ?_); simp (disch := (first | omega | assumption)) only [S1, ↓reduceIte, Nat.reduceEqDiff, Nat.reduceAdd, Nat.reduceMul, Nat.reduceDiv, AOp.sb, AOp.mut, ↓Bool.false_eq_true, beq_self_eq_true, ite_self, Nat.reduceLeDiff, Int.reduceEq, Int.reduceSub, Int.reduceAdd, Int.reduceNeg, Int.reduceLT, Int.reduceLE, Nat.reduceLT, bz_Z10, List.length_nil, g1, g2])
  refine vm_loopA [] (Nat × Int) (fun x => ⟨[(1, .i .i64 (n : Int)), (2, .pt 0 0), (4, .pt 1 0), (6, .pt 2 0), (7, .i .i64 ((x.1 : Int) - 1))],
      [(0, some ⟨25, 2, [.b s, .l 1 (W a)], true, true⟩), (1, some ⟨25, 2, [.b false, .l 1 []], true, true⟩), (2, some ⟨25, 2, [.b (decide (x.2 < 0)), .l 1 (W (dg B x.2.natAbs))], true, true⟩)], 3⟩)
    (fun x => x.1 ≤ 17 ∧ x.2 = X ^ (n / 2 ^ x.1)) (fun x => x.1) (17, 1) ⟨Nat.le_refl _, by show (1 : Int) = X ^ (n / 2 ^ 17); rw [Nat.div_eq_of_lt (by omega : n < 2 ^ 17), Int.pow_zero]⟩ (by simp (disch := (first | omega | assumption)) only [Sl, Sa, Sw, ↓reduceIte, Nat.reduceEqDiff, Nat.reduceLT, List.all_nil, List.all_cons, Nat.reduceBneDiff, Nat.reduceAdd, bne_iff_ne, ne_eq, reduceCtorEq, not_false_eq_true, not_true_eq_false, Bool.and_true, Bool.true_and, and_true, true_and, and_self]) (by
    simp (disch := (first | omega | assumption)) only [Sl, Sa, Sw, ↓reduceIte, Nat.reduceEqDiff, Nat.reduceLT, List.all_nil, List.all_cons, Nat.reduceBneDiff, Nat.reduceAdd, bne_iff_ne, ne_eq, reduceCtorEq, not_false_eq_true, not_true_eq_false, Bool.and_true, Bool.true_and, and_true, true_and, and_self, i_eq]
    repeat' first | rfl | omega | (simp only [List.length_append, List.length_cons, List.length_nil]; done) | apply And.intro) ?_
  rintro ⟨i, z⟩ ⟨hi, hz⟩ Q' hQ he hr
  simp only [] at hi hz ⊢
  cases i with
  | zero =>
    rw [Nat.pow_zero, Nat.div_one] at hz
    subst hz
    repeat first
      | (refine hK _ ?_; clear hK K)
      | ((first | refine vm_reg (fun K hK => ?_) | refine vm_dreg (fun K hK => ?_) | refine vm_dregx (fun K hK => ?_)); simp (disch := (first | omega | assumption)) only [S1, ↓reduceIte, Nat.reduceEqDiff, Nat.reduceAdd, Nat.reduceMul, Nat.reduceDiv, AOp.sb, AOp.mut, ↓Bool.false_eq_true, beq_self_eq_true, ite_self, Nat.reduceLeDiff, Int.reduceEq, Int.reduceSub, Int.reduceAdd, Int.reduceNeg, Int.reduceLT, Int.reduceLE, Nat.reduceLT, bz_Z10, List.length_nil]; refine hK _ ?_; clear hK K)
      | simp only [Sv, ↓reduceIte, Nat.reduceEqDiff]
    refine he _ _ ?_
    repeat first | (refine hK _ ?_; clear hK K) | simp only [Sv, ↓reduceIte, Nat.reduceEqDiff] | ((first | refine vm_reg (fun K hK => ?_) | refine vm_dreg (fun K hK => ?_) | refine vm_dregx (fun K hK => ?_)); simp (disch := (first | omega | assumption)) only [S1, ↓reduceIte, Nat.reduceEqDiff, Nat.reduceAdd, Nat.reduceMul, Nat.reduceDiv, AOp.sb, AOp.mut, ↓Bool.false_eq_true, beq_self_eq_true, ite_self, Nat.reduceLeDiff, Int.reduceEq, Int.reduceSub, Int.reduceAdd, Int.reduceNeg, Int.reduceLT, Int.reduceLE, Nat.reduceLT, bz_Z10, List.length_nil])
    simp (disch := (first | omega | assumption)) only [retC, rsVs_nil, rsVs_cons, rsV_t, rsV_c, rsp_pt, rsq_t, rsq_f, ocons_ss, retV_1, retV_2, retNV_nil, retNV_cons, retOk, retN, ret1, retF, ret1F, V.okArg, and_true, true_and, S1, ↓reduceIte, Nat.reduceEqDiff, Nat.reduceAdd, Nat.reduceMul, Nat.reduceDiv, AOp.sb, AOp.mut, ↓Bool.false_eq_true, beq_self_eq_true, ite_self, Nat.reduceLeDiff, Int.reduceEq, Int.reduceSub, Int.reduceAdd, Int.reduceNeg, Int.reduceLT, Int.reduceLE, Nat.reduceLT, bz_Z10, List.length_nil]
  | succ k =>
    have hk0 : (0 : Int) ≤ ((k + 1 : Nat) : Int) - 1 := by omega
    have hkn : (((k + 1 : Nat) : Int) - 1).toNat = k := by omega
    have hsh := shrN n k (by omega)
    have hle : n / 2 ^ k ≤ n := Nat.div_le_self _ _
    have hbt := band1 (n / 2 ^ k) (by omega)
    have hdv : n / 2 ^ k = 2 * (n / 2 ^ (k + 1)) + n / 2 ^ k % 2 := by
      rw [Nat.pow_succ, ← Nat.div_div_eq_div_mul]; exact (Nat.div_add_mod _ _).symm
    have hzb : z.natAbs < B ^ K := by rw [hz]; exact hb _ (by omega)
    have hzz : z * z = X ^ (2 * (n / 2 ^ (k + 1))) := by rw [hz, ← Int.pow_add]; congr 1; omega
    have hzzb : (z * z).natAbs < B ^ K := by rw [hzz]; exact hb _ (by omega)
    have c1 := hmm hzb
    have hpar := Nat.mod_two_eq_zero_or_one (n / 2 ^ k)
    have bne : (((n / 2 ^ k % 2 : Nat) : Int) = 1) = (n / 2 ^ k % 2 = 1) := propext (by omega)
    rcases hpar with hp | hp
    · have hne : ¬ n / 2 ^ k % 2 = 1 := by omega
      generalize z * z = y at *
      have zc31 := c1
      repeat first | (refine hK _ ?_; clear hK K) | simp only [Sv, ↓reduceIte, Nat.reduceEqDiff] | ((first | refine vm_reg (fun K hK => ?_) | refine vm_dreg (fun K hK => ?_) | refine vm_dregx (fun K hK => ?_) | refine clp_q ?_ | refine clq_mk (by assumption) ?_); simp (disch := (first | omega | assumption)) only [S1, ↓reduceIte, Nat.reduceEqDiff, Nat.reduceAdd, Nat.reduceMul, Nat.reduceDiv, AOp.sb, AOp.mut, ↓Bool.false_eq_true, beq_self_eq_true, ite_self, Nat.reduceLeDiff, Int.reduceEq, Int.reduceSub, Int.reduceAdd, Int.reduceNeg, Int.reduceLT, Int.reduceLE, Nat.reduceLT, bz_Z10, List.length_nil, hk0, hkn, hsh, hbt, bne, hne])
      refine hQ _ (k, y) ⟨by simp only; omega, by simp only; rw [hzz]; congr 1; omega⟩ (by simp only; omega) ?_
      simp (disch := (first | omega | assumption)) only [Sl, Sa, Sw, ↓reduceIte, Nat.reduceEqDiff, Nat.reduceLT, List.all_nil, List.all_cons, Nat.reduceBneDiff, Nat.reduceAdd, bne_iff_ne, ne_eq, reduceCtorEq, not_false_eq_true, not_true_eq_false, Bool.and_true, Bool.true_and, and_true, true_and, and_self, i_eq]
      repeat' first | rfl | omega | (simp only [List.length_append, List.length_cons, List.length_nil]; done) | apply And.intro
    · have c2 := hml hzzb
      have hyx : z * z * X = X ^ (n / 2 ^ k) := by rw [hzz, ← Int.pow_succ]; congr 1; omega
      generalize z * z = y at *
      generalize y * X = w at *
      have zc32 := c1
      have zc33 := c2
      repeat first | (refine hK _ ?_; clear hK K) | simp only [Sv, ↓reduceIte, Nat.reduceEqDiff] | ((first | refine vm_reg (fun K hK => ?_) | refine vm_dreg (fun K hK => ?_) | refine vm_dregx (fun K hK => ?_) | refine clp_q ?_ | refine clq_mk (by assumption) ?_); simp (disch := (first | omega | assumption)) only [S1, ↓reduceIte, Nat.reduceEqDiff, Nat.reduceAdd, Nat.reduceMul, Nat.reduceDiv, AOp.sb, AOp.mut, ↓Bool.false_eq_true, beq_self_eq_true, ite_self, Nat.reduceLeDiff, Int.reduceEq, Int.reduceSub, Int.reduceAdd, Int.reduceNeg, Int.reduceLT, Int.reduceLE, Nat.reduceLT, bz_Z10, List.length_nil, hk0, hkn, hsh, hbt, bne, hp])
      refine hQ _ (k, w) ⟨by simp only; omega, hyx⟩ (by simp only; omega) ?_
      simp (disch := (first | omega | assumption)) only [Sl, Sa, Sw, ↓reduceIte, Nat.reduceEqDiff, Nat.reduceLT, List.all_nil, List.all_cons, Nat.reduceBneDiff, Nat.reduceAdd, bne_iff_ne, ne_eq, reduceCtorEq, not_false_eq_true, not_true_eq_false, Bool.and_true, Bool.true_and, and_true, true_and, and_self, i_eq]
      repeat' first | rfl | omega | (simp only [List.length_append, List.length_cons, List.length_nil]; done) | apply And.intro
theorem rzpowE_spec (s : Bool) (a : List Nat) (n : Int) (h : n < 0 ∨ 65536 < n) : AFun Tryd.prog J0 7 [zL s a, .i .i64 n] (.t [zN 0, .i .i64 3]) := by
  by_cases h1 : n < 0
  · refine AFun.mkc fol J0s Tryd.func7 rfl (ac := a7) (by kernel_rfl) (rs := [.c 4 true 2, .t 5]) (by kernel_rfl) rfl ?_
    apply vm_start
    unfold a7
    simp only [init_eq, initE]
    repeat first | (refine hK _ ?_; clear hK K) | simp only [Sv, ↓reduceIte, Nat.reduceEqDiff] | ((first | refine vm_reg (fun K hK => ?_) | refine vm_dreg (fun K hK => ?_) | refine vm_dregx (fun K hK => ?_)); simp (disch := (first | omega | assumption)) only [S1, ↓reduceIte, Nat.reduceEqDiff, Nat.reduceAdd, Nat.reduceMul, Nat.reduceDiv, AOp.sb, AOp.mut, ↓Bool.false_eq_true, beq_self_eq_true, ite_self, Nat.reduceLeDiff, Int.reduceEq, Int.reduceSub, Int.reduceAdd, Int.reduceNeg, Int.reduceLT, Int.reduceLE, Nat.reduceLT, bz_Z10, List.length_nil, h1, zN_0])
    simp (disch := (first | omega | assumption)) only [retC, rsVs_nil, rsVs_cons, rsV_t, rsV_c, rsp_pt, rsq_t, rsq_f, ocons_ss, retV_1, retV_2, retNV_nil, retNV_cons, retOk, retN, ret1, retF, ret1F, V.okArg, and_true, true_and, S1, ↓reduceIte, Nat.reduceEqDiff, Nat.reduceAdd, Nat.reduceMul, Nat.reduceDiv, AOp.sb, AOp.mut, ↓Bool.false_eq_true, beq_self_eq_true, ite_self, Nat.reduceLeDiff, Int.reduceEq, Int.reduceSub, Int.reduceAdd, Int.reduceNeg, Int.reduceLT, Int.reduceLE, Nat.reduceLT, bz_Z10, List.length_nil, h1, zN_0]
  · have h2 : 65536 < n := by omega
    refine AFun.mkc fol J0s Tryd.func7 rfl (ac := a7) (by kernel_rfl) (rs := [.c 4 true 2, .t 5]) (by kernel_rfl) rfl ?_
    apply vm_start
    unfold a7
    simp only [init_eq, initE]
    repeat first | (refine hK _ ?_; clear hK K) | simp only [Sv, ↓reduceIte, Nat.reduceEqDiff] | ((first | refine vm_reg (fun K hK => ?_) | refine vm_dreg (fun K hK => ?_) | refine vm_dregx (fun K hK => ?_)); simp (disch := (first | omega | assumption)) only [S1, ↓reduceIte, Nat.reduceEqDiff, Nat.reduceAdd, Nat.reduceMul, Nat.reduceDiv, AOp.sb, AOp.mut, ↓Bool.false_eq_true, beq_self_eq_true, ite_self, Nat.reduceLeDiff, Int.reduceEq, Int.reduceSub, Int.reduceAdd, Int.reduceNeg, Int.reduceLT, Int.reduceLE, Nat.reduceLT, bz_Z10, List.length_nil, h1, h2, zN_0])
    simp (disch := (first | omega | assumption)) only [retC, rsVs_nil, rsVs_cons, rsV_t, rsV_c, rsp_pt, rsq_t, rsq_f, ocons_ss, retV_1, retV_2, retNV_nil, retNV_cons, retOk, retN, ret1, retF, ret1F, V.okArg, and_true, true_and, S1, ↓reduceIte, Nat.reduceEqDiff, Nat.reduceAdd, Nat.reduceMul, Nat.reduceDiv, AOp.sb, AOp.mut, ↓Bool.false_eq_true, beq_self_eq_true, ite_self, Nat.reduceLeDiff, Int.reduceEq, Int.reduceSub, Int.reduceAdd, Int.reduceNeg, Int.reduceLT, Int.reduceLE, Nat.reduceLT, bz_Z10, List.length_nil, h1, h2, zN_0]
end Go.Proofs.YtnjjeephbeoakaaDoor
