/-
  nat: bits; div: digits, powers.
-/
import Derived.Test.YtngohbpgdeiodaaP1
import Derived.Test.YtngohbpgdeiodaaGG
namespace Go.Proofs.Ytngohbpgdeiodaa
open Go Go.RowKit Ab
set_option linter.unusedSimpArgs false
set_option linter.unusedVariables false
set_option maxHeartbeats 10000000

/-! ### bits -/
theorem bl_0 : bl 0 = 0 := rfl
theorem bl_dvd {a : List Nat} (ha : Wd a) (h0 : 0 < (tz a).length) : ((((tz a).length : Nat) : Int) - 1) * 64 + ((bl (a.getD ((tz a).length - 1) 0) : Nat) : Int) = ((bl (nv B a) : Nat) : Int) := by
  have hne : tz a ≠ [] := fun h => by rw [h] at h0; simp at h0
  have ht := nv_top (b := B) (tz_tz a) hne
  rw [nv_tz] at ht
  have hl := nv_lt (Lt_tz ha)
  rw [nv_tz] at hl
  obtain ⟨t, hT⟩ : ∃ t, (tz a).length = t + 1 := ⟨(tz a).length - 1, by omega⟩
  rw [hT] at ht hl ⊢
  rw [Nat.add_sub_cancel] at ht ⊢
  have hd := nv_digit (b := B) (by decide) ha t
  rw [Nat.mod_eq_of_lt ((Nat.div_lt_iff_lt_mul (Nat.pow_pos (by decide))).2 (by rw [← Nat.pow_succ']; exact hl))] at hd
  have hp : B ^ t = 2 ^ (64 * t) := by rw [B64, ← Nat.pow_mul]
  have := bl_div (x := nv B a) (n := 64 * t) (by rw [← hp]; exact ht)
  rw [hd, this, ← hp]; omega
-- surd/limb.Bits
def a66 : AC := .seq (.reg [⟨some 2, none, .mv (.k (.i .i64 0))⟩])
  (.seq (.reg [⟨some 4, none, .mv (.t 0)⟩, 
      ⟨some 5, none, .call 89 [(1, (.t 4))]⟩, 
      ⟨some 3, none, .mv (.t 5)⟩])
  (.seq (.seq (.reg [⟨some 6, none, .mv (.t 3)⟩, 
        ⟨some 7, none, .bin .eql (.t 6) (.k (.i .i64 0))⟩])
    (.cond (.t 7)
    (.seq (.reg [⟨some 2, none, .mv (.k (.i .i64 0))⟩])
      (.ret))
    (.skip)))
  (.seq (.reg [⟨some 8, none, .mv (.t 3)⟩, 
      ⟨some 9, none, .bin .sub (.t 8) (.k (.i .i64 1))⟩, 
      ⟨some 10, none, .bin .mul (.t 9) (.k (.i .i64 64))⟩, 
      ⟨some 11, none, .mv (.t 0)⟩, 
      ⟨some 12, none, .mv (.t 3)⟩, 
      ⟨some 13, none, .bin .sub (.t 12) (.k (.i .i64 1))⟩, 
      ⟨some 14, none, .idx 1 (.t 11) (.t 13)⟩, 
      ⟨some 15, none, .ld false 1 (.t 14)⟩, 
      ⟨some 16, none, .call 90 [(1, (.t 15))]⟩, 
      ⟨some 17, none, .bin .add (.t 10) (.t 16)⟩, 
      ⟨some 2, none, .mv (.t 17)⟩])
  (.ret))))
theorem limbBits_spec (a : List Nat) (ha : Wd a) (la : a.length ≤ 10000000000) : AFun Try.prog J0 66 [.l 1 (W a)] (.i .i64 ((bl (nv B a) : Nat) : Int)) := by
  have ht := top_spec a (by omega)
  have hl := tz_len a
  refine AFun.mk fol J0s Try.func66 rfl (ac := a66) (by kernel_rfl) rfl rfl ?_
  apply vm_start
  unfold a66
  simp only [init_eq, initE]
  by_cases h0 : (((tz a).length : Nat) : Int) = 0
  · have e : bl (nv B a) = 0 := by rw [← nv_tz, List.eq_nil_of_length_eq_zero (by omega : (tz a).length = 0)]; rfl
    rw [e]
    have zc1 := ht
    repeat first | (refine hK _ ?_; clear hK K) | simp only [Sv, ↓reduceIte, Nat.reduceEqDiff] | ((first | refine vm_reg (fun K hK => ?_) | refine vm_dreg (fun K hK => ?_) | refine clp_q ?_ | refine clq_mk (by assumption) ?_); simp (disch := (first | omega | assumption)) only [S1, ↓reduceIte, Nat.reduceEqDiff, Nat.reduceAdd, Nat.reduceMul, Nat.reduceDiv, AOp.sb, AOp.mut, ↓Bool.false_eq_true, beq_self_eq_true, ite_self, Nat.reduceLeDiff, Int.reduceEq, Int.reduceSub, Int.reduceAdd, Int.reduceNeg, Int.reduceLT, Int.reduceLE, Nat.reduceLT, wi, tn_nat, Nat.div_one, Nat.mul_one, W_len, W_nf, W_cell, W_nil, W_get, List.length_nil, h0])
    simp (disch := (first | omega | assumption)) only [retOk, retN, ret1, retF, ret1F, V.okArg, and_true, true_and, S1, ↓reduceIte, Nat.reduceEqDiff, Nat.reduceAdd, Nat.reduceMul, Nat.reduceDiv, AOp.sb, AOp.mut, ↓Bool.false_eq_true, beq_self_eq_true, ite_self, Nat.reduceLeDiff, Int.reduceEq, Int.reduceSub, Int.reduceAdd, Int.reduceNeg, Int.reduceLT, Int.reduceLE, Nat.reduceLT, wi, tn_nat, Nat.div_one, Nat.mul_one, W_len, W_nf, W_cell, W_nil, W_get, List.length_nil, h0]
  · have e := bl_dvd ha (by omega)
    have hb := Wd_get ha ((tz a).length - 1)
    have h64 := bl_64 hb
    have hg := len64_spec (a.getD ((tz a).length - 1) 0) hb
    have hidx : ((((tz a).length : Nat) : Int) - 1).toNat = (tz a).length - 1 := by omega
    have zc2 := ht
    have zc3 := hg
    repeat first | (refine hK _ ?_; clear hK K) | simp only [Sv, ↓reduceIte, Nat.reduceEqDiff] | ((first | refine vm_reg (fun K hK => ?_) | refine vm_dreg (fun K hK => ?_) | refine clp_q ?_ | refine clq_mk (by assumption) ?_); simp (disch := (first | omega | assumption)) only [S1, ↓reduceIte, Nat.reduceEqDiff, Nat.reduceAdd, Nat.reduceMul, Nat.reduceDiv, AOp.sb, AOp.mut, ↓Bool.false_eq_true, beq_self_eq_true, ite_self, Nat.reduceLeDiff, Int.reduceEq, Int.reduceSub, Int.reduceAdd, Int.reduceNeg, Int.reduceLT, Int.reduceLE, Nat.reduceLT, wi, tn_nat, Nat.div_one, Nat.mul_one, W_len, W_nf, W_cell, W_nil, W_get, List.length_nil, h0, hidx, e])
    simp (disch := (first | omega | assumption)) only [retOk, retN, ret1, retF, ret1F, V.okArg, and_true, true_and, S1, ↓reduceIte, Nat.reduceEqDiff, Nat.reduceAdd, Nat.reduceMul, Nat.reduceDiv, AOp.sb, AOp.mut, ↓Bool.false_eq_true, beq_self_eq_true, ite_self, Nat.reduceLeDiff, Int.reduceEq, Int.reduceSub, Int.reduceAdd, Int.reduceNeg, Int.reduceLT, Int.reduceLE, Nat.reduceLT, wi, tn_nat, Nat.div_one, Nat.mul_one, W_len, W_nf, W_cell, W_nil, W_get, List.length_nil, h0, hidx, e]
-- surd/nat.Bits
def a34 : AC := .seq (.reg [⟨some 2, none, .mv (.k (.i .i64 0))⟩])
  (.seq (.reg [⟨some 3, none, .mv (.t 0)⟩, 
      ⟨some 4, none, .call 66 [(1, (.t 3))]⟩, 
      ⟨some 2, none, .mv (.t 4)⟩])
  (.ret))
theorem natBits_spec (a : List Nat) (ha : Wd a) (la : a.length ≤ 10000000000) : AFun Try.prog J0 34 [.l 1 (W a)] (.i .i64 ((bl (nv B a) : Nat) : Int)) := by
  have h := limbBits_spec a ha la
  refine AFun.mk fol J0s Try.func34 rfl (ac := a34) (by kernel_rfl) rfl rfl ?_
  apply vm_start
  unfold a34
  simp only [init_eq, initE]
  have zc4 := h
  repeat first | (refine hK _ ?_; clear hK K) | simp only [Sv, ↓reduceIte, Nat.reduceEqDiff] | ((first | refine vm_reg (fun K hK => ?_) | refine vm_dreg (fun K hK => ?_) | refine clp_q ?_ | refine clq_mk (by assumption) ?_); simp (disch := (first | omega | assumption)) only [S1, ↓reduceIte, Nat.reduceEqDiff, Nat.reduceAdd, Nat.reduceMul, Nat.reduceDiv, AOp.sb, AOp.mut, ↓Bool.false_eq_true, beq_self_eq_true, ite_self, Nat.reduceLeDiff, Int.reduceEq, Int.reduceSub, Int.reduceAdd, Int.reduceNeg, Int.reduceLT, Int.reduceLE, Nat.reduceLT, wi, tn_nat, Nat.div_one, Nat.mul_one, W_len, W_nf, W_cell, W_nil, W_get, List.length_nil])
  simp (disch := (first | omega | assumption)) only [retOk, retN, ret1, retF, ret1F, V.okArg, and_true, true_and, S1, ↓reduceIte, Nat.reduceEqDiff, Nat.reduceAdd, Nat.reduceMul, Nat.reduceDiv, AOp.sb, AOp.mut, ↓Bool.false_eq_true, beq_self_eq_true, ite_self, Nat.reduceLeDiff, Int.reduceEq, Int.reduceSub, Int.reduceAdd, Int.reduceNeg, Int.reduceLT, Int.reduceLE, Nat.reduceLT, wi, tn_nat, Nat.div_one, Nat.mul_one, W_len, W_nf, W_cell, W_nil, W_get, List.length_nil]
theorem bl_z {n : Nat} : (((bl n : Nat) : Int) = 0) = (n = 0) := propext ⟨fun h => by
  rcases Nat.eq_zero_or_pos n with h1 | h1
  · exact h1
  · have := bl_pos (x := n) (by omega); omega, fun h => by rw [h]; rfl⟩
theorem bl_len {a : List Nat} (ha : Wd a) : bl (nv B a) ≤ 64 * a.length := by
  rcases Nat.eq_zero_or_pos (nv B a) with h | h
  · rw [h]; exact Nat.zero_le _
  · obtain ⟨h1, h2⟩ := bl_le (x := nv B a) (by omega)
    have h3 := nv_lt ha
    rw [B64, ← Nat.pow_mul] at h3
    have := (Nat.pow_lt_pow_iff_right (by decide : 1 < 2)).1 (Nat.lt_of_le_of_lt h1 h3)
    omega

-- surd/limb.Bit
def a95 : AC := .seq (.reg [⟨some 4, none, .mv (.k (.i .u64 0))⟩, 
      ⟨some 5, none, .mv (.k (.i .i64 0))⟩])
  (.seq (.seq (.reg [⟨some 6, none, .mv (.t 1)⟩, 
        ⟨some 7, none, .bin .lss (.t 6) (.k (.i .i64 0))⟩])
    (.cond (.t 7)
    (.seq (.reg [⟨some 4, none, .mv (.k (.i .u64 0))⟩, 
          ⟨some 5, none, .mv (.k (.i .i64 3))⟩])
      (.ret))
    (.skip)))
  (.seq (.reg [⟨some 8, none, .mv (.t 0)⟩, 
      ⟨some 9, none, .mv (.t 1)⟩, 
      ⟨some 10, none, .bin .quo (.t 9) (.k (.i .i64 64))⟩, 
      ⟨some 11, none, .call 92 [(1, (.t 8)), (1, (.t 10))]⟩, 
      ⟨some 12, none, .mv (.t 1)⟩, 
      ⟨some 13, none, .bin .rem (.t 12) (.k (.i .i64 64))⟩, 
      ⟨some 14, none, .cvt .u64 (.t 13)⟩, 
      ⟨some 15, none, .bin .shr (.t 11) (.t 14)⟩, 
      ⟨some 16, none, .bin .and (.t 15) (.k (.i .u64 1))⟩, 
      ⟨some 4, none, .mv (.t 16)⟩, 
      ⟨some 5, none, .mv (.k (.i .i64 0))⟩])
  (.ret)))
theorem and1 (x : Nat) (h : x < 18446744073709551616) : bits .and .u64 (x : Int) 1 = ((x % 2 : Nat) : Int) := by
  rw [show (1 : Int) = ((1 : Nat) : Int) from rfl, band64 x 1 h (by decide), Nat.and_one_is_mod]
theorem limbBit_spec (a : List Nat) (i : Nat) (ha : Wd a) (hi : i < 9223372036854775808) : AFun Try.prog J0 95 [.l 1 (W a), .i .i64 (i : Int)] (.t [.i .u64 ((nv B a / 2 ^ i % 2 : Nat) : Int), .i .i64 0]) := by
  have hat := at_spec a (i / 64)
  have hw := Wd_get ha (i / 64)
  have hd := nv_digit (b := B) (by decide) ha (i / 64)
  have e : a.getD (i / 64) 0 / 2 ^ (i % 64) % 2 = nv B a / 2 ^ i % 2 := by
    rw [hd, pow_split i, ← Nat.div_div_eq_div_mul]
    generalize nv B a / B ^ (i / 64) = x
    have h64 : i % 64 < 64 := Nat.mod_lt _ (by decide)
    rw [show B = 2 ^ (i % 64) * 2 ^ (64 - i % 64) from by rw [← Nat.pow_add, show i % 64 + (64 - i % 64) = 64 from by omega]; rfl, Nat.mod_mul_right_div_self]
    rw [show 2 ^ (64 - i % 64) = 2 * 2 ^ (63 - i % 64) from by rw [Nat.mul_comm, ← Nat.pow_succ]; congr 1; omega, Nat.mod_mul_right_mod]
  have hm : i % 64 ≤ 64 := by omega
  have hx : a.getD (i / 64) 0 / 2 ^ (i % 64) < 18446744073709551616 := Nat.lt_of_le_of_lt (Nat.div_le_self _ _) hw
  have ha1 := and1 _ hx
  have hsh := shr64 (a.getD (i / 64) 0) (i % 64) hm
  rw [← e]
  have h64 : ¬ (64 : Int) = 0 := by decide
  have hwm : IntKind.u64.wrap ((i % 64 : Nat) : Int) = ((i % 64 : Nat) : Int) := wu ⟨by omega, by omega⟩
  have hn0 : ¬ (i : Int) < 0 := by omega
  refine AFun.mk fol J0s Try.func95 rfl (ac := a95) (by kernel_rfl) rfl rfl ?_
  apply vm_start
  unfold a95
  simp only [init_eq, initE]
  have zc5 := hat
  repeat first | (refine hK _ ?_; clear hK K) | simp only [Sv, ↓reduceIte, Nat.reduceEqDiff] | ((first | refine vm_reg (fun K hK => ?_) | refine vm_dreg (fun K hK => ?_) | refine clp_q ?_ | refine clq_mk (by assumption) ?_); simp (disch := (first | omega | assumption)) only [S1, ↓reduceIte, Nat.reduceEqDiff, Nat.reduceAdd, Nat.reduceMul, Nat.reduceDiv, AOp.sb, AOp.mut, ↓Bool.false_eq_true, beq_self_eq_true, ite_self, Nat.reduceLeDiff, Int.reduceEq, Int.reduceSub, Int.reduceAdd, Int.reduceNeg, Int.reduceLT, Int.reduceLE, Nat.reduceLT, wi, tn_nat, Nat.div_one, Nat.mul_one, W_len, W_nf, W_cell, W_nil, W_get, List.length_nil, hn0, h64, tdiv_64, tmod_64, hwm, tn_nat, hsh, ha1])
  simp (disch := (first | omega | assumption)) only [retOk, retN, ret1, retF, ret1F, V.okArg, and_true, true_and, S1, ↓reduceIte, Nat.reduceEqDiff, Nat.reduceAdd, Nat.reduceMul, Nat.reduceDiv, AOp.sb, AOp.mut, ↓Bool.false_eq_true, beq_self_eq_true, ite_self, Nat.reduceLeDiff, Int.reduceEq, Int.reduceSub, Int.reduceAdd, Int.reduceNeg, Int.reduceLT, Int.reduceLE, Nat.reduceLT, wi, tn_nat, Nat.div_one, Nat.mul_one, W_len, W_nf, W_cell, W_nil, W_get, List.length_nil, hn0, h64, tdiv_64, tmod_64, hwm, tn_nat, hsh, ha1]
-- surd/nat.Bit
def a72 : AC := .seq (.reg [⟨some 4, none, .mv (.k (.b false))⟩])
  (.seq (.reg [⟨some 8, none, .mv (.t 0)⟩, 
      ⟨some 9, none, .mv (.t 1)⟩, 
      ⟨some 10, none, .call 95 [(1, (.t 8)), (1, (.t 9))]⟩, 
      ⟨some 7, none, .mv (.t 10)⟩, 
      ⟨some 11, none, .ext (.t 7) 0⟩, 
      ⟨some 12, none, .ext (.t 7) 1⟩, 
      ⟨some 5, none, .mv (.t 11)⟩, 
      ⟨some 6, none, .mv (.t 12)⟩])
  (.seq (.reg [⟨some 13, none, .mv (.t 6)⟩, 
      ⟨some 14, none, .bin .eql (.t 13) (.k (.i .i64 0))⟩, 
      ⟨some 15, none, .mv (.t 14)⟩, 
      ⟨some 16, some (15, true), .mv (.t 5)⟩, 
      ⟨some 17, some (15, true), .bin .eql (.t 16) (.k (.i .u64 1))⟩, 
      ⟨some 18, none, .pick (.t 15) (.t 17) (.k (.b false))⟩, 
      ⟨some 4, none, .mv (.t 18)⟩])
  (.ret)))
theorem natBit_spec (a : List Nat) (i : Nat) (ha : Wd a) (hi : i < 9223372036854775808) : AFun Try.prog J0 72 [.l 1 (W a), .i .i64 (i : Int)] (.b (decide (nv B a / 2 ^ i % 2 = 1))) := by
  have h := limbBit_spec a i ha hi
  have e : (((nv B a / 2 ^ i % 2 : Nat) : Int) = 1) = (nv B a / 2 ^ i % 2 = 1) := propext (by omega)
  generalize nv B a / 2 ^ i % 2 = x at *
  refine AFun.mk fol J0s Try.func72 rfl (ac := a72) (by kernel_rfl) rfl rfl ?_
  apply vm_start
  unfold a72
  simp only [init_eq, initE]
  have zc6 := h
  repeat first | (refine hK _ ?_; clear hK K) | simp only [Sv, ↓reduceIte, Nat.reduceEqDiff] | ((first | refine vm_reg (fun K hK => ?_) | refine vm_dreg (fun K hK => ?_) | refine clp_q ?_ | refine clq_mk (by assumption) ?_); simp (disch := (first | omega | assumption)) only [S1, ↓reduceIte, Nat.reduceEqDiff, Nat.reduceAdd, Nat.reduceMul, Nat.reduceDiv, AOp.sb, AOp.mut, ↓Bool.false_eq_true, beq_self_eq_true, ite_self, Nat.reduceLeDiff, Int.reduceEq, Int.reduceSub, Int.reduceAdd, Int.reduceNeg, Int.reduceLT, Int.reduceLE, Nat.reduceLT, wi, tn_nat, Nat.div_one, Nat.mul_one, W_len, W_nf, W_cell, W_nil, W_get, List.length_nil, e])
  simp (disch := (first | omega | assumption)) only [retOk, retN, ret1, retF, ret1F, V.okArg, and_true, true_and, S1, ↓reduceIte, Nat.reduceEqDiff, Nat.reduceAdd, Nat.reduceMul, Nat.reduceDiv, AOp.sb, AOp.mut, ↓Bool.false_eq_true, beq_self_eq_true, ite_self, Nat.reduceLeDiff, Int.reduceEq, Int.reduceSub, Int.reduceAdd, Int.reduceNeg, Int.reduceLT, Int.reduceLE, Nat.reduceLT, wi, tn_nat, Nat.div_one, Nat.mul_one, W_len, W_nf, W_cell, W_nil, W_get, List.length_nil, e]

-- surd/div.MulMod
def a40 : AC := .seq (.reg [⟨some 6, none, .mv (.k .nl)⟩, 
      ⟨some 7, none, .mv (.k (.i .i64 0))⟩])
  (.seq (.reg [⟨some 8, none, .mv (.t 0)⟩, 
      ⟨some 9, none, .mv (.t 1)⟩, 
      ⟨some 10, none, .call 36 [(1, (.t 8)), (1, (.t 9))]⟩, 
      ⟨some 11, none, .mv (.t 2)⟩, 
      ⟨some 12, none, .call 17 [(1, (.t 10)), (1, (.t 11))]⟩, 
      ⟨some 13, none, .ext (.t 12) 0⟩, 
      ⟨some 14, none, .ext (.t 12) 1⟩, 
      ⟨some 6, none, .mv (.t 13)⟩, 
      ⟨some 7, none, .mv (.t 14)⟩])
  (.ret))
/-- modulo v, the code -/
theorem mulMod_spec (a b m : List Nat) (ha : Wd a) (hb : Wd b) (hm : Wd m) (la : a.length ≤ 10000000) (lb : b.length ≤ 10000000) (lm : m.length ≤ 10000000) :
    AFun Try.prog J0 40 [.l 1 (W a), .l 1 (W b), .l 1 (W m)] (.t [.l 1 (W (qR (nv B a * nv B b) (nv B m))), .i .i64 (qE (nv B m))]) := by
  have h1 := mul_spec a b ha hb (by omega) (by omega)
  have hl : (dg B (nv B a * nv B b)).length ≤ a.length + b.length := dlen (by rw [Nat.pow_add]; exact Nat.mul_lt_mul_of_lt_of_lt (nv_lt ha) (nv_lt hb))
  have h2 := mod_spec (dg B (nv B a * nv B b)) m (Wd_dg _) hm (by omega) (by omega)
  rw [nv_dgB] at h2
  refine AFun.mk fol J0s Try.func40 rfl (ac := a40) (by kernel_rfl) rfl rfl ?_
  apply vm_start
  unfold a40
  simp only [init_eq, initE]
  have zc7 := h1
  have zc8 := h2
  repeat first | (refine hK _ ?_; clear hK K) | simp only [Sv, ↓reduceIte, Nat.reduceEqDiff] | ((first | refine vm_reg (fun K hK => ?_) | refine vm_dreg (fun K hK => ?_) | refine clp_q ?_ | refine clq_mk (by assumption) ?_); simp (disch := (first | omega | assumption)) only [S1, ↓reduceIte, Nat.reduceEqDiff, Nat.reduceAdd, Nat.reduceMul, Nat.reduceDiv, AOp.sb, AOp.mut, ↓Bool.false_eq_true, beq_self_eq_true, ite_self, Nat.reduceLeDiff, Int.reduceEq, Int.reduceSub, Int.reduceAdd, Int.reduceNeg, Int.reduceLT, Int.reduceLE, Nat.reduceLT, wi, tn_nat, Nat.div_one, Nat.mul_one, W_len, W_nf, W_cell, W_nil, W_get, List.length_nil])
  simp (disch := (first | omega | assumption)) only [retOk, retN, ret1, retF, ret1F, V.okArg, and_true, true_and, S1, ↓reduceIte, Nat.reduceEqDiff, Nat.reduceAdd, Nat.reduceMul, Nat.reduceDiv, AOp.sb, AOp.mut, ↓Bool.false_eq_true, beq_self_eq_true, ite_self, Nat.reduceLeDiff, Int.reduceEq, Int.reduceSub, Int.reduceAdd, Int.reduceNeg, Int.reduceLT, Int.reduceLE, Nat.reduceLT, wi, tn_nat, Nat.div_one, Nat.mul_one, W_len, W_nf, W_cell, W_nil, W_get, List.length_nil]
theorem pw_step {u v k e : Nat} : (u ^ (e / 2 ^ (k + 1)) % v * (u ^ (e / 2 ^ (k + 1)) % v)) % v = u ^ (2 * (e / 2 ^ (k + 1))) % v := by
  rw [← Nat.mul_mod, ← Nat.pow_add, Nat.two_mul]
theorem pw_step1 {u v n : Nat} : (u ^ n % v * u) % v = u ^ (n + 1) % v := by rw [Nat.pow_succ, Nat.mod_mul_mod]
-- surd/div.PowMod
def a39 : AC := .seq (.reg [⟨some 6, none, .mv (.k .nl)⟩, 
      ⟨some 7, none, .mv (.k (.i .i64 0))⟩])
  (.seq (.reg [⟨some 12, none, .call 51 [(1, (.k (.i .u64 1)))]⟩, 
      ⟨some 13, none, .mv (.t 2)⟩, 
      ⟨some 14, none, .call 17 [(1, (.t 12)), (1, (.t 13))]⟩, 
      ⟨some 11, none, .mv (.t 14)⟩, 
      ⟨some 15, none, .ext (.t 11) 0⟩, 
      ⟨some 16, none, .ext (.t 11) 1⟩, 
      ⟨some 8, none, .mv (.t 15)⟩, 
      ⟨some 9, none, .mv (.t 16)⟩])
  (.seq (.seq (.reg [⟨some 17, none, .mv (.t 9)⟩, 
        ⟨some 18, none, .bin .neq (.t 17) (.k (.i .i64 0))⟩])
    (.cond (.t 18)
    (.seq (.reg [⟨some 19, none, .mv (.t 9)⟩, 
          ⟨some 6, none, .mv (.k .nl)⟩, 
          ⟨some 7, none, .mv (.t 19)⟩])
      (.ret))
    (.skip)))
  (.seq (.seq (.reg [⟨some 20, none, .mv (.t 1)⟩, 
        ⟨some 21, none, .call 34 [(1, (.t 20))]⟩, 
        ⟨some 22, none, .bin .sub (.t 21) (.k (.i .i64 1))⟩, 
        ⟨some 10, none, .mv (.t 22)⟩])
    (.blk 0
    (.loop
      (.seq (.seq (.reg [⟨some 23, none, .mv (.t 10)⟩, 
              ⟨some 24, none, .bin .geq (.t 23) (.k (.i .i64 0))⟩])
          (.cond (.t 24)
          (.skip)
          (.exit 0)))
        (.seq (.blk 1
          (.seq (.reg [⟨some 28, none, .mv (.t 8)⟩, 
                ⟨some 29, none, .mv (.t 8)⟩, 
                ⟨some 30, none, .mv (.t 2)⟩, 
                ⟨some 31, none, .call 40 [(1, (.t 28)), (1, (.t 29)), (1, (.t 30))]⟩, 
                ⟨some 27, none, .mv (.t 31)⟩, 
                ⟨some 32, none, .ext (.t 27) 0⟩, 
                ⟨some 33, none, .ext (.t 27) 1⟩, 
                ⟨some 8, none, .mv (.t 32)⟩])
            (.seq (.reg [⟨some 34, none, .mv (.t 1)⟩, 
                ⟨some 35, none, .mv (.t 10)⟩, 
                ⟨some 36, none, .call 72 [(1, (.t 34)), (1, (.t 35))]⟩])
            (.cond (.t 36)
            (.reg [⟨some 38, none, .mv (.t 8)⟩, 
                ⟨some 39, none, .mv (.t 0)⟩, 
                ⟨some 40, none, .mv (.t 2)⟩, 
                ⟨some 41, none, .call 40 [(1, (.t 38)), (1, (.t 39)), (1, (.t 40))]⟩, 
                ⟨some 37, none, .mv (.t 41)⟩, 
                ⟨some 42, none, .ext (.t 37) 0⟩, 
                ⟨some 43, none, .ext (.t 37) 1⟩, 
                ⟨some 8, none, .mv (.t 42)⟩])
            (.skip)))))
        (.reg [⟨some 25, none, .mv (.t 10)⟩, 
          ⟨some 26, none, .bin .sub (.t 25) (.k (.i .i64 1))⟩, 
          ⟨some 10, none, .mv (.t 26)⟩]))))))
  (.seq (.reg [⟨some 44, none, .mv (.t 8)⟩, 
      ⟨some 6, none, .mv (.t 44)⟩, 
      ⟨some 7, none, .mv (.k (.i .i64 0))⟩])
  (.ret)))))
theorem powMod_spec (a e m : List Nat) (ha : Wd a) (he' : Wd e) (hm : Wd m) (la : a.length ≤ 10000000) (le : e.length ≤ 10000000) (lm : m.length ≤ 10000000) :
    AFun Try.prog J0 39 [.l 1 (W a), .l 1 (W e), .l 1 (W m)] (.t [.l 1 (W (qR (nv B a ^ nv B e) (nv B m))), .i .i64 (qE (nv B m))]) := by
  have hof := natOf_spec 1 (by decide)
  have hm1 := mod_spec (dg B 1) m (Wd_dg 1) hm (by decide) (by omega)
  rw [nv1] at hm1
  have hbt := natBits_spec e he' (by omega)
  have hbl := bl_len he'
  have hml := fun u => qR_len (u := u % nv B m) (v := nv B m) (m := m.length)
  have hbit := fun i hi => natBit_spec e i he' hi
  have hsq := fun x (hx : x.length ≤ 10000000) (wx : Wd x) => mulMod_spec x x m wx wx hm hx hx lm
  have hmu := fun x (hx : x.length ≤ 10000000) (wx : Wd x) => mulMod_spec x a m wx ha hm hx la lm
  have hM := nv_lt hm
  generalize nv B a = u at *
  have hE : nv B e / 2 ^ bl (nv B e) = 0 := Nat.div_eq_of_lt (bl_lt _)
  generalize nv B e = x at *
  generalize nv B m = v at *
  refine AFun.mk fol J0s Try.func39 rfl (ac := a39) (by kernel_rfl) rfl rfl ?_
  apply vm_start
  unfold a39
  simp only [init_eq, initE]
  by_cases h0 : v = 0
  · subst h0
    rw [qR_0, qE_0]
    rw [qR_0, qE_0] at hm1
    have zc9 := hof
    have zc10 := hm1
    repeat first | (refine hK _ ?_; clear hK K) | simp only [Sv, ↓reduceIte, Nat.reduceEqDiff] | ((first | refine vm_reg (fun K hK => ?_) | refine vm_dreg (fun K hK => ?_) | refine clp_q ?_ | refine clq_mk (by assumption) ?_); simp (disch := (first | omega | assumption)) only [S1, ↓reduceIte, Nat.reduceEqDiff, Nat.reduceAdd, Nat.reduceMul, Nat.reduceDiv, AOp.sb, AOp.mut, ↓Bool.false_eq_true, beq_self_eq_true, ite_self, Nat.reduceLeDiff, Int.reduceEq, Int.reduceSub, Int.reduceAdd, Int.reduceNeg, Int.reduceLT, Int.reduceLE, Nat.reduceLT, wi, tn_nat, Nat.div_one, Nat.mul_one, W_len, W_nf, W_cell, W_nil, W_get, List.length_nil])
    simp (disch := (first | omega | assumption)) only [retOk, retN, ret1, retF, ret1F, V.okArg, and_true, true_and, S1, ↓reduceIte, Nat.reduceEqDiff, Nat.reduceAdd, Nat.reduceMul, Nat.reduceDiv, AOp.sb, AOp.mut, ↓Bool.false_eq_true, beq_self_eq_true, ite_self, Nat.reduceLeDiff, Int.reduceEq, Int.reduceSub, Int.reduceAdd, Int.reduceNeg, Int.reduceLT, Int.reduceLE, Nat.reduceLT, wi, tn_nat, Nat.div_one, Nat.mul_one, W_len, W_nf, W_cell, W_nil, W_get, List.length_nil]
  · have hv : 0 < v := by omega
    have ev := qE_p hv
    have er : ∀ y, qR y v = dg B (y % v) := fun y => qR_p hv
    have hrl : ∀ y, (dg B (y % v)).length ≤ m.length := fun y => dlen (Nat.lt_trans (Nat.mod_lt _ hv) hM)
    simp only [ev, er] at hm1 hsq hmu ⊢
    obtain ⟨L, hL⟩ : ∃ L, L = bl x := ⟨_, rfl⟩
    rw [← hL] at hbl hbt hE
    have zc11 := hof
    have zc12 := hm1
    have zc13 := hbt
    repeat first | (refine hK _ ?_; clear hK K) | simp only [Sv, ↓reduceIte, Nat.reduceEqDiff] | ((first | refine vm_reg (fun K hK => ?_) | refine vm_dreg (fun K hK => ?_) | refine clp_q ?_ | refine clq_mk (by assumption) ?_); simp (disch := (first | omega | assumption)) only [S1, ↓reduceIte, Nat.reduceEqDiff, Nat.reduceAdd, Nat.reduceMul, Nat.reduceDiv, AOp.sb, AOp.mut, ↓Bool.false_eq_true, beq_self_eq_true, ite_self, Nat.reduceLeDiff, Int.reduceEq, Int.reduceSub, Int.reduceAdd, Int.reduceNeg, Int.reduceLT, Int.reduceLE, Nat.reduceLT, wi, tn_nat, Nat.div_one, Nat.mul_one, W_len, W_nf, W_cell, W_nil, W_get, List.length_nil])
    refine vm_loopA [] Nat (fun i => ⟨[(0, .l 1 (W a)), (1, .l 1 (W e)), (2, .l 1 (W m)), (8, .l 1 (W (dg B (u ^ (x / 2 ^ i) % v)))), (10, .i .i64 ((i : Int) - 1))], [], 0⟩)
      (fun i => i ≤ L) (fun i => i) L (Nat.le_refl _) (by simp (disch := (first | omega | assumption)) only [Sl, Sa, Sw, ↓reduceIte, Nat.reduceEqDiff, Nat.reduceLT, List.all_nil, List.all_cons, Nat.reduceBneDiff, Nat.reduceAdd, bne_iff_ne, ne_eq, reduceCtorEq, not_false_eq_true, not_true_eq_false, Bool.and_true, Bool.true_and, and_true, true_and, and_self]) (by
      simp (disch := (first | omega | assumption)) only [Sl, Sa, Sw, ↓reduceIte, Nat.reduceEqDiff, Nat.reduceLT, List.all_nil, List.all_cons, Nat.reduceBneDiff, Nat.reduceAdd, bne_iff_ne, ne_eq, reduceCtorEq, not_false_eq_true, not_true_eq_false, Bool.and_true, Bool.true_and, and_true, true_and, and_self, i_eq]
      rw [hE, Nat.pow_zero]
      repeat' first | rfl | omega | (simp only [List.length_append, List.length_cons, List.length_nil]; done) | apply And.intro) ?_
    intro i hi Q' hQ he hr
    cases i with
    | zero =>
      rw [Nat.pow_zero, Nat.div_one]
      repeat first
        | (refine hK _ ?_; clear hK K)
        | ((first | refine vm_reg (fun K hK => ?_) | refine vm_dreg (fun K hK => ?_)); simp (disch := (first | omega | assumption)) only [S1, ↓reduceIte, Nat.reduceEqDiff, Nat.reduceAdd, Nat.reduceMul, Nat.reduceDiv, AOp.sb, AOp.mut, ↓Bool.false_eq_true, beq_self_eq_true, ite_self, Nat.reduceLeDiff, Int.reduceEq, Int.reduceSub, Int.reduceAdd, Int.reduceNeg, Int.reduceLT, Int.reduceLE, Nat.reduceLT, wi, tn_nat, Nat.div_one, Nat.mul_one, W_len, W_nf, W_cell, W_nil, W_get, List.length_nil]; refine hK _ ?_; clear hK K)
        | simp only [Sv, ↓reduceIte, Nat.reduceEqDiff]
      refine he _ _ ?_
      repeat first | (refine hK _ ?_; clear hK K) | simp only [Sv, ↓reduceIte, Nat.reduceEqDiff] | ((first | refine vm_reg (fun K hK => ?_) | refine vm_dreg (fun K hK => ?_)); simp (disch := (first | omega | assumption)) only [S1, ↓reduceIte, Nat.reduceEqDiff, Nat.reduceAdd, Nat.reduceMul, Nat.reduceDiv, AOp.sb, AOp.mut, ↓Bool.false_eq_true, beq_self_eq_true, ite_self, Nat.reduceLeDiff, Int.reduceEq, Int.reduceSub, Int.reduceAdd, Int.reduceNeg, Int.reduceLT, Int.reduceLE, Nat.reduceLT, wi, tn_nat, Nat.div_one, Nat.mul_one, W_len, W_nf, W_cell, W_nil, W_get, List.length_nil])
      simp (disch := (first | omega | assumption)) only [retOk, retN, ret1, retF, ret1F, V.okArg, and_true, true_and, S1, ↓reduceIte, Nat.reduceEqDiff, Nat.reduceAdd, Nat.reduceMul, Nat.reduceDiv, AOp.sb, AOp.mut, ↓Bool.false_eq_true, beq_self_eq_true, ite_self, Nat.reduceLeDiff, Int.reduceEq, Int.reduceSub, Int.reduceAdd, Int.reduceNeg, Int.reduceLT, Int.reduceLE, Nat.reduceLT, wi, tn_nat, Nat.div_one, Nat.mul_one, W_len, W_nf, W_cell, W_nil, W_get, List.length_nil]
    | succ k =>
      have hk : (((k + 1 : Nat) : Int) - 1) = (k : Int) := by omega
      have hk0 : (0 : Int) ≤ (k : Int) := by omega
      rw [hk]
      have s1 := hsq (dg B (u ^ (x / 2 ^ (k + 1)) % v)) (by have := hrl (u ^ (x / 2 ^ (k + 1))); omega) (Wd_dg _)
      rw [nv_dgB, pw_step] at s1
      have s2 := hmu (dg B (u ^ (2 * (x / 2 ^ (k + 1))) % v)) (by have := hrl (u ^ (2 * (x / 2 ^ (k + 1)))); omega) (Wd_dg _)
      rw [nv_dgB, pw_step1] at s2
      have hb := hbit k (by omega)
      have hsp := bit_split x k
      by_cases h1 : x / 2 ^ k % 2 = 1
      · rw [show 2 * (x / 2 ^ (k + 1)) + 1 = x / 2 ^ k from by omega] at s2
        have zc14 := s1
        have zc15 := hb
        have zc16 := s2
        repeat first | (refine hK _ ?_; clear hK K) | simp only [Sv, ↓reduceIte, Nat.reduceEqDiff] | ((first | refine vm_reg (fun K hK => ?_) | refine vm_dreg (fun K hK => ?_) | refine clp_q ?_ | refine clq_mk (by assumption) ?_); simp (disch := (first | omega | assumption)) only [S1, ↓reduceIte, Nat.reduceEqDiff, Nat.reduceAdd, Nat.reduceMul, Nat.reduceDiv, AOp.sb, AOp.mut, ↓Bool.false_eq_true, beq_self_eq_true, ite_self, Nat.reduceLeDiff, Int.reduceEq, Int.reduceSub, Int.reduceAdd, Int.reduceNeg, Int.reduceLT, Int.reduceLE, Nat.reduceLT, wi, tn_nat, Nat.div_one, Nat.mul_one, W_len, W_nf, W_cell, W_nil, W_get, List.length_nil, hk0, h1])
        refine hQ _ k (by omega) (by omega) ?_
        simp (disch := (first | omega | assumption)) only [Sl, Sa, Sw, ↓reduceIte, Nat.reduceEqDiff, Nat.reduceLT, List.all_nil, List.all_cons, Nat.reduceBneDiff, Nat.reduceAdd, bne_iff_ne, ne_eq, reduceCtorEq, not_false_eq_true, not_true_eq_false, Bool.and_true, Bool.true_and, and_true, true_and, and_self, i_eq]
        repeat' first | rfl | omega | (simp only [List.length_append, List.length_cons, List.length_nil]; done) | apply And.intro
      · rw [show 2 * (x / 2 ^ (k + 1)) = x / 2 ^ k from by omega] at s1
        have zc17 := s1
        have zc18 := hb
        repeat first | (refine hK _ ?_; clear hK K) | simp only [Sv, ↓reduceIte, Nat.reduceEqDiff] | ((first | refine vm_reg (fun K hK => ?_) | refine vm_dreg (fun K hK => ?_) | refine clp_q ?_ | refine clq_mk (by assumption) ?_); simp (disch := (first | omega | assumption)) only [S1, ↓reduceIte, Nat.reduceEqDiff, Nat.reduceAdd, Nat.reduceMul, Nat.reduceDiv, AOp.sb, AOp.mut, ↓Bool.false_eq_true, beq_self_eq_true, ite_self, Nat.reduceLeDiff, Int.reduceEq, Int.reduceSub, Int.reduceAdd, Int.reduceNeg, Int.reduceLT, Int.reduceLE, Nat.reduceLT, wi, tn_nat, Nat.div_one, Nat.mul_one, W_len, W_nf, W_cell, W_nil, W_get, List.length_nil, hk0, h1])
        refine hQ _ k (by omega) (by omega) ?_
        simp (disch := (first | omega | assumption)) only [Sl, Sa, Sw, ↓reduceIte, Nat.reduceEqDiff, Nat.reduceLT, List.all_nil, List.all_cons, Nat.reduceBneDiff, Nat.reduceAdd, bne_iff_ne, ne_eq, reduceCtorEq, not_false_eq_true, not_true_eq_false, Bool.and_true, Bool.true_and, and_true, true_and, and_self, i_eq]
        repeat' first | rfl | omega | (simp only [List.length_append, List.length_cons, List.length_nil]; done) | apply And.intro

-- surd/div.Digits
def a29 : AC := .seq (.reg [⟨some 4, none, .mv (.k .nl)⟩, 
      ⟨some 5, none, .mv (.k (.i .i64 0))⟩])
  (.seq (.seq (.reg [⟨some 11, none, .mv (.t 1)⟩, 
        ⟨some 12, none, .bin .lss (.t 11) (.k (.i .u64 2))⟩])
    (.cond (.t 12)
    (.seq (.reg [⟨some 4, none, .mv (.k .nl)⟩, 
          ⟨some 5, none, .mv (.k (.i .i64 3))⟩])
      (.ret))
    (.skip)))
  (.seq (.reg [⟨some 6, none, .mv (.k .nl)⟩])
  (.seq (.seq (.reg [⟨some 13, none, .mv (.t 0)⟩, 
        ⟨some 14, none, .call 38 [(1, (.t 13))]⟩, 
        ⟨some 7, none, .mv (.t 14)⟩])
    (.blk 0
    (.loop
      (.seq (.seq (.reg [⟨some 15, none, .mv (.t 7)⟩, 
              ⟨some 16, none, .len (.t 15)⟩, 
              ⟨some 17, none, .bin .gtr (.t 16) (.k (.i .i64 0))⟩])
          (.cond (.t 17)
          (.skip)
          (.exit 0)))
        (.blk 1
        (.seq (.reg [⟨some 19, none, .mv (.t 7)⟩, 
              ⟨some 20, none, .mv (.t 1)⟩, 
              ⟨some 21, none, .call 27 [(1, (.t 19)), (1, (.t 20))]⟩, 
              ⟨some 18, none, .mv (.t 21)⟩, 
              ⟨some 22, none, .ext (.t 18) 0⟩, 
              ⟨some 23, none, .ext (.t 18) 1⟩, 
              ⟨some 24, none, .ext (.t 18) 2⟩, 
              ⟨some 8, none, .mv (.t 22)⟩, 
              ⟨some 9, none, .mv (.t 23)⟩, 
              ⟨some 10, none, .mv (.t 24)⟩])
          (.seq (.seq (.reg [⟨some 25, none, .mv (.t 10)⟩, 
                ⟨some 26, none, .bin .neq (.t 25) (.k (.i .i64 0))⟩])
            (.cond (.t 26)
            (.seq (.reg [⟨some 27, none, .mv (.t 10)⟩, 
                  ⟨some 4, none, .mv (.k .nl)⟩, 
                  ⟨some 5, none, .mv (.t 27)⟩])
              (.ret))
            (.skip)))
          (.seq (.reg [⟨some 28, none, .mv (.t 6)⟩, 
              ⟨some 29, none, .mv (.t 9)⟩, 
              ⟨some 30, none, .bsl 29 1 1 [(.i .u64 0)] [(0, (.t 29))]⟩, 
              ⟨some 31, none, .app 29 1 8 (.t 28) (.t 30)⟩, 
              ⟨some 6, none, .mv (.t 31)⟩])
          (.reg [⟨some 32, none, .mv (.t 8)⟩, 
            ⟨some 7, none, .mv (.t 32)⟩])))))))))
  (.seq (.reg [⟨some 33, none, .mv (.t 6)⟩, 
      ⟨some 4, none, .mv (.t 33)⟩, 
      ⟨some 5, none, .mv (.k (.i .i64 0))⟩])
  (.ret)))))
/-- digits, the code -/
def dgD (u b : Nat) : List Nat := if b < 2 then [] else dg b u
def dgE (b : Nat) : Int := if b < 2 then 3 else 0
theorem digs_spec (a : List Nat) (b : Nat) (ha : Wd a) (hb : b < 18446744073709551616) (la : a.length ≤ 10000000) :
    AFun Try.prog J0 29 [.l 1 (W a), .i .u64 (b : Int)] (.t [.l 1 (W (dgD (nv B a) b)), .i .i64 (dgE b)]) := by
  refine AFun.mk fol J0s Try.func29 rfl (ac := a29) (by kernel_rfl) rfl rfl ?_
  apply vm_start
  unfold a29
  simp only [init_eq, initE]
  by_cases h0 : (b : Int) < 2
  · rw [show dgD (nv B a) b = [] from if_pos (by omega), show dgE b = 3 from if_pos (by omega)]
    repeat first
      | (refine hK _ ?_; clear hK K)
      | ((first | refine vm_reg (fun K hK => ?_) | refine vm_dreg (fun K hK => ?_)); simp (disch := (first | omega | assumption)) only [S1, ↓reduceIte, Nat.reduceEqDiff, Nat.reduceAdd, Nat.reduceMul, Nat.reduceDiv, AOp.sb, AOp.mut, ↓Bool.false_eq_true, beq_self_eq_true, ite_self, Nat.reduceLeDiff, Int.reduceEq, Int.reduceSub, Int.reduceAdd, Int.reduceNeg, Int.reduceLT, Int.reduceLE, Nat.reduceLT, wi, tn_nat, Nat.div_one, Nat.mul_one, W_len, W_nf, W_cell, W_nil, W_get, List.length_nil, h0]; refine hK _ ?_; clear hK K)
      | simp only [Sv, ↓reduceIte, Nat.reduceEqDiff]
    simp (disch := (first | omega | assumption)) only [retOk, retN, ret1, retF, ret1F, V.okArg, and_true, true_and, S1, ↓reduceIte, Nat.reduceEqDiff, Nat.reduceAdd, Nat.reduceMul, Nat.reduceDiv, AOp.sb, AOp.mut, ↓Bool.false_eq_true, beq_self_eq_true, ite_self, Nat.reduceLeDiff, Int.reduceEq, Int.reduceSub, Int.reduceAdd, Int.reduceNeg, Int.reduceLT, Int.reduceLE, Nat.reduceLT, wi, tn_nat, Nat.div_one, Nat.mul_one, W_len, W_nf, W_cell, W_nil, W_get, List.length_nil]
  · have hb2 : 2 ≤ b := by omega
    rw [show dgD (nv B a) b = dg b (nv B a) from if_neg (by omega), show dgE b = 0 from if_neg (by omega)]
    have hn := (norm_dg a ha (by omega)).frozen
    have hA := nv_lt ha
    have hw := fun x (hx : x < B ^ a.length) => word_spec (dg B x) b (Wd_dg x) (by omega) hb (by have := dlen hx; omega)
    simp only [nv_dgB] at hw
    generalize nv B a = u at *
    have hbig : ∀ i, 0 < u / b ^ i → i < 64 * a.length := fun i h => by
      have h1 : b ^ i ≤ u := by
        rcases Nat.lt_or_ge u (b ^ i) with h2 | h2
        · rw [Nat.div_eq_of_lt h2] at h; omega
        · exact h2
      have h2 : 2 ^ i ≤ b ^ i := Nat.pow_le_pow_left hb2 i
      have h3 : 2 ^ i < 2 ^ (64 * a.length) := by rw [Nat.pow_mul, show (2 : Nat) ^ 64 = B from rfl]; omega
      exact (Nat.pow_lt_pow_iff_right (by decide : 1 < 2)).1 h3
    have hbigl : ∀ i, (i = 0 ∨ 0 < u / b ^ (i - 1)) → i ≤ 64 * a.length := fun i h => by
      rcases h with h | h
      · omega
      · have := hbig _ h; omega
    have zc19 := hn
    repeat first | (refine hK _ ?_; clear hK K) | simp only [Sv, ↓reduceIte, Nat.reduceEqDiff] | ((first | refine vm_reg (fun K hK => ?_) | refine vm_dreg (fun K hK => ?_) | refine clp_q ?_ | refine clq_mk (by assumption) ?_); simp (disch := (first | omega | assumption)) only [S1, ↓reduceIte, Nat.reduceEqDiff, Nat.reduceAdd, Nat.reduceMul, Nat.reduceDiv, AOp.sb, AOp.mut, ↓Bool.false_eq_true, beq_self_eq_true, ite_self, Nat.reduceLeDiff, Int.reduceEq, Int.reduceSub, Int.reduceAdd, Int.reduceNeg, Int.reduceLT, Int.reduceLE, Nat.reduceLT, wi, tn_nat, Nat.div_one, Nat.mul_one, W_len, W_nf, W_cell, W_nil, W_get, List.length_nil, h0])
    refine vm_loopA [(6, 29, 1)] Nat (fun i => ⟨[(1, .i .u64 (b : Int)), (6, .ow 1 0 i), (7, .l 1 (W (dg B (u / b ^ i))))], [(0, some ⟨29, 1, W (fl b i u), true, false⟩)], 1⟩)
      (fun i => i = 0 ∨ 0 < u / b ^ (i - 1)) (fun i => u / b ^ i) 0 (.inl rfl) (by simp (disch := (first | omega | assumption)) only [Sl, Sa, Sw, ↓reduceIte, Nat.reduceEqDiff, Nat.reduceLT, List.all_nil, List.all_cons, Nat.reduceBneDiff, Nat.reduceAdd, bne_iff_ne, ne_eq, reduceCtorEq, not_false_eq_true, not_true_eq_false, Bool.and_true, Bool.true_and, and_true, true_and, and_self]) (by
      simp (disch := (first | omega | assumption)) only [Sl, Sa, Sw, ↓reduceIte, Nat.reduceEqDiff, Nat.reduceLT, List.all_nil, List.all_cons, Nat.reduceBneDiff, Nat.reduceAdd, bne_iff_ne, ne_eq, reduceCtorEq, not_false_eq_true, not_true_eq_false, Bool.and_true, Bool.true_and, and_true, true_and, and_self, i_eq]
      rw [Nat.pow_zero, Nat.div_one]
      repeat' first | rfl | omega | (simp only [List.length_append, List.length_cons, List.length_nil]; done) | apply And.intro) ?_
    intro i hi Q' hQ he hr
    have hil := hbigl i hi
    by_cases h1 : u / b ^ i = 0
    · have e : fl b i u = dg b u := by
        refine fl_full hb2 (hi.imp id fun h => ?_) ?_
        · rcases Nat.lt_or_ge u (b ^ (i - 1)) with h2 | h2
          · rw [Nat.div_eq_of_lt h2] at h; omega
          · exact h2
        · rcases Nat.lt_or_ge u (b ^ i) with h2 | h2
          · exact h2
          · have := (Nat.le_div_iff_mul_le (Nat.pow_pos (by omega : 0 < b))).2 (by rw [Nat.one_mul]; exact h2 : 1 * b ^ i ≤ u)
            omega
      rw [h1, dg_zero]
      repeat first
        | (refine hK _ ?_; clear hK K)
        | ((first | refine vm_reg (fun K hK => ?_) | refine vm_dreg (fun K hK => ?_)); simp (disch := (first | omega | assumption)) only [S1, ↓reduceIte, Nat.reduceEqDiff, Nat.reduceAdd, Nat.reduceMul, Nat.reduceDiv, AOp.sb, AOp.mut, ↓Bool.false_eq_true, beq_self_eq_true, ite_self, Nat.reduceLeDiff, Int.reduceEq, Int.reduceSub, Int.reduceAdd, Int.reduceNeg, Int.reduceLT, Int.reduceLE, Nat.reduceLT, wi, tn_nat, Nat.div_one, Nat.mul_one, W_len, W_nf, W_cell, W_nil, W_get, List.length_nil]; refine hK _ ?_; clear hK K)
        | simp only [Sv, ↓reduceIte, Nat.reduceEqDiff]
      refine he _ _ ?_
      repeat first
        | (refine hK _ ?_; clear hK K)
        | ((first | refine vm_reg (fun K hK => ?_) | refine vm_dreg (fun K hK => ?_)); simp (disch := (first | omega | assumption)) only [S1, ↓reduceIte, Nat.reduceEqDiff, Nat.reduceAdd, Nat.reduceMul, Nat.reduceDiv, AOp.sb, AOp.mut, ↓Bool.false_eq_true, beq_self_eq_true, ite_self, Nat.reduceLeDiff, Int.reduceEq, Int.reduceSub, Int.reduceAdd, Int.reduceNeg, Int.reduceLT, Int.reduceLE, Nat.reduceLT, wi, tn_nat, Nat.div_one, Nat.mul_one, W_len, W_nf, W_cell, W_nil, W_get, List.length_nil]; refine hK _ ?_; clear hK K)
        | simp only [Sv, ↓reduceIte, Nat.reduceEqDiff]
      simp (disch := (first | omega | assumption)) only [retOk, retN, ret1, retF, ret1F, V.okArg, and_true, true_and, S1, ↓reduceIte, Nat.reduceEqDiff, Nat.reduceAdd, Nat.reduceMul, Nat.reduceDiv, AOp.sb, AOp.mut, ↓Bool.false_eq_true, beq_self_eq_true, ite_self, Nat.reduceLeDiff, Int.reduceEq, Int.reduceSub, Int.reduceAdd, Int.reduceNeg, Int.reduceLT, Int.reduceLE, Nat.reduceLT, wi, tn_nat, Nat.div_one, Nat.mul_one, W_len, W_nf, W_cell, W_nil, W_get, List.length_nil, e]
    · have hp : 0 < u / b ^ i := Nat.pos_of_ne_zero h1
      have hx : u / b ^ i < B ^ a.length := Nat.lt_of_le_of_lt (Nat.div_le_self _ _) hA
      have hwi := hw _ hx
      have hlt : u / b ^ i / b < u / b ^ i := Nat.div_lt_self hp (by omega)
      rw [Nat.div_div_eq_div_mul, ← Nat.pow_succ] at hwi hlt
      have hpos : (0 : Int) < (((dg B (u / b ^ i)).length : Nat) : Int) := by
        have : (dg B (u / b ^ i)).length ≠ 0 := fun h => h1 ((dg_nil B2).1 (List.eq_nil_of_length_eq_zero h))
        omega
      have zc20 := hwi
      repeat first | (refine hK _ ?_; clear hK K) | simp only [Sv, ↓reduceIte, Nat.reduceEqDiff] | ((first | refine vm_reg (fun K hK => ?_) | refine vm_dreg (fun K hK => ?_) | refine clp_q ?_ | refine clq_mk (by assumption) ?_); simp (disch := (first | omega | assumption)) only [S1, ↓reduceIte, Nat.reduceEqDiff, Nat.reduceAdd, Nat.reduceMul, Nat.reduceDiv, AOp.sb, AOp.mut, ↓Bool.false_eq_true, beq_self_eq_true, ite_self, Nat.reduceLeDiff, Int.reduceEq, Int.reduceSub, Int.reduceAdd, Int.reduceNeg, Int.reduceLT, Int.reduceLE, Nat.reduceLT, wi, tn_nat, Nat.div_one, Nat.mul_one, W_len, W_nf, W_cell, W_nil, W_get, List.length_nil, hpos, W_app1, ← fl_succ])
      refine hQ _ (i + 1) (.inr hp) hlt ?_
      simp (disch := (first | omega | assumption)) only [Sl, Sa, Sw, ↓reduceIte, Nat.reduceEqDiff, Nat.reduceLT, List.all_nil, List.all_cons, Nat.reduceBneDiff, Nat.reduceAdd, bne_iff_ne, ne_eq, reduceCtorEq, not_false_eq_true, not_true_eq_false, Bool.and_true, Bool.true_and, and_true, true_and, and_self, i_eq]
      repeat' first | rfl | omega | (simp only [List.length_append, List.length_cons, List.length_nil]; done) | apply And.intro
end Go.Proofs.Ytngohbpgdeiodaa
