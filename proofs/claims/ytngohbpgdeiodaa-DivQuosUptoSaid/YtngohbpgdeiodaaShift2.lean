/-
  nat, surdref02: shifts and cuts; NatShifts, the law's walk.
-/
import Derived.Test.YtngohbpgdeiodaaShift
import Derived.Test.YtngohbpgdeiodaaRef6
namespace Go.Proofs.Ytngohbpgdeiodaa
open Go Go.RowKit Ab
set_option linter.unusedSimpArgs false
set_option linter.unusedVariables false
set_option maxHeartbeats 10000000

theorem nv_dgB (v : Nat) : nv B (dg B v) = v := nv_dg B2 v
theorem Wd_dg (v : Nat) : Wd (dg B v) := dg_Lt B0 v
theorem dlen {v k : Nat} (h : v < B ^ k) : (dg B v).length ≤ k := dg_len B2 h
theorem nvlt {a : List Nat} {m : Nat} (ha : Wd a) (la : a.length ≤ m) : nv B a < B ^ m := Nat.lt_of_lt_of_le (nv_lt ha) (Nat.pow_le_pow_right B0 la)
theorem pup {v k m : Nat} (h : v < B ^ k) (hk : k ≤ m) : v < B ^ m := Nat.lt_of_lt_of_le h (Nat.pow_le_pow_right B0 hk)
theorem padd {u v k : Nat} (h : u < B ^ k) (h' : v < B ^ k) : u + v < B ^ (k + 1) := by
  have h5 : B ^ k * 2 ≤ B ^ (k + 1) := Nat.mul_le_mul_left _ B2
  omega
theorem same_true {a b : List Nat} (h : a = b) (la : a.length ≤ 1099511627776) : AFun Try.prog J0 14 [.l 1 (W a), .l 1 (W b)] (.b true) := by
  have := same_spec a b (by omega) (by rw [← h]; omega)
  rwa [show decide (a = b) = true from decide_eq_true h] at this
theorem own_dg (a : List Nat) (ha : Wd a) (la : a.length ≤ 1099511627776) : AFun Try.prog J0 68 [.l 1 (W a)] (.o 29 1 (W (dg B (nv B a)))) := by
  have := own_spec a la
  rwa [tz_dg B2 ha] at this
theorem nv_mod {b : Nat} {l : List Nat} (hb : 0 < b) (h : Lt b l) (i : Nat) : nv b (l.take i) = nv b l % b ^ i := by
  rcases Nat.lt_or_ge l.length i with h1 | h1
  · rw [List.take_of_length_le (by omega), Nat.mod_eq_of_lt (Nat.lt_of_lt_of_le (nv_lt h) (Nat.pow_le_pow_right hb (by omega)))]
  · rw [nv_take_drop l i h1, Nat.add_mul_mod_self_left, Nat.mod_eq_of_lt (nv_take_lt hb h i)]
theorem shl1 (r : Nat) (h : r < 64) : IntKind.u64.wrap (1 * 2 ^ (min r IntKind.u64.bits)) = ((2 ^ r : Nat) : Int) := by
  have h2 := shl64 1 r (by omega)
  have h3 : 2 ^ r < 18446744073709551616 := by
    have : (2 : Nat) ^ r < 2 ^ 64 := Nat.pow_lt_pow_right (by decide) h
    exact this
  rw [Nat.one_mul, Nat.mod_eq_of_lt h3] at h2
  exact h2
theorem pred2 (r : Nat) : ((2 ^ r : Nat) : Int) - 1 = ((2 ^ r - 1 : Nat) : Int) := by have : 0 < 2 ^ r := Nat.pow_pos (by decide); omega

/-- a shift to the left, the code -/
def shlR (v : Nat) (n : Int) : List Nat × Int := if n < 0 ∨ 1048576 < n then ([], 3) else (dg B (v * 2 ^ n.toNat), 0)
def shrR (v : Nat) (n : Int) : List Nat × Int := if n < 0 then ([], 3) else (dg B (v / 2 ^ n.toNat), 0)
def lowR (v : Nat) (n : Int) : List Nat := if n < 0 then [] else dg B (v % 2 ^ n.toNat)

-- surd/nat.Shl
def a78 : AC := .seq (.reg [⟨some 4, none, .mv (.k .nl)⟩, 
      ⟨some 5, none, .mv (.k (.i .i64 0))⟩])
  (.seq (.seq (.reg [⟨some 8, none, .mv (.t 1)⟩, 
        ⟨some 9, none, .bin .lss (.t 8) (.k (.i .i64 0))⟩, 
        ⟨some 10, none, .mv (.t 9)⟩, 
        ⟨some 11, some (10, false), .mv (.t 1)⟩, 
        ⟨some 12, some (10, false), .bin .gtr (.t 11) (.k (.i .i64 1048576))⟩, 
        ⟨some 13, none, .pick (.t 10) (.k (.b true)) (.t 12)⟩])
    (.cond (.t 13)
    (.seq (.reg [⟨some 4, none, .mv (.k .nl)⟩, 
          ⟨some 5, none, .mv (.k (.i .i64 3))⟩])
      (.ret))
    (.skip)))
  (.seq (.reg [⟨some 15, none, .mv (.t 0)⟩, 
      ⟨some 16, none, .call 93 [(1, (.t 15))]⟩, 
      ⟨some 17, none, .mv (.t 1)⟩, 
      ⟨some 18, none, .call 97 [(1, (.t 16)), (1, (.t 17))]⟩, 
      ⟨some 14, none, .mv (.t 18)⟩, 
      ⟨some 19, none, .ext (.t 14) 0⟩, 
      ⟨some 20, none, .ext (.t 14) 1⟩, 
      ⟨some 6, none, .mv (.t 19)⟩, 
      ⟨some 7, none, .mv (.t 20)⟩])
  (.seq (.reg [⟨some 21, none, .mv (.t 6)⟩, 
      ⟨some 22, none, .call 68 [(1, (.t 21))]⟩, 
      ⟨some 23, none, .mv (.t 7)⟩, 
      ⟨some 4, none, .mv (.t 22)⟩, 
      ⟨some 5, none, .mv (.t 23)⟩])
  (.ret))))
theorem shl_spec (a : List Nat) (n : Int) (ha : Wd a) (la : a.length ≤ 100000000000) : AFun Try.prog J0 78 [.l 1 (W a), .i .i64 n] (.t [.l 1 (W (shlR (nv B a) n).1), .i .i64 (shlR (nv B a) n).2]) := by
  refine AFun.mk fol J0s Try.func78 rfl (ac := a78) (by kernel_rfl) rfl rfl ?_
  apply vm_start
  unfold a78
  simp only [init_eq, initE]
  by_cases h1 : n < 0
  · rw [show shlR (nv B a) n = ([], 3) from if_pos (.inl h1)]
    repeat first | (refine hK _ ?_; clear hK K) | simp only [Sv, ↓reduceIte, Nat.reduceEqDiff] | ((first | refine vm_reg (fun K hK => ?_) | refine vm_dreg (fun K hK => ?_)); simp (disch := (first | omega | assumption)) only [S1, ↓reduceIte, Nat.reduceEqDiff, Nat.reduceAdd, Nat.reduceMul, Nat.reduceDiv, AOp.sb, AOp.mut, ↓Bool.false_eq_true, beq_self_eq_true, ite_self, Nat.reduceLeDiff, Int.reduceEq, Int.reduceSub, Int.reduceAdd, Int.reduceNeg, Int.reduceLT, Int.reduceLE, Nat.reduceLT, W_len, D_len, Bl_len, Nat.div_one, Nat.mul_one, tn_nat, W_nf, D_nf, Bl_nf, W_nil, D_nil, Bl_nil, tmod_64, tdiv_64, wi, wu, nv_dgB, h1])
    simp (disch := (first | omega | assumption)) only [retOk, retN, ret1, retF, ret1F, V.okArg, and_true, true_and, S1, ↓reduceIte, Nat.reduceEqDiff, Nat.reduceAdd, Nat.reduceMul, Nat.reduceDiv, AOp.sb, AOp.mut, ↓Bool.false_eq_true, beq_self_eq_true, ite_self, Nat.reduceLeDiff, Int.reduceEq, Int.reduceSub, Int.reduceAdd, Int.reduceNeg, Int.reduceLT, Int.reduceLE, Nat.reduceLT, W_len, D_len, Bl_len, Nat.div_one, Nat.mul_one, tn_nat, W_nf, D_nf, Bl_nf, W_nil, D_nil, Bl_nil, tmod_64, tdiv_64, wi, wu, nv_dgB, h1]
  · by_cases h2 : 1048576 < n
    · rw [show shlR (nv B a) n = ([], 3) from if_pos (.inr h2)]
      repeat first | (refine hK _ ?_; clear hK K) | simp only [Sv, ↓reduceIte, Nat.reduceEqDiff] | ((first | refine vm_reg (fun K hK => ?_) | refine vm_dreg (fun K hK => ?_)); simp (disch := (first | omega | assumption)) only [S1, ↓reduceIte, Nat.reduceEqDiff, Nat.reduceAdd, Nat.reduceMul, Nat.reduceDiv, AOp.sb, AOp.mut, ↓Bool.false_eq_true, beq_self_eq_true, ite_self, Nat.reduceLeDiff, Int.reduceEq, Int.reduceSub, Int.reduceAdd, Int.reduceNeg, Int.reduceLT, Int.reduceLE, Nat.reduceLT, W_len, D_len, Bl_len, Nat.div_one, Nat.mul_one, tn_nat, W_nf, D_nf, Bl_nf, W_nil, D_nil, Bl_nil, tmod_64, tdiv_64, wi, wu, nv_dgB, h1, h2])
      simp (disch := (first | omega | assumption)) only [retOk, retN, ret1, retF, ret1F, V.okArg, and_true, true_and, S1, ↓reduceIte, Nat.reduceEqDiff, Nat.reduceAdd, Nat.reduceMul, Nat.reduceDiv, AOp.sb, AOp.mut, ↓Bool.false_eq_true, beq_self_eq_true, ite_self, Nat.reduceLeDiff, Int.reduceEq, Int.reduceSub, Int.reduceAdd, Int.reduceNeg, Int.reduceLT, Int.reduceLE, Nat.reduceLT, W_len, D_len, Bl_len, Nat.div_one, Nat.mul_one, tn_nat, W_nf, D_nf, Bl_nf, W_nil, D_nil, Bl_nil, tmod_64, tdiv_64, wi, wu, nv_dgB, h1, h2]
    · rw [show shlR (nv B a) n = (dg B (nv B a * 2 ^ n.toNat), 0) from if_neg (by omega)]
      obtain ⟨k, rfl⟩ : ∃ k : Nat, n = (k : Int) := ⟨n.toNat, by omega⟩
      have lt := tz_len a
      have lo := shlOut_len (tz a) k
      have e : nv B (shlOut (tz a) k) = nv B a * 2 ^ k := by rw [shlOut_nv (Lt_tz ha), nv_tz]
      have zc1 := trim_spec a (by omega)
      have zc2 := limbShl_spec (tz a) k (Lt_tz ha) (by omega) (by omega)
      have zc3 := own_dg (shlOut (tz a) k) (shlOut_Wd (Lt_tz ha) k) (by omega)
      repeat first | (refine hK _ ?_; clear hK K) | simp only [Sv, ↓reduceIte, Nat.reduceEqDiff] | ((first | refine vm_reg (fun K hK => ?_) | refine vm_dreg (fun K hK => ?_) | refine clp_q ?_ | refine clq_mk (by assumption) ?_); simp (disch := (first | omega | assumption)) only [S1, ↓reduceIte, Nat.reduceEqDiff, Nat.reduceAdd, Nat.reduceMul, Nat.reduceDiv, AOp.sb, AOp.mut, ↓Bool.false_eq_true, beq_self_eq_true, ite_self, Nat.reduceLeDiff, Int.reduceEq, Int.reduceSub, Int.reduceAdd, Int.reduceNeg, Int.reduceLT, Int.reduceLE, Nat.reduceLT, W_len, D_len, Bl_len, Nat.div_one, Nat.mul_one, tn_nat, W_nf, D_nf, Bl_nf, W_nil, D_nil, Bl_nil, tmod_64, tdiv_64, wi, wu, nv_dgB, h1, h2, e])
      simp (disch := (first | omega | assumption)) only [retOk, retN, ret1, retF, ret1F, V.okArg, and_true, true_and, S1, ↓reduceIte, Nat.reduceEqDiff, Nat.reduceAdd, Nat.reduceMul, Nat.reduceDiv, AOp.sb, AOp.mut, ↓Bool.false_eq_true, beq_self_eq_true, ite_self, Nat.reduceLeDiff, Int.reduceEq, Int.reduceSub, Int.reduceAdd, Int.reduceNeg, Int.reduceLT, Int.reduceLE, Nat.reduceLT, W_len, D_len, Bl_len, Nat.div_one, Nat.mul_one, tn_nat, W_nf, D_nf, Bl_nf, W_nil, D_nil, Bl_nil, tmod_64, tdiv_64, wi, wu, nv_dgB, h1, h2, e]

-- surd/nat.Shr
def a83 : AC := .seq (.reg [⟨some 4, none, .mv (.k .nl)⟩, 
      ⟨some 5, none, .mv (.k (.i .i64 0))⟩])
  (.seq (.seq (.reg [⟨some 9, none, .mv (.t 1)⟩, 
        ⟨some 10, none, .bin .lss (.t 9) (.k (.i .i64 0))⟩])
    (.cond (.t 10)
    (.seq (.reg [⟨some 4, none, .mv (.k .nl)⟩, 
          ⟨some 5, none, .mv (.k (.i .i64 3))⟩])
      (.ret))
    (.skip)))
  (.seq (.reg [⟨some 12, none, .mv (.t 0)⟩, 
      ⟨some 13, none, .mv (.t 1)⟩, 
      ⟨some 14, none, .call 102 [(1, (.t 12)), (1, (.t 13))]⟩, 
      ⟨some 11, none, .mv (.t 14)⟩, 
      ⟨some 15, none, .ext (.t 11) 0⟩, 
      ⟨some 16, none, .ext (.t 11) 1⟩, 
      ⟨some 17, none, .ext (.t 11) 2⟩, 
      ⟨some 6, none, .mv (.t 15)⟩, 
      ⟨some 7, none, .mv (.t 16)⟩, 
      ⟨some 8, none, .mv (.t 17)⟩])
  (.seq (.reg [⟨some 18, none, .mv (.t 6)⟩, 
      ⟨some 19, none, .call 68 [(1, (.t 18))]⟩, 
      ⟨some 20, none, .mv (.t 8)⟩, 
      ⟨some 4, none, .mv (.t 19)⟩, 
      ⟨some 5, none, .mv (.t 20)⟩])
  (.ret))))
theorem shr_spec (a : List Nat) (n : Int) (ha : Wd a) (la : a.length ≤ 100000000000) (hn : n < 9223372036854775808) : AFun Try.prog J0 83 [.l 1 (W a), .i .i64 n] (.t [.l 1 (W (shrR (nv B a) n).1), .i .i64 (shrR (nv B a) n).2]) := by
  refine AFun.mk fol J0s Try.func83 rfl (ac := a83) (by kernel_rfl) rfl rfl ?_
  apply vm_start
  unfold a83
  simp only [init_eq, initE]
  by_cases h1 : n < 0
  · rw [show shrR (nv B a) n = ([], 3) from if_pos h1]
    repeat first | (refine hK _ ?_; clear hK K) | simp only [Sv, ↓reduceIte, Nat.reduceEqDiff] | ((first | refine vm_reg (fun K hK => ?_) | refine vm_dreg (fun K hK => ?_)); simp (disch := (first | omega | assumption)) only [S1, ↓reduceIte, Nat.reduceEqDiff, Nat.reduceAdd, Nat.reduceMul, Nat.reduceDiv, AOp.sb, AOp.mut, ↓Bool.false_eq_true, beq_self_eq_true, ite_self, Nat.reduceLeDiff, Int.reduceEq, Int.reduceSub, Int.reduceAdd, Int.reduceNeg, Int.reduceLT, Int.reduceLE, Nat.reduceLT, W_len, D_len, Bl_len, Nat.div_one, Nat.mul_one, tn_nat, W_nf, D_nf, Bl_nf, W_nil, D_nil, Bl_nil, tmod_64, tdiv_64, wi, wu, nv_dgB, h1])
    simp (disch := (first | omega | assumption)) only [retOk, retN, ret1, retF, ret1F, V.okArg, and_true, true_and, S1, ↓reduceIte, Nat.reduceEqDiff, Nat.reduceAdd, Nat.reduceMul, Nat.reduceDiv, AOp.sb, AOp.mut, ↓Bool.false_eq_true, beq_self_eq_true, ite_self, Nat.reduceLeDiff, Int.reduceEq, Int.reduceSub, Int.reduceAdd, Int.reduceNeg, Int.reduceLT, Int.reduceLE, Nat.reduceLT, W_len, D_len, Bl_len, Nat.div_one, Nat.mul_one, tn_nat, W_nf, D_nf, Bl_nf, W_nil, D_nil, Bl_nil, tmod_64, tdiv_64, wi, wu, nv_dgB, h1]
  · rw [show shrR (nv B a) n = (dg B (nv B a / 2 ^ n.toNat), 0) from if_neg h1]
    obtain ⟨k, rfl⟩ : ∃ k : Nat, n = (k : Int) := ⟨n.toNat, by omega⟩
    have e : nv B (fl B (a.length - k / 64) (nv B a / 2 ^ k)) = nv B a / 2 ^ k := by
      rw [nv_fl, Nat.mod_eq_of_lt]
      rw [pow_split, ← Nat.div_div_eq_div_mul]
      refine Nat.lt_of_le_of_lt (Nat.div_le_self _ _) ?_
      rcases Nat.lt_or_ge a.length (k / 64) with h | h
      · rw [Nat.div_eq_of_lt (Nat.lt_of_lt_of_le (nv_lt ha) (Nat.pow_le_pow_right B0 (by omega)))]
        exact Nat.pow_pos B0
      · rw [Nat.div_lt_iff_lt_mul (Nat.pow_pos B0), ← Nat.pow_add, show a.length - k / 64 + k / 64 = a.length from by omega]
        exact nv_lt ha
    have zc4 := limbShr_spec a k ha (by omega) (by omega)
    have zc5 := own_dg (fl B (a.length - k / 64) (nv B a / 2 ^ k)) (fl_Lt B0 _ _) (by rw [fl_len]; omega)
    repeat first | (refine hK _ ?_; clear hK K) | simp only [Sv, ↓reduceIte, Nat.reduceEqDiff] | ((first | refine vm_reg (fun K hK => ?_) | refine vm_dreg (fun K hK => ?_) | refine clp_q ?_ | refine clq_mk (by assumption) ?_); simp (disch := (first | omega | assumption)) only [S1, ↓reduceIte, Nat.reduceEqDiff, Nat.reduceAdd, Nat.reduceMul, Nat.reduceDiv, AOp.sb, AOp.mut, ↓Bool.false_eq_true, beq_self_eq_true, ite_self, Nat.reduceLeDiff, Int.reduceEq, Int.reduceSub, Int.reduceAdd, Int.reduceNeg, Int.reduceLT, Int.reduceLE, Nat.reduceLT, W_len, D_len, Bl_len, Nat.div_one, Nat.mul_one, tn_nat, W_nf, D_nf, Bl_nf, W_nil, D_nil, Bl_nil, tmod_64, tdiv_64, wi, wu, nv_dgB, h1, e])
    simp (disch := (first | omega | assumption)) only [retOk, retN, ret1, retF, ret1F, V.okArg, and_true, true_and, S1, ↓reduceIte, Nat.reduceEqDiff, Nat.reduceAdd, Nat.reduceMul, Nat.reduceDiv, AOp.sb, AOp.mut, ↓Bool.false_eq_true, beq_self_eq_true, ite_self, Nat.reduceLeDiff, Int.reduceEq, Int.reduceSub, Int.reduceAdd, Int.reduceNeg, Int.reduceLT, Int.reduceLE, Nat.reduceLT, W_len, D_len, Bl_len, Nat.div_one, Nat.mul_one, tn_nat, W_nf, D_nf, Bl_nf, W_nil, D_nil, Bl_nil, tmod_64, tdiv_64, wi, wu, nv_dgB, h1, e]

end Go.Proofs.Ytngohbpgdeiodaa
