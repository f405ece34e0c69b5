/-
  nat, surdref02: shifts and cuts; NatShifts, the law's walk.
-/
import Derived.Test.YtjabgieajkgkfaaShift
import Derived.Test.YtjabgieajkgkfaaRef6
namespace Go.Proofs.Ytjabgieajkgkfaa
open Go Go.RowKit Ab
set_option linter.unusedSimpArgs false
set_option linter.unusedVariables false
set_option maxHeartbeats 10000000

theorem nv_dgB (v : Nat) : nv B (dg B v) = v := nv_dg B2 v
theorem Wd_dg (v : Nat) : Wd (dg B v) := dg_Lt B0 v
theorem dlen {v k : Nat} (h : v < B ^ k) : (dg B v).length ≤ k := dg_len B2 h
theorem nvlt {a : List Nat} {m : Nat} (ha : Wd a) (la : a.length ≤ m) : nv B a < B ^ m := Nat.lt_of_lt_of_le (nv_lt ha) (Nat.pow_le_pow_right B0 la)
theorem pup {v k m : Nat} (h : v < B ^ k) (hk : k ≤ m) : v < B ^ m := Nat.lt_of_lt_of_le h (Nat.pow_le_pow_right B0 hk)
theorem padd {u v k : Nat} (h : u < B ^ k) (h' : v < B ^ k) : u + v < B ^ (k + 1) := by
  have h5 : B ^ k * 2 ≤ B ^ (k + 1) := Nat.mul_le_mul_left _ B2
  omega
theorem same_true {a b : List Nat} (h : a = b) (la : a.length ≤ 1099511627776) : AFun Try.prog J0 14 [.l 1 (W a), .l 1 (W b)] (.b true) := by
  have := same_spec a b (by omega) (by rw [← h]; omega)
  rwa [show decide (a = b) = true from decide_eq_true h] at this
theorem own_dg (a : List Nat) (ha : Wd a) (la : a.length ≤ 1099511627776) : AFun Try.prog J0 41 [.l 1 (W a)] (.o 35 1 (W (dg B (nv B a)))) := by
  have := own_spec a la
  rwa [tz_dg B2 ha] at this
theorem nv_mod {b : Nat} {l : List Nat} (hb : 0 < b) (h : Lt b l) (i : Nat) : nv b (l.take i) = nv b l % b ^ i := by
  rcases Nat.lt_or_ge l.length i with h1 | h1
  · rw [List.take_of_length_le (by omega), Nat.mod_eq_of_lt (Nat.lt_of_lt_of_le (nv_lt h) (Nat.pow_le_pow_right hb (by omega)))]
  · rw [nv_take_drop l i h1, Nat.add_mul_mod_self_left, Nat.mod_eq_of_lt (nv_take_lt hb h i)]
theorem shl1 (r : Nat) (h : r < 64) : IntKind.u64.wrap (1 * 2 ^ (min r IntKind.u64.bits)) = ((2 ^ r : Nat) : Int) := by
  have h2 := shl64 1 r (by omega)
  have h3 : 2 ^ r < 18446744073709551616 := by
    have : (2 : Nat) ^ r < 2 ^ 64 := Nat.pow_lt_pow_right (by decide) h
    exact this
  rw [Nat.one_mul, Nat.mod_eq_of_lt h3] at h2
  exact h2
theorem pred2 (r : Nat) : ((2 ^ r : Nat) : Int) - 1 = ((2 ^ r - 1 : Nat) : Int) := by have : 0 < 2 ^ r := Nat.pow_pos (by decide); omega

/-- a shift to the left, the code -/
def shlR (v : Nat) (n : Int) : List Nat × Int := if n < 0 ∨ 1048576 < n then ([], 3) else (dg B (v * 2 ^ n.toNat), 0)
def shrR (v : Nat) (n : Int) : List Nat × Int := if n < 0 then ([], 3) else (dg B (v / 2 ^ n.toNat), 0)
def lowR (v : Nat) (n : Int) : List Nat := if n < 0 then [] else dg B (v % 2 ^ n.toNat)

-- surd/nat.Shl
def a22 : AC := .seq (.reg [⟨some 4, none, .mv (.k .nl)⟩, 
      ⟨some 5, none, .mv (.k (.i .i64 0))⟩])
  (.seq (.seq (.reg [⟨some 8, none, .mv (.t 1)⟩, 
        ⟨some 9, none, .bin .lss (.t 8) (.k (.i .i64 0))⟩, 
        ⟨some 10, none, .mv (.t 9)⟩, 
        ⟨some 11, some (10, false), .mv (.t 1)⟩, 
        ⟨some 12, some (10, false), .bin .gtr (.t 11) (.k (.i .i64 1048576))⟩, 
        ⟨some 13, none, .pick (.t 10) (.k (.b true)) (.t 12)⟩])
    (.cond (.t 13)
    (.seq (.reg [⟨some 4, none, .mv (.k .nl)⟩, 
          ⟨some 5, none, .mv (.k (.i .i64 3))⟩])
      (.ret))
    (.skip)))
  (.seq (.reg [⟨some 15, none, .mv (.t 0)⟩, 
      ⟨some 16, none, .call 50 [(1, (.t 15))]⟩, 
      ⟨some 17, none, .mv (.t 1)⟩, 
      ⟨some 18, none, .call 49 [(1, (.t 16)), (1, (.t 17))]⟩, 
      ⟨some 14, none, .mv (.t 18)⟩, 
      ⟨some 19, none, .ext (.t 14) 0⟩, 
      ⟨some 20, none, .ext (.t 14) 1⟩, 
      ⟨some 6, none, .mv (.t 19)⟩, 
      ⟨some 7, none, .mv (.t 20)⟩])
  (.seq (.reg [⟨some 21, none, .mv (.t 6)⟩, 
      ⟨some 22, none, .call 41 [(1, (.t 21))]⟩, 
      ⟨some 23, none, .mv (.t 7)⟩, 
      ⟨some 4, none, .mv (.t 22)⟩, 
      ⟨some 5, none, .mv (.t 23)⟩])
  (.ret))))
theorem shl_spec (a : List Nat) (n : Int) (ha : Wd a) (la : a.length ≤ 100000000000) : AFun Try.prog J0 22 [.l 1 (W a), .i .i64 n] (.t [.l 1 (W (shlR (nv B a) n).1), .i .i64 (shlR (nv B a) n).2]) := by
  refine AFun.mk fol J0s Try.func22 rfl (ac := a22) (by kernel_rfl) rfl rfl ?_
  apply vm_start
  unfold a22
  by_cases h1 : n < 0
  · rw [show shlR (nv B a) n = ([], 3) from if_pos (.inl h1)]
    repeat first | (refine hK _ ?_; clear hK K) | simp only [Sv, ↓reduceIte, Nat.reduceEqDiff] | ((first | refine vm_reg (fun K hK => ?_) | refine vm_dreg (fun K hK => ?_)); simp (disch := (first | omega | assumption)) only [initS, initE, Sw, Sx, Sb, pure_s2b, ↓reduceIte, Nat.reduceEqDiff, Nat.reduceAdd, Nat.reduceMul, Nat.reduceDiv, AOp.sb, AOp.mut, ↓Bool.false_eq_true, beq_self_eq_true, ite_self, decide_eq_true_eq, decide_true, decide_false, Nat.reduceLeDiff, c0, c1, c2, c3, c13, Int.cast_ofNat_Int, Int.reduceEq, Int.reduceSub, Int.reduceAdd, Int.reduceNeg, Int.reduceLT, Int.reduceLE, Nat.reduceLT, W_len, D_len, Bl_len, Nat.div_one, Nat.mul_one, tn_nat, W_nf, D_nf, Bl_nf, W_nil, D_nil, Bl_nil, tmod_64, tdiv_64, wi, wu, nv_dgB, chk_of, h1])
    simp (disch := (first | omega | assumption)) only [retOk, retN, ret1, V.okArg, and_true, true_and, initS, initE, Sw, Sx, Sb, pure_s2b, ↓reduceIte, Nat.reduceEqDiff, Nat.reduceAdd, Nat.reduceMul, Nat.reduceDiv, AOp.sb, AOp.mut, ↓Bool.false_eq_true, beq_self_eq_true, ite_self, decide_eq_true_eq, decide_true, decide_false, Nat.reduceLeDiff, c0, c1, c2, c3, c13, Int.cast_ofNat_Int, Int.reduceEq, Int.reduceSub, Int.reduceAdd, Int.reduceNeg, Int.reduceLT, Int.reduceLE, Nat.reduceLT, W_len, D_len, Bl_len, Nat.div_one, Nat.mul_one, tn_nat, W_nf, D_nf, Bl_nf, W_nil, D_nil, Bl_nil, tmod_64, tdiv_64, wi, wu, nv_dgB, chk_of, h1]
  · by_cases h2 : 1048576 < n
    · rw [show shlR (nv B a) n = ([], 3) from if_pos (.inr h2)]
      repeat first | (refine hK _ ?_; clear hK K) | simp only [Sv, ↓reduceIte, Nat.reduceEqDiff] | ((first | refine vm_reg (fun K hK => ?_) | refine vm_dreg (fun K hK => ?_)); simp (disch := (first | omega | assumption)) only [initS, initE, Sw, Sx, Sb, pure_s2b, ↓reduceIte, Nat.reduceEqDiff, Nat.reduceAdd, Nat.reduceMul, Nat.reduceDiv, AOp.sb, AOp.mut, ↓Bool.false_eq_true, beq_self_eq_true, ite_self, decide_eq_true_eq, decide_true, decide_false, Nat.reduceLeDiff, c0, c1, c2, c3, c13, Int.cast_ofNat_Int, Int.reduceEq, Int.reduceSub, Int.reduceAdd, Int.reduceNeg, Int.reduceLT, Int.reduceLE, Nat.reduceLT, W_len, D_len, Bl_len, Nat.div_one, Nat.mul_one, tn_nat, W_nf, D_nf, Bl_nf, W_nil, D_nil, Bl_nil, tmod_64, tdiv_64, wi, wu, nv_dgB, chk_of, h1, h2])
      simp (disch := (first | omega | assumption)) only [retOk, retN, ret1, V.okArg, and_true, true_and, initS, initE, Sw, Sx, Sb, pure_s2b, ↓reduceIte, Nat.reduceEqDiff, Nat.reduceAdd, Nat.reduceMul, Nat.reduceDiv, AOp.sb, AOp.mut, ↓Bool.false_eq_true, beq_self_eq_true, ite_self, decide_eq_true_eq, decide_true, decide_false, Nat.reduceLeDiff, c0, c1, c2, c3, c13, Int.cast_ofNat_Int, Int.reduceEq, Int.reduceSub, Int.reduceAdd, Int.reduceNeg, Int.reduceLT, Int.reduceLE, Nat.reduceLT, W_len, D_len, Bl_len, Nat.div_one, Nat.mul_one, tn_nat, W_nf, D_nf, Bl_nf, W_nil, D_nil, Bl_nil, tmod_64, tdiv_64, wi, wu, nv_dgB, chk_of, h1, h2]
    · rw [show shlR (nv B a) n = (dg B (nv B a * 2 ^ n.toNat), 0) from if_neg (by omega)]
      obtain ⟨k, rfl⟩ : ∃ k : Nat, n = (k : Int) := ⟨n.toNat, by omega⟩
      have lt := tz_len a
      have lo := shlOut_len (tz a) k
      have e : nv B (shlOut (tz a) k) = nv B a * 2 ^ k := by rw [shlOut_nv (Lt_tz ha), nv_tz]
      repeat first | (refine hK _ ?_; clear hK K) | simp only [Sv, ↓reduceIte, Nat.reduceEqDiff] | ((first | refine vm_reg (fun K hK => ?_) | refine vm_dreg (fun K hK => ?_)); simp (disch := (first | omega | assumption)) only [initS, initE, Sw, Sx, Sb, pure_s2b, ↓reduceIte, Nat.reduceEqDiff, Nat.reduceAdd, Nat.reduceMul, Nat.reduceDiv, AOp.sb, AOp.mut, ↓Bool.false_eq_true, beq_self_eq_true, ite_self, decide_eq_true_eq, decide_true, decide_false, Nat.reduceLeDiff, c0, c1, c2, c3, c13, Int.cast_ofNat_Int, Int.reduceEq, Int.reduceSub, Int.reduceAdd, Int.reduceNeg, Int.reduceLT, Int.reduceLE, Nat.reduceLT, W_len, D_len, Bl_len, Nat.div_one, Nat.mul_one, tn_nat, W_nf, D_nf, Bl_nf, W_nil, D_nil, Bl_nil, tmod_64, tdiv_64, wi, wu, nv_dgB, chk_of, h1, h2])
      refine clp_of _ _ (trim_spec a (by omega)) ?_ ?_
      · first | rfl | (simp (disch := (first | omega | assumption)) only [initS, initE, Sw, Sx, Sb, pure_s2b, ↓reduceIte, Nat.reduceEqDiff, Nat.reduceAdd, Nat.reduceMul, Nat.reduceDiv, AOp.sb, AOp.mut, ↓Bool.false_eq_true, beq_self_eq_true, ite_self, decide_eq_true_eq, decide_true, decide_false, Nat.reduceLeDiff, c0, c1, c2, c3, c13, Int.cast_ofNat_Int, Int.reduceEq, Int.reduceSub, Int.reduceAdd, Int.reduceNeg, Int.reduceLT, Int.reduceLE, Nat.reduceLT, W_len, D_len, Bl_len, Nat.div_one, Nat.mul_one, tn_nat, W_nf, D_nf, Bl_nf, W_nil, D_nil, Bl_nil, tmod_64, tdiv_64, wi, wu, nv_dgB, chk_of, h1, h2])
      simp (disch := (first | omega | assumption)) only [initS, initE, Sw, Sx, Sb, pure_s2b, ↓reduceIte, Nat.reduceEqDiff, Nat.reduceAdd, Nat.reduceMul, Nat.reduceDiv, AOp.sb, AOp.mut, ↓Bool.false_eq_true, beq_self_eq_true, ite_self, decide_eq_true_eq, decide_true, decide_false, Nat.reduceLeDiff, c0, c1, c2, c3, c13, Int.cast_ofNat_Int, Int.reduceEq, Int.reduceSub, Int.reduceAdd, Int.reduceNeg, Int.reduceLT, Int.reduceLE, Nat.reduceLT, W_len, D_len, Bl_len, Nat.div_one, Nat.mul_one, tn_nat, W_nf, D_nf, Bl_nf, W_nil, D_nil, Bl_nil, tmod_64, tdiv_64, wi, wu, nv_dgB, chk_of, h1, h2]
      repeat first | (refine hK _ ?_; clear hK K) | simp only [Sv, ↓reduceIte, Nat.reduceEqDiff] | ((first | refine vm_reg (fun K hK => ?_) | refine vm_dreg (fun K hK => ?_)); simp (disch := (first | omega | assumption)) only [initS, initE, Sw, Sx, Sb, pure_s2b, ↓reduceIte, Nat.reduceEqDiff, Nat.reduceAdd, Nat.reduceMul, Nat.reduceDiv, AOp.sb, AOp.mut, ↓Bool.false_eq_true, beq_self_eq_true, ite_self, decide_eq_true_eq, decide_true, decide_false, Nat.reduceLeDiff, c0, c1, c2, c3, c13, Int.cast_ofNat_Int, Int.reduceEq, Int.reduceSub, Int.reduceAdd, Int.reduceNeg, Int.reduceLT, Int.reduceLE, Nat.reduceLT, W_len, D_len, Bl_len, Nat.div_one, Nat.mul_one, tn_nat, W_nf, D_nf, Bl_nf, W_nil, D_nil, Bl_nil, tmod_64, tdiv_64, wi, wu, nv_dgB, chk_of])
      refine clp_of _ _ (limbShl_spec (tz a) k (Lt_tz ha) (by omega) (by omega)) ?_ ?_
      · first | rfl | (simp (disch := (first | omega | assumption)) only [initS, initE, Sw, Sx, Sb, pure_s2b, ↓reduceIte, Nat.reduceEqDiff, Nat.reduceAdd, Nat.reduceMul, Nat.reduceDiv, AOp.sb, AOp.mut, ↓Bool.false_eq_true, beq_self_eq_true, ite_self, decide_eq_true_eq, decide_true, decide_false, Nat.reduceLeDiff, c0, c1, c2, c3, c13, Int.cast_ofNat_Int, Int.reduceEq, Int.reduceSub, Int.reduceAdd, Int.reduceNeg, Int.reduceLT, Int.reduceLE, Nat.reduceLT, W_len, D_len, Bl_len, Nat.div_one, Nat.mul_one, tn_nat, W_nf, D_nf, Bl_nf, W_nil, D_nil, Bl_nil, tmod_64, tdiv_64, wi, wu, nv_dgB, chk_of])
      simp (disch := (first | omega | assumption)) only [initS, initE, Sw, Sx, Sb, pure_s2b, ↓reduceIte, Nat.reduceEqDiff, Nat.reduceAdd, Nat.reduceMul, Nat.reduceDiv, AOp.sb, AOp.mut, ↓Bool.false_eq_true, beq_self_eq_true, ite_self, decide_eq_true_eq, decide_true, decide_false, Nat.reduceLeDiff, c0, c1, c2, c3, c13, Int.cast_ofNat_Int, Int.reduceEq, Int.reduceSub, Int.reduceAdd, Int.reduceNeg, Int.reduceLT, Int.reduceLE, Nat.reduceLT, W_len, D_len, Bl_len, Nat.div_one, Nat.mul_one, tn_nat, W_nf, D_nf, Bl_nf, W_nil, D_nil, Bl_nil, tmod_64, tdiv_64, wi, wu, nv_dgB, chk_of]
      repeat first | (refine hK _ ?_; clear hK K) | simp only [Sv, ↓reduceIte, Nat.reduceEqDiff] | ((first | refine vm_reg (fun K hK => ?_) | refine vm_dreg (fun K hK => ?_)); simp (disch := (first | omega | assumption)) only [initS, initE, Sw, Sx, Sb, pure_s2b, ↓reduceIte, Nat.reduceEqDiff, Nat.reduceAdd, Nat.reduceMul, Nat.reduceDiv, AOp.sb, AOp.mut, ↓Bool.false_eq_true, beq_self_eq_true, ite_self, decide_eq_true_eq, decide_true, decide_false, Nat.reduceLeDiff, c0, c1, c2, c3, c13, Int.cast_ofNat_Int, Int.reduceEq, Int.reduceSub, Int.reduceAdd, Int.reduceNeg, Int.reduceLT, Int.reduceLE, Nat.reduceLT, W_len, D_len, Bl_len, Nat.div_one, Nat.mul_one, tn_nat, W_nf, D_nf, Bl_nf, W_nil, D_nil, Bl_nil, tmod_64, tdiv_64, wi, wu, nv_dgB, chk_of, e])
      refine clp_of _ _ (own_dg (shlOut (tz a) k) (shlOut_Wd (Lt_tz ha) k) (by omega)) ?_ ?_
      · first | rfl | (simp (disch := (first | omega | assumption)) only [initS, initE, Sw, Sx, Sb, pure_s2b, ↓reduceIte, Nat.reduceEqDiff, Nat.reduceAdd, Nat.reduceMul, Nat.reduceDiv, AOp.sb, AOp.mut, ↓Bool.false_eq_true, beq_self_eq_true, ite_self, decide_eq_true_eq, decide_true, decide_false, Nat.reduceLeDiff, c0, c1, c2, c3, c13, Int.cast_ofNat_Int, Int.reduceEq, Int.reduceSub, Int.reduceAdd, Int.reduceNeg, Int.reduceLT, Int.reduceLE, Nat.reduceLT, W_len, D_len, Bl_len, Nat.div_one, Nat.mul_one, tn_nat, W_nf, D_nf, Bl_nf, W_nil, D_nil, Bl_nil, tmod_64, tdiv_64, wi, wu, nv_dgB, chk_of, e])
      simp (disch := (first | omega | assumption)) only [initS, initE, Sw, Sx, Sb, pure_s2b, ↓reduceIte, Nat.reduceEqDiff, Nat.reduceAdd, Nat.reduceMul, Nat.reduceDiv, AOp.sb, AOp.mut, ↓Bool.false_eq_true, beq_self_eq_true, ite_self, decide_eq_true_eq, decide_true, decide_false, Nat.reduceLeDiff, c0, c1, c2, c3, c13, Int.cast_ofNat_Int, Int.reduceEq, Int.reduceSub, Int.reduceAdd, Int.reduceNeg, Int.reduceLT, Int.reduceLE, Nat.reduceLT, W_len, D_len, Bl_len, Nat.div_one, Nat.mul_one, tn_nat, W_nf, D_nf, Bl_nf, W_nil, D_nil, Bl_nil, tmod_64, tdiv_64, wi, wu, nv_dgB, chk_of, e]
      repeat first | (refine hK _ ?_; clear hK K) | simp only [Sv, ↓reduceIte, Nat.reduceEqDiff] | ((first | refine vm_reg (fun K hK => ?_) | refine vm_dreg (fun K hK => ?_)); simp (disch := (first | omega | assumption)) only [initS, initE, Sw, Sx, Sb, pure_s2b, ↓reduceIte, Nat.reduceEqDiff, Nat.reduceAdd, Nat.reduceMul, Nat.reduceDiv, AOp.sb, AOp.mut, ↓Bool.false_eq_true, beq_self_eq_true, ite_self, decide_eq_true_eq, decide_true, decide_false, Nat.reduceLeDiff, c0, c1, c2, c3, c13, Int.cast_ofNat_Int, Int.reduceEq, Int.reduceSub, Int.reduceAdd, Int.reduceNeg, Int.reduceLT, Int.reduceLE, Nat.reduceLT, W_len, D_len, Bl_len, Nat.div_one, Nat.mul_one, tn_nat, W_nf, D_nf, Bl_nf, W_nil, D_nil, Bl_nil, tmod_64, tdiv_64, wi, wu, nv_dgB, chk_of])
      simp (disch := (first | omega | assumption)) only [retOk, retN, ret1, V.okArg, and_true, true_and, initS, initE, Sw, Sx, Sb, pure_s2b, ↓reduceIte, Nat.reduceEqDiff, Nat.reduceAdd, Nat.reduceMul, Nat.reduceDiv, AOp.sb, AOp.mut, ↓Bool.false_eq_true, beq_self_eq_true, ite_self, decide_eq_true_eq, decide_true, decide_false, Nat.reduceLeDiff, c0, c1, c2, c3, c13, Int.cast_ofNat_Int, Int.reduceEq, Int.reduceSub, Int.reduceAdd, Int.reduceNeg, Int.reduceLT, Int.reduceLE, Nat.reduceLT, W_len, D_len, Bl_len, Nat.div_one, Nat.mul_one, tn_nat, W_nf, D_nf, Bl_nf, W_nil, D_nil, Bl_nil, tmod_64, tdiv_64, wi, wu, nv_dgB, chk_of]

-- surd/nat.Shr
def a24 : AC := .seq (.reg [⟨some 4, none, .mv (.k .nl)⟩, 
      ⟨some 5, none, .mv (.k (.i .i64 0))⟩])
  (.seq (.seq (.reg [⟨some 9, none, .mv (.t 1)⟩, 
        ⟨some 10, none, .bin .lss (.t 9) (.k (.i .i64 0))⟩])
    (.cond (.t 10)
    (.seq (.reg [⟨some 4, none, .mv (.k .nl)⟩, 
          ⟨some 5, none, .mv (.k (.i .i64 3))⟩])
      (.ret))
    (.skip)))
  (.seq (.reg [⟨some 12, none, .mv (.t 0)⟩, 
      ⟨some 13, none, .mv (.t 1)⟩, 
      ⟨some 14, none, .call 51 [(1, (.t 12)), (1, (.t 13))]⟩, 
      ⟨some 11, none, .mv (.t 14)⟩, 
      ⟨some 15, none, .ext (.t 11) 0⟩, 
      ⟨some 16, none, .ext (.t 11) 1⟩, 
      ⟨some 17, none, .ext (.t 11) 2⟩, 
      ⟨some 6, none, .mv (.t 15)⟩, 
      ⟨some 7, none, .mv (.t 16)⟩, 
      ⟨some 8, none, .mv (.t 17)⟩])
  (.seq (.reg [⟨some 18, none, .mv (.t 6)⟩, 
      ⟨some 19, none, .call 41 [(1, (.t 18))]⟩, 
      ⟨some 20, none, .mv (.t 8)⟩, 
      ⟨some 4, none, .mv (.t 19)⟩, 
      ⟨some 5, none, .mv (.t 20)⟩])
  (.ret))))
theorem shr_spec (a : List Nat) (n : Int) (ha : Wd a) (la : a.length ≤ 100000000000) (hn : n < 9223372036854775808) : AFun Try.prog J0 24 [.l 1 (W a), .i .i64 n] (.t [.l 1 (W (shrR (nv B a) n).1), .i .i64 (shrR (nv B a) n).2]) := by
  refine AFun.mk fol J0s Try.func24 rfl (ac := a24) (by kernel_rfl) rfl rfl ?_
  apply vm_start
  unfold a24
  by_cases h1 : n < 0
  · rw [show shrR (nv B a) n = ([], 3) from if_pos h1]
    repeat first | (refine hK _ ?_; clear hK K) | simp only [Sv, ↓reduceIte, Nat.reduceEqDiff] | ((first | refine vm_reg (fun K hK => ?_) | refine vm_dreg (fun K hK => ?_)); simp (disch := (first | omega | assumption)) only [initS, initE, Sw, Sx, Sb, pure_s2b, ↓reduceIte, Nat.reduceEqDiff, Nat.reduceAdd, Nat.reduceMul, Nat.reduceDiv, AOp.sb, AOp.mut, ↓Bool.false_eq_true, beq_self_eq_true, ite_self, decide_eq_true_eq, decide_true, decide_false, Nat.reduceLeDiff, c0, c1, c2, c3, c13, Int.cast_ofNat_Int, Int.reduceEq, Int.reduceSub, Int.reduceAdd, Int.reduceNeg, Int.reduceLT, Int.reduceLE, Nat.reduceLT, W_len, D_len, Bl_len, Nat.div_one, Nat.mul_one, tn_nat, W_nf, D_nf, Bl_nf, W_nil, D_nil, Bl_nil, tmod_64, tdiv_64, wi, wu, nv_dgB, chk_of, h1])
    simp (disch := (first | omega | assumption)) only [retOk, retN, ret1, V.okArg, and_true, true_and, initS, initE, Sw, Sx, Sb, pure_s2b, ↓reduceIte, Nat.reduceEqDiff, Nat.reduceAdd, Nat.reduceMul, Nat.reduceDiv, AOp.sb, AOp.mut, ↓Bool.false_eq_true, beq_self_eq_true, ite_self, decide_eq_true_eq, decide_true, decide_false, Nat.reduceLeDiff, c0, c1, c2, c3, c13, Int.cast_ofNat_Int, Int.reduceEq, Int.reduceSub, Int.reduceAdd, Int.reduceNeg, Int.reduceLT, Int.reduceLE, Nat.reduceLT, W_len, D_len, Bl_len, Nat.div_one, Nat.mul_one, tn_nat, W_nf, D_nf, Bl_nf, W_nil, D_nil, Bl_nil, tmod_64, tdiv_64, wi, wu, nv_dgB, chk_of, h1]
  · rw [show shrR (nv B a) n = (dg B (nv B a / 2 ^ n.toNat), 0) from if_neg h1]
    obtain ⟨k, rfl⟩ : ∃ k : Nat, n = (k : Int) := ⟨n.toNat, by omega⟩
    have e : nv B (fl B (a.length - k / 64) (nv B a / 2 ^ k)) = nv B a / 2 ^ k := by
      rw [nv_fl, Nat.mod_eq_of_lt]
      rw [pow_split, ← Nat.div_div_eq_div_mul]
      refine Nat.lt_of_le_of_lt (Nat.div_le_self _ _) ?_
      rcases Nat.lt_or_ge a.length (k / 64) with h | h
      · rw [Nat.div_eq_of_lt (Nat.lt_of_lt_of_le (nv_lt ha) (Nat.pow_le_pow_right B0 (by omega)))]
        exact Nat.pow_pos B0
      · rw [Nat.div_lt_iff_lt_mul (Nat.pow_pos B0), ← Nat.pow_add, show a.length - k / 64 + k / 64 = a.length from by omega]
        exact nv_lt ha
    repeat first | (refine hK _ ?_; clear hK K) | simp only [Sv, ↓reduceIte, Nat.reduceEqDiff] | ((first | refine vm_reg (fun K hK => ?_) | refine vm_dreg (fun K hK => ?_)); simp (disch := (first | omega | assumption)) only [initS, initE, Sw, Sx, Sb, pure_s2b, ↓reduceIte, Nat.reduceEqDiff, Nat.reduceAdd, Nat.reduceMul, Nat.reduceDiv, AOp.sb, AOp.mut, ↓Bool.false_eq_true, beq_self_eq_true, ite_self, decide_eq_true_eq, decide_true, decide_false, Nat.reduceLeDiff, c0, c1, c2, c3, c13, Int.cast_ofNat_Int, Int.reduceEq, Int.reduceSub, Int.reduceAdd, Int.reduceNeg, Int.reduceLT, Int.reduceLE, Nat.reduceLT, W_len, D_len, Bl_len, Nat.div_one, Nat.mul_one, tn_nat, W_nf, D_nf, Bl_nf, W_nil, D_nil, Bl_nil, tmod_64, tdiv_64, wi, wu, nv_dgB, chk_of, h1])
    refine clp_of _ _ (limbShr_spec a k ha (by omega) (by omega)) ?_ ?_
    · first | rfl | (simp (disch := (first | omega | assumption)) only [initS, initE, Sw, Sx, Sb, pure_s2b, ↓reduceIte, Nat.reduceEqDiff, Nat.reduceAdd, Nat.reduceMul, Nat.reduceDiv, AOp.sb, AOp.mut, ↓Bool.false_eq_true, beq_self_eq_true, ite_self, decide_eq_true_eq, decide_true, decide_false, Nat.reduceLeDiff, c0, c1, c2, c3, c13, Int.cast_ofNat_Int, Int.reduceEq, Int.reduceSub, Int.reduceAdd, Int.reduceNeg, Int.reduceLT, Int.reduceLE, Nat.reduceLT, W_len, D_len, Bl_len, Nat.div_one, Nat.mul_one, tn_nat, W_nf, D_nf, Bl_nf, W_nil, D_nil, Bl_nil, tmod_64, tdiv_64, wi, wu, nv_dgB, chk_of, h1])
    simp (disch := (first | omega | assumption)) only [initS, initE, Sw, Sx, Sb, pure_s2b, ↓reduceIte, Nat.reduceEqDiff, Nat.reduceAdd, Nat.reduceMul, Nat.reduceDiv, AOp.sb, AOp.mut, ↓Bool.false_eq_true, beq_self_eq_true, ite_self, decide_eq_true_eq, decide_true, decide_false, Nat.reduceLeDiff, c0, c1, c2, c3, c13, Int.cast_ofNat_Int, Int.reduceEq, Int.reduceSub, Int.reduceAdd, Int.reduceNeg, Int.reduceLT, Int.reduceLE, Nat.reduceLT, W_len, D_len, Bl_len, Nat.div_one, Nat.mul_one, tn_nat, W_nf, D_nf, Bl_nf, W_nil, D_nil, Bl_nil, tmod_64, tdiv_64, wi, wu, nv_dgB, chk_of, h1]
    repeat first | (refine hK _ ?_; clear hK K) | simp only [Sv, ↓reduceIte, Nat.reduceEqDiff] | ((first | refine vm_reg (fun K hK => ?_) | refine vm_dreg (fun K hK => ?_)); simp (disch := (first | omega | assumption)) only [initS, initE, Sw, Sx, Sb, pure_s2b, ↓reduceIte, Nat.reduceEqDiff, Nat.reduceAdd, Nat.reduceMul, Nat.reduceDiv, AOp.sb, AOp.mut, ↓Bool.false_eq_true, beq_self_eq_true, ite_self, decide_eq_true_eq, decide_true, decide_false, Nat.reduceLeDiff, c0, c1, c2, c3, c13, Int.cast_ofNat_Int, Int.reduceEq, Int.reduceSub, Int.reduceAdd, Int.reduceNeg, Int.reduceLT, Int.reduceLE, Nat.reduceLT, W_len, D_len, Bl_len, Nat.div_one, Nat.mul_one, tn_nat, W_nf, D_nf, Bl_nf, W_nil, D_nil, Bl_nil, tmod_64, tdiv_64, wi, wu, nv_dgB, chk_of, e])
    refine clp_of _ _ (own_dg (fl B (a.length - k / 64) (nv B a / 2 ^ k)) (fl_Lt B0 _ _) (by rw [fl_len]; omega)) ?_ ?_
    · first | rfl | (simp (disch := (first | omega | assumption)) only [initS, initE, Sw, Sx, Sb, pure_s2b, ↓reduceIte, Nat.reduceEqDiff, Nat.reduceAdd, Nat.reduceMul, Nat.reduceDiv, AOp.sb, AOp.mut, ↓Bool.false_eq_true, beq_self_eq_true, ite_self, decide_eq_true_eq, decide_true, decide_false, Nat.reduceLeDiff, c0, c1, c2, c3, c13, Int.cast_ofNat_Int, Int.reduceEq, Int.reduceSub, Int.reduceAdd, Int.reduceNeg, Int.reduceLT, Int.reduceLE, Nat.reduceLT, W_len, D_len, Bl_len, Nat.div_one, Nat.mul_one, tn_nat, W_nf, D_nf, Bl_nf, W_nil, D_nil, Bl_nil, tmod_64, tdiv_64, wi, wu, nv_dgB, chk_of, e])
    simp (disch := (first | omega | assumption)) only [initS, initE, Sw, Sx, Sb, pure_s2b, ↓reduceIte, Nat.reduceEqDiff, Nat.reduceAdd, Nat.reduceMul, Nat.reduceDiv, AOp.sb, AOp.mut, ↓Bool.false_eq_true, beq_self_eq_true, ite_self, decide_eq_true_eq, decide_true, decide_false, Nat.reduceLeDiff, c0, c1, c2, c3, c13, Int.cast_ofNat_Int, Int.reduceEq, Int.reduceSub, Int.reduceAdd, Int.reduceNeg, Int.reduceLT, Int.reduceLE, Nat.reduceLT, W_len, D_len, Bl_len, Nat.div_one, Nat.mul_one, tn_nat, W_nf, D_nf, Bl_nf, W_nil, D_nil, Bl_nil, tmod_64, tdiv_64, wi, wu, nv_dgB, chk_of, e]
    repeat first | (refine hK _ ?_; clear hK K) | simp only [Sv, ↓reduceIte, Nat.reduceEqDiff] | ((first | refine vm_reg (fun K hK => ?_) | refine vm_dreg (fun K hK => ?_)); simp (disch := (first | omega | assumption)) only [initS, initE, Sw, Sx, Sb, pure_s2b, ↓reduceIte, Nat.reduceEqDiff, Nat.reduceAdd, Nat.reduceMul, Nat.reduceDiv, AOp.sb, AOp.mut, ↓Bool.false_eq_true, beq_self_eq_true, ite_self, decide_eq_true_eq, decide_true, decide_false, Nat.reduceLeDiff, c0, c1, c2, c3, c13, Int.cast_ofNat_Int, Int.reduceEq, Int.reduceSub, Int.reduceAdd, Int.reduceNeg, Int.reduceLT, Int.reduceLE, Nat.reduceLT, W_len, D_len, Bl_len, Nat.div_one, Nat.mul_one, tn_nat, W_nf, D_nf, Bl_nf, W_nil, D_nil, Bl_nil, tmod_64, tdiv_64, wi, wu, nv_dgB, chk_of])
    simp (disch := (first | omega | assumption)) only [retOk, retN, ret1, V.okArg, and_true, true_and, initS, initE, Sw, Sx, Sb, pure_s2b, ↓reduceIte, Nat.reduceEqDiff, Nat.reduceAdd, Nat.reduceMul, Nat.reduceDiv, AOp.sb, AOp.mut, ↓Bool.false_eq_true, beq_self_eq_true, ite_self, decide_eq_true_eq, decide_true, decide_false, Nat.reduceLeDiff, c0, c1, c2, c3, c13, Int.cast_ofNat_Int, Int.reduceEq, Int.reduceSub, Int.reduceAdd, Int.reduceNeg, Int.reduceLT, Int.reduceLE, Nat.reduceLT, W_len, D_len, Bl_len, Nat.div_one, Nat.mul_one, tn_nat, W_nf, D_nf, Bl_nf, W_nil, D_nil, Bl_nil, tmod_64, tdiv_64, wi, wu, nv_dgB, chk_of]

-- slices.Clone[surd/api.Nat,uint64]
def a52 : AC := .seq (.reg [⟨some 2, none, .mv (.k .nl)⟩])
  (.seq (.seq (.reg [⟨some 3, none, .mv (.t 0)⟩, 
        ⟨some 4, none, .isn false (.t 3)⟩])
    (.cond (.t 4)
    (.seq (.reg [⟨some 2, none, .mv (.k .nl)⟩])
      (.ret))
    (.skip)))
  (.seq (.reg [⟨some 5, none, .bsl 35 1 0 [] []⟩, 
      ⟨some 6, none, .mv (.t 0)⟩, 
      ⟨some 7, none, .app 35 1 8 (.t 5) (.t 6)⟩, 
      ⟨some 2, none, .mv (.t 7)⟩])
  (.ret)))
theorem cloneN_spec (a : List Nat) (ha : a.length ≤ 1099511627776) : AFun Try.prog J0 52 [.l 1 (W a)] (.o 35 1 (W a)) := by
  refine AFun.mk fol J0s Try.func52 rfl (ac := a52) (by kernel_rfl) rfl rfl ?_
  apply vm_start
  unfold a52
  rw [vm_seq]
  try simp only [Sv, ↓reduceIte, Nat.reduceEqDiff]
  refine vm_reg (fun K hK => ?_)
  simp (disch := (first | omega | assumption)) only [initS, initE, Sw, Sx, Sb, pure_s2b, ↓reduceIte, Nat.reduceEqDiff, Nat.reduceAdd, Nat.reduceMul, Nat.reduceDiv, AOp.sb, AOp.mut, ↓Bool.false_eq_true, beq_self_eq_true, ite_self, decide_eq_true_eq, decide_true, decide_false, Nat.reduceLeDiff, c0, c1, c2, c3, c13, Int.cast_ofNat_Int, Int.reduceEq, Int.reduceSub, Int.reduceAdd, Int.reduceNeg, Int.reduceLT, Int.reduceLE, Nat.reduceLT, W_len, D_len, Bl_len, Nat.div_one, Nat.mul_one, tn_nat, W_nf, D_nf, Bl_nf, W_nil, D_nil, Bl_nil, tmod_64, tdiv_64, wi, wu, nv_dgB, chk_of]
  refine hK _ ?_
  clear hK K
  simp only [Sv]
  try simp only [Sv, ↓reduceIte, Nat.reduceEqDiff]
  refine vm_reg (fun K hK => ?_)
  simp (disch := (first | omega | assumption)) only [initS, initE, Sw, Sx, Sb, pure_s2b, ↓reduceIte, Nat.reduceEqDiff, Nat.reduceAdd, Nat.reduceMul, Nat.reduceDiv, AOp.sb, AOp.mut, ↓Bool.false_eq_true, beq_self_eq_true, ite_self, decide_eq_true_eq, decide_true, decide_false, Nat.reduceLeDiff, c0, c1, c2, c3, c13, Int.cast_ofNat_Int, Int.reduceEq, Int.reduceSub, Int.reduceAdd, Int.reduceNeg, Int.reduceLT, Int.reduceLE, Nat.reduceLT, W_len, D_len, Bl_len, Nat.div_one, Nat.mul_one, tn_nat, W_nf, D_nf, Bl_nf, W_nil, D_nil, Bl_nil, tmod_64, tdiv_64, wi, wu, nv_dgB, chk_of]
  refine isp_mk fun t ht => ?_
  simp (disch := (first | omega | assumption)) only [initS, initE, Sw, Sx, Sb, pure_s2b, ↓reduceIte, Nat.reduceEqDiff, Nat.reduceAdd, Nat.reduceMul, Nat.reduceDiv, AOp.sb, AOp.mut, ↓Bool.false_eq_true, beq_self_eq_true, ite_self, decide_eq_true_eq, decide_true, decide_false, Nat.reduceLeDiff, c0, c1, c2, c3, c13, Int.cast_ofNat_Int, Int.reduceEq, Int.reduceSub, Int.reduceAdd, Int.reduceNeg, Int.reduceLT, Int.reduceLE, Nat.reduceLT, W_len, D_len, Bl_len, Nat.div_one, Nat.mul_one, tn_nat, W_nf, D_nf, Bl_nf, W_nil, D_nil, Bl_nil, tmod_64, tdiv_64, wi, wu, nv_dgB, chk_of]
  refine hK _ ?_
  clear hK K
  simp only [Sv, ↓reduceIte]
  refine vmc_mk (fun hc => ?_) (fun hc => ?_)
  · repeat first
      | (refine hK _ ?_; clear hK K)
      | ((first | refine vm_reg (fun K hK => ?_) | refine vm_dreg (fun K hK => ?_)); simp (disch := (first | omega | assumption)) only [initS, initE, Sw, Sx, Sb, pure_s2b, ↓reduceIte, Nat.reduceEqDiff, Nat.reduceAdd, Nat.reduceMul, Nat.reduceDiv, AOp.sb, AOp.mut, ↓Bool.false_eq_true, beq_self_eq_true, ite_self, decide_eq_true_eq, decide_true, decide_false, Nat.reduceLeDiff, c0, c1, c2, c3, c13, Int.cast_ofNat_Int, Int.reduceEq, Int.reduceSub, Int.reduceAdd, Int.reduceNeg, Int.reduceLT, Int.reduceLE, Nat.reduceLT, W_len, D_len, Bl_len, Nat.div_one, Nat.mul_one, tn_nat, W_nf, D_nf, Bl_nf, W_nil, D_nil, Bl_nil, tmod_64, tdiv_64, wi, wu, nv_dgB, chk_of]; refine hK _ ?_; clear hK K)
      | simp only [Sv, ↓reduceIte, Nat.reduceEqDiff]
    simp only [bne_eq_false_iff_eq, ne_eq, bne_iff_ne, Bool.not_eq_false] at hc
    have := ht hc
    simp (disch := (first | omega | assumption)) only [retOk, retN, ret1, V.okArg, and_true, true_and, initS, initE, Sw, Sx, Sb, pure_s2b, ↓reduceIte, Nat.reduceEqDiff, Nat.reduceAdd, Nat.reduceMul, Nat.reduceDiv, AOp.sb, AOp.mut, ↓Bool.false_eq_true, beq_self_eq_true, ite_self, decide_eq_true_eq, decide_true, decide_false, Nat.reduceLeDiff, c0, c1, c2, c3, c13, Int.cast_ofNat_Int, Int.reduceEq, Int.reduceSub, Int.reduceAdd, Int.reduceNeg, Int.reduceLT, Int.reduceLE, Nat.reduceLT, W_len, D_len, Bl_len, Nat.div_one, Nat.mul_one, tn_nat, W_nf, D_nf, Bl_nf, W_nil, D_nil, Bl_nil, tmod_64, tdiv_64, wi, wu, nv_dgB, chk_of, this]
  · repeat first
      | (refine hK _ ?_; clear hK K)
      | ((first | refine vm_reg (fun K hK => ?_) | refine vm_dreg (fun K hK => ?_)); simp (disch := (first | omega | assumption)) only [initS, initE, Sw, Sx, Sb, pure_s2b, ↓reduceIte, Nat.reduceEqDiff, Nat.reduceAdd, Nat.reduceMul, Nat.reduceDiv, AOp.sb, AOp.mut, ↓Bool.false_eq_true, beq_self_eq_true, ite_self, decide_eq_true_eq, decide_true, decide_false, Nat.reduceLeDiff, c0, c1, c2, c3, c13, Int.cast_ofNat_Int, Int.reduceEq, Int.reduceSub, Int.reduceAdd, Int.reduceNeg, Int.reduceLT, Int.reduceLE, Nat.reduceLT, W_len, D_len, Bl_len, Nat.div_one, Nat.mul_one, tn_nat, W_nf, D_nf, Bl_nf, W_nil, D_nil, Bl_nil, tmod_64, tdiv_64, wi, wu, nv_dgB, chk_of, W_cell, List.nil_append]; refine hK _ ?_; clear hK K)
      | simp only [Sv, ↓reduceIte, Nat.reduceEqDiff]
    simp (disch := (first | omega | assumption)) only [retOk, retN, ret1, V.okArg, and_true, true_and, initS, initE, Sw, Sx, Sb, pure_s2b, ↓reduceIte, Nat.reduceEqDiff, Nat.reduceAdd, Nat.reduceMul, Nat.reduceDiv, AOp.sb, AOp.mut, ↓Bool.false_eq_true, beq_self_eq_true, ite_self, decide_eq_true_eq, decide_true, decide_false, Nat.reduceLeDiff, c0, c1, c2, c3, c13, Int.cast_ofNat_Int, Int.reduceEq, Int.reduceSub, Int.reduceAdd, Int.reduceNeg, Int.reduceLT, Int.reduceLE, Nat.reduceLT, W_len, D_len, Bl_len, Nat.div_one, Nat.mul_one, tn_nat, W_nf, D_nf, Bl_nf, W_nil, D_nil, Bl_nil, tmod_64, tdiv_64, wi, wu, nv_dgB, chk_of]

-- surd/nat.Cut
def a26 : AC := .seq (.reg [⟨some 4, none, .mv (.k .nl)⟩, 
      ⟨some 5, none, .mv (.k .nl)⟩, 
      ⟨some 6, none, .mv (.k (.i .i64 0))⟩])
  (.seq (.reg [⟨some 11, none, .mv (.t 0)⟩, 
      ⟨some 12, none, .mv (.t 1)⟩, 
      ⟨some 13, none, .call 24 [(1, (.t 11)), (1, (.t 12))]⟩, 
      ⟨some 10, none, .mv (.t 13)⟩, 
      ⟨some 14, none, .ext (.t 10) 0⟩, 
      ⟨some 15, none, .ext (.t 10) 1⟩, 
      ⟨some 7, none, .mv (.t 14)⟩, 
      ⟨some 8, none, .mv (.t 15)⟩])
  (.seq (.seq (.reg [⟨some 16, none, .mv (.t 8)⟩, 
        ⟨some 17, none, .bin .neq (.t 16) (.k (.i .i64 0))⟩])
    (.cond (.t 17)
    (.seq (.reg [⟨some 18, none, .mv (.t 8)⟩, 
          ⟨some 4, none, .mv (.k .nl)⟩, 
          ⟨some 5, none, .mv (.k .nl)⟩, 
          ⟨some 6, none, .mv (.t 18)⟩])
      (.ret))
    (.skip)))
  (.seq (.seq (.reg [⟨some 19, none, .mv (.t 1)⟩, 
        ⟨some 20, none, .bin .quo (.t 19) (.k (.i .i64 64))⟩, 
        ⟨some 21, none, .mv (.t 0)⟩, 
        ⟨some 22, none, .len (.t 21)⟩, 
        ⟨some 23, none, .bin .geq (.t 20) (.t 22)⟩])
    (.cond (.t 23)
    (.seq (.reg [⟨some 24, none, .mv (.t 7)⟩, 
          ⟨some 25, none, .mv (.t 0)⟩, 
          ⟨some 26, none, .call 41 [(1, (.t 25))]⟩, 
          ⟨some 4, none, .mv (.t 24)⟩, 
          ⟨some 5, none, .mv (.t 26)⟩, 
          ⟨some 6, none, .mv (.k (.i .i64 0))⟩])
      (.ret))
    (.skip)))
  (.seq (.reg [⟨some 27, none, .mv (.t 0)⟩, 
      ⟨some 28, none, .mv (.t 1)⟩, 
      ⟨some 29, none, .bin .quo (.t 28) (.k (.i .i64 64))⟩, 
      ⟨some 30, none, .bin .add (.t 29) (.k (.i .i64 1))⟩, 
      ⟨some 31, none, .sub 1 (.t 27) none (some (.t 30))⟩, 
      ⟨some 32, none, .call 52 [(1, (.t 31))]⟩, 
      ⟨some 9, none, .mv (.t 32)⟩])
  (.seq (.dreg [⟨some 33, none, .mv (.t 9)⟩, 
      ⟨some 34, none, .mv (.t 1)⟩, 
      ⟨some 35, none, .bin .quo (.t 34) (.k (.i .i64 64))⟩, 
      ⟨some 36, none, .idx 1 (.t 33) (.t 35)⟩, 
      ⟨some 37, none, .ld false 1 (.t 36)⟩, 
      ⟨some 38, none, .mv (.t 1)⟩, 
      ⟨some 39, none, .bin .rem (.t 38) (.k (.i .i64 64))⟩, 
      ⟨some 40, none, .bin .shl (.k (.i .u64 1)) (.t 39)⟩, 
      ⟨some 41, none, .bin .sub (.t 40) (.k (.i .u64 1))⟩, 
      ⟨some 42, none, .bin .and (.t 37) (.t 41)⟩, 
      ⟨some 43, none, .idx 1 (.t 33) (.t 35)⟩, 
      ⟨none, none, .st 1 (.t 43) (.t 42)⟩])
  (.seq (.reg [⟨some 44, none, .mv (.t 7)⟩, 
      ⟨some 45, none, .mv (.t 9)⟩, 
      ⟨some 46, none, .call 41 [(1, (.t 45))]⟩, 
      ⟨some 4, none, .mv (.t 44)⟩, 
      ⟨some 5, none, .mv (.t 46)⟩, 
      ⟨some 6, none, .mv (.k (.i .i64 0))⟩])
  (.ret)))))))
theorem cut_spec (a : List Nat) (n : Int) (ha : Wd a) (la : a.length ≤ 100000000000) (hn : n < 9223372036854775808) : AFun Try.prog J0 26 [.l 1 (W a), .i .i64 n] (.t [.l 1 (W (shrR (nv B a) n).1), .l 1 (W (lowR (nv B a) n)), .i .i64 (shrR (nv B a) n).2]) := by
  refine AFun.mk fol J0s Try.func26 rfl (ac := a26) (by kernel_rfl) rfl rfl ?_
  apply vm_start
  unfold a26
  by_cases h1 : n < 0
  · have e : shrR (nv B a) n = ([], 3) := if_pos h1
    have e2 : lowR (nv B a) n = [] := if_pos h1
    repeat first | (refine hK _ ?_; clear hK K) | simp only [Sv, ↓reduceIte, Nat.reduceEqDiff] | ((first | refine vm_reg (fun K hK => ?_) | refine vm_dreg (fun K hK => ?_)); simp (disch := (first | omega | assumption)) only [initS, initE, Sw, Sx, Sb, pure_s2b, ↓reduceIte, Nat.reduceEqDiff, Nat.reduceAdd, Nat.reduceMul, Nat.reduceDiv, AOp.sb, AOp.mut, ↓Bool.false_eq_true, beq_self_eq_true, ite_self, decide_eq_true_eq, decide_true, decide_false, Nat.reduceLeDiff, c0, c1, c2, c3, c13, Int.cast_ofNat_Int, Int.reduceEq, Int.reduceSub, Int.reduceAdd, Int.reduceNeg, Int.reduceLT, Int.reduceLE, Nat.reduceLT, W_len, D_len, Bl_len, Nat.div_one, Nat.mul_one, tn_nat, W_nf, D_nf, Bl_nf, W_nil, D_nil, Bl_nil, tmod_64, tdiv_64, wi, wu, nv_dgB, chk_of, e])
    refine clp_of _ _ (shr_spec a n ha la hn) ?_ ?_
    · first | rfl | (simp (disch := (first | omega | assumption)) only [initS, initE, Sw, Sx, Sb, pure_s2b, ↓reduceIte, Nat.reduceEqDiff, Nat.reduceAdd, Nat.reduceMul, Nat.reduceDiv, AOp.sb, AOp.mut, ↓Bool.false_eq_true, beq_self_eq_true, ite_self, decide_eq_true_eq, decide_true, decide_false, Nat.reduceLeDiff, c0, c1, c2, c3, c13, Int.cast_ofNat_Int, Int.reduceEq, Int.reduceSub, Int.reduceAdd, Int.reduceNeg, Int.reduceLT, Int.reduceLE, Nat.reduceLT, W_len, D_len, Bl_len, Nat.div_one, Nat.mul_one, tn_nat, W_nf, D_nf, Bl_nf, W_nil, D_nil, Bl_nil, tmod_64, tdiv_64, wi, wu, nv_dgB, chk_of, e])
    simp (disch := (first | omega | assumption)) only [initS, initE, Sw, Sx, Sb, pure_s2b, ↓reduceIte, Nat.reduceEqDiff, Nat.reduceAdd, Nat.reduceMul, Nat.reduceDiv, AOp.sb, AOp.mut, ↓Bool.false_eq_true, beq_self_eq_true, ite_self, decide_eq_true_eq, decide_true, decide_false, Nat.reduceLeDiff, c0, c1, c2, c3, c13, Int.cast_ofNat_Int, Int.reduceEq, Int.reduceSub, Int.reduceAdd, Int.reduceNeg, Int.reduceLT, Int.reduceLE, Nat.reduceLT, W_len, D_len, Bl_len, Nat.div_one, Nat.mul_one, tn_nat, W_nf, D_nf, Bl_nf, W_nil, D_nil, Bl_nil, tmod_64, tdiv_64, wi, wu, nv_dgB, chk_of, e]
    repeat first | (refine hK _ ?_; clear hK K) | simp only [Sv, ↓reduceIte, Nat.reduceEqDiff] | ((first | refine vm_reg (fun K hK => ?_) | refine vm_dreg (fun K hK => ?_)); simp (disch := (first | omega | assumption)) only [initS, initE, Sw, Sx, Sb, pure_s2b, ↓reduceIte, Nat.reduceEqDiff, Nat.reduceAdd, Nat.reduceMul, Nat.reduceDiv, AOp.sb, AOp.mut, ↓Bool.false_eq_true, beq_self_eq_true, ite_self, decide_eq_true_eq, decide_true, decide_false, Nat.reduceLeDiff, c0, c1, c2, c3, c13, Int.cast_ofNat_Int, Int.reduceEq, Int.reduceSub, Int.reduceAdd, Int.reduceNeg, Int.reduceLT, Int.reduceLE, Nat.reduceLT, W_len, D_len, Bl_len, Nat.div_one, Nat.mul_one, tn_nat, W_nf, D_nf, Bl_nf, W_nil, D_nil, Bl_nil, tmod_64, tdiv_64, wi, wu, nv_dgB, chk_of, e2, e])
    simp (disch := (first | omega | assumption)) only [retOk, retN, ret1, V.okArg, and_true, true_and, initS, initE, Sw, Sx, Sb, pure_s2b, ↓reduceIte, Nat.reduceEqDiff, Nat.reduceAdd, Nat.reduceMul, Nat.reduceDiv, AOp.sb, AOp.mut, ↓Bool.false_eq_true, beq_self_eq_true, ite_self, decide_eq_true_eq, decide_true, decide_false, Nat.reduceLeDiff, c0, c1, c2, c3, c13, Int.cast_ofNat_Int, Int.reduceEq, Int.reduceSub, Int.reduceAdd, Int.reduceNeg, Int.reduceLT, Int.reduceLE, Nat.reduceLT, W_len, D_len, Bl_len, Nat.div_one, Nat.mul_one, tn_nat, W_nf, D_nf, Bl_nf, W_nil, D_nil, Bl_nil, tmod_64, tdiv_64, wi, wu, nv_dgB, chk_of, e2, e]
  · have e : shrR (nv B a) n = (dg B (nv B a / 2 ^ n.toNat), 0) := if_neg h1
    have e2 : lowR (nv B a) n = dg B (nv B a % 2 ^ n.toNat) := if_neg h1
    rw [e2]
    obtain ⟨k, rfl⟩ : ∃ k : Nat, n = (k : Int) := ⟨n.toNat, by omega⟩
    rw [show ((k : Nat) : Int).toNat = k from rfl] at e ⊢
    by_cases h2 : (a.length : Int) ≤ ((k / 64 : Nat) : Int)
    · have e3 : nv B a % 2 ^ k = nv B a := by
        refine Nat.mod_eq_of_lt ?_
        rw [pow_split]
        exact Nat.lt_of_lt_of_le (Nat.lt_of_lt_of_le (nv_lt ha) (Nat.pow_le_pow_right B0 (by omega : a.length ≤ k / 64))) (Nat.le_mul_of_pos_right _ (Nat.pow_pos (by decide)))
      repeat first | (refine hK _ ?_; clear hK K) | simp only [Sv, ↓reduceIte, Nat.reduceEqDiff] | ((first | refine vm_reg (fun K hK => ?_) | refine vm_dreg (fun K hK => ?_)); simp (disch := (first | omega | assumption)) only [initS, initE, Sw, Sx, Sb, pure_s2b, ↓reduceIte, Nat.reduceEqDiff, Nat.reduceAdd, Nat.reduceMul, Nat.reduceDiv, AOp.sb, AOp.mut, ↓Bool.false_eq_true, beq_self_eq_true, ite_self, decide_eq_true_eq, decide_true, decide_false, Nat.reduceLeDiff, c0, c1, c2, c3, c13, Int.cast_ofNat_Int, Int.reduceEq, Int.reduceSub, Int.reduceAdd, Int.reduceNeg, Int.reduceLT, Int.reduceLE, Nat.reduceLT, W_len, D_len, Bl_len, Nat.div_one, Nat.mul_one, tn_nat, W_nf, D_nf, Bl_nf, W_nil, D_nil, Bl_nil, tmod_64, tdiv_64, wi, wu, nv_dgB, chk_of, e])
      refine clp_of _ _ (shr_spec a k ha la hn) ?_ ?_
      · first | rfl | (simp (disch := (first | omega | assumption)) only [initS, initE, Sw, Sx, Sb, pure_s2b, ↓reduceIte, Nat.reduceEqDiff, Nat.reduceAdd, Nat.reduceMul, Nat.reduceDiv, AOp.sb, AOp.mut, ↓Bool.false_eq_true, beq_self_eq_true, ite_self, decide_eq_true_eq, decide_true, decide_false, Nat.reduceLeDiff, c0, c1, c2, c3, c13, Int.cast_ofNat_Int, Int.reduceEq, Int.reduceSub, Int.reduceAdd, Int.reduceNeg, Int.reduceLT, Int.reduceLE, Nat.reduceLT, W_len, D_len, Bl_len, Nat.div_one, Nat.mul_one, tn_nat, W_nf, D_nf, Bl_nf, W_nil, D_nil, Bl_nil, tmod_64, tdiv_64, wi, wu, nv_dgB, chk_of, e])
      simp (disch := (first | omega | assumption)) only [initS, initE, Sw, Sx, Sb, pure_s2b, ↓reduceIte, Nat.reduceEqDiff, Nat.reduceAdd, Nat.reduceMul, Nat.reduceDiv, AOp.sb, AOp.mut, ↓Bool.false_eq_true, beq_self_eq_true, ite_self, decide_eq_true_eq, decide_true, decide_false, Nat.reduceLeDiff, c0, c1, c2, c3, c13, Int.cast_ofNat_Int, Int.reduceEq, Int.reduceSub, Int.reduceAdd, Int.reduceNeg, Int.reduceLT, Int.reduceLE, Nat.reduceLT, W_len, D_len, Bl_len, Nat.div_one, Nat.mul_one, tn_nat, W_nf, D_nf, Bl_nf, W_nil, D_nil, Bl_nil, tmod_64, tdiv_64, wi, wu, nv_dgB, chk_of, e]
      repeat first | (refine hK _ ?_; clear hK K) | simp only [Sv, ↓reduceIte, Nat.reduceEqDiff] | ((first | refine vm_reg (fun K hK => ?_) | refine vm_dreg (fun K hK => ?_)); simp (disch := (first | omega | assumption)) only [initS, initE, Sw, Sx, Sb, pure_s2b, ↓reduceIte, Nat.reduceEqDiff, Nat.reduceAdd, Nat.reduceMul, Nat.reduceDiv, AOp.sb, AOp.mut, ↓Bool.false_eq_true, beq_self_eq_true, ite_self, decide_eq_true_eq, decide_true, decide_false, Nat.reduceLeDiff, c0, c1, c2, c3, c13, Int.cast_ofNat_Int, Int.reduceEq, Int.reduceSub, Int.reduceAdd, Int.reduceNeg, Int.reduceLT, Int.reduceLE, Nat.reduceLT, W_len, D_len, Bl_len, Nat.div_one, Nat.mul_one, tn_nat, W_nf, D_nf, Bl_nf, W_nil, D_nil, Bl_nil, tmod_64, tdiv_64, wi, wu, nv_dgB, chk_of, h2])
      refine clp_of _ _ (own_dg a ha (by omega)) ?_ ?_
      · first | rfl | (simp (disch := (first | omega | assumption)) only [initS, initE, Sw, Sx, Sb, pure_s2b, ↓reduceIte, Nat.reduceEqDiff, Nat.reduceAdd, Nat.reduceMul, Nat.reduceDiv, AOp.sb, AOp.mut, ↓Bool.false_eq_true, beq_self_eq_true, ite_self, decide_eq_true_eq, decide_true, decide_false, Nat.reduceLeDiff, c0, c1, c2, c3, c13, Int.cast_ofNat_Int, Int.reduceEq, Int.reduceSub, Int.reduceAdd, Int.reduceNeg, Int.reduceLT, Int.reduceLE, Nat.reduceLT, W_len, D_len, Bl_len, Nat.div_one, Nat.mul_one, tn_nat, W_nf, D_nf, Bl_nf, W_nil, D_nil, Bl_nil, tmod_64, tdiv_64, wi, wu, nv_dgB, chk_of, h2])
      simp (disch := (first | omega | assumption)) only [initS, initE, Sw, Sx, Sb, pure_s2b, ↓reduceIte, Nat.reduceEqDiff, Nat.reduceAdd, Nat.reduceMul, Nat.reduceDiv, AOp.sb, AOp.mut, ↓Bool.false_eq_true, beq_self_eq_true, ite_self, decide_eq_true_eq, decide_true, decide_false, Nat.reduceLeDiff, c0, c1, c2, c3, c13, Int.cast_ofNat_Int, Int.reduceEq, Int.reduceSub, Int.reduceAdd, Int.reduceNeg, Int.reduceLT, Int.reduceLE, Nat.reduceLT, W_len, D_len, Bl_len, Nat.div_one, Nat.mul_one, tn_nat, W_nf, D_nf, Bl_nf, W_nil, D_nil, Bl_nil, tmod_64, tdiv_64, wi, wu, nv_dgB, chk_of, h2]
      repeat first | (refine hK _ ?_; clear hK K) | simp only [Sv, ↓reduceIte, Nat.reduceEqDiff] | ((first | refine vm_reg (fun K hK => ?_) | refine vm_dreg (fun K hK => ?_)); simp (disch := (first | omega | assumption)) only [initS, initE, Sw, Sx, Sb, pure_s2b, ↓reduceIte, Nat.reduceEqDiff, Nat.reduceAdd, Nat.reduceMul, Nat.reduceDiv, AOp.sb, AOp.mut, ↓Bool.false_eq_true, beq_self_eq_true, ite_self, decide_eq_true_eq, decide_true, decide_false, Nat.reduceLeDiff, c0, c1, c2, c3, c13, Int.cast_ofNat_Int, Int.reduceEq, Int.reduceSub, Int.reduceAdd, Int.reduceNeg, Int.reduceLT, Int.reduceLE, Nat.reduceLT, W_len, D_len, Bl_len, Nat.div_one, Nat.mul_one, tn_nat, W_nf, D_nf, Bl_nf, W_nil, D_nil, Bl_nil, tmod_64, tdiv_64, wi, wu, nv_dgB, chk_of, e3, e])
      simp (disch := (first | omega | assumption)) only [retOk, retN, ret1, V.okArg, and_true, true_and, initS, initE, Sw, Sx, Sb, pure_s2b, ↓reduceIte, Nat.reduceEqDiff, Nat.reduceAdd, Nat.reduceMul, Nat.reduceDiv, AOp.sb, AOp.mut, ↓Bool.false_eq_true, beq_self_eq_true, ite_self, decide_eq_true_eq, decide_true, decide_false, Nat.reduceLeDiff, c0, c1, c2, c3, c13, Int.cast_ofNat_Int, Int.reduceEq, Int.reduceSub, Int.reduceAdd, Int.reduceNeg, Int.reduceLT, Int.reduceLE, Nat.reduceLT, W_len, D_len, Bl_len, Nat.div_one, Nat.mul_one, tn_nat, W_nf, D_nf, Bl_nf, W_nil, D_nil, Bl_nil, tmod_64, tdiv_64, wi, wu, nv_dgB, chk_of, e3, e]
    · have hr64 : k % 64 < 64 := Nat.mod_lt _ (by decide)
      have e3 : nv B a % 2 ^ k = nv B ((a.take (k / 64 + 1)).set (k / 64) (a.getD (k / 64) 0 % 2 ^ (k % 64))) := by
        rw [pow_split, Nat.mod_mul, ← nv_mod B0 ha]
        have hx := nv_digit (b := B) B0 ha (k / 64)
        have hm : nv B a / B ^ (k / 64) % 2 ^ (k % 64) = a.getD (k / 64) 0 % 2 ^ (k % 64) := by
          rw [hx, show B = 2 ^ (k % 64) * 2 ^ (64 - k % 64) from by rw [← Nat.pow_add, show k % 64 + (64 - k % 64) = 64 from by omega]; rfl, Nat.mod_mul_right_mod]
        have hl : (a.take (k / 64)).length = k / 64 := by rw [List.length_take]; omega
        rw [hm, List.take_succ_eq_append_getElem (by omega), List.set_append_right _ _ (by omega), hl, Nat.sub_self, List.set_cons_zero, nv_app, hl, nv_one]
      have hset : Wd ((a.take (k / 64 + 1)).set (k / 64) (a.getD (k / 64) 0 % 2 ^ (k % 64))) := Lt_set (Lt_take ha _) _ _ (Nat.lt_of_le_of_lt (Nat.mod_le _ _) (Wd_get ha _))
      rw [e3]
      have hx := Wd_get ha (k / 64)
      have hp : 2 ^ (k % 64) < 18446744073709551616 := by
        have : (2 : Nat) ^ (k % 64) < 2 ^ 64 := Nat.pow_lt_pow_right (by decide) hr64
        exact this
      have hand := band64 (a.getD (k / 64) 0) (2 ^ (k % 64) - 1) hx (by omega)
      rw [Nat.and_two_pow_sub_one_eq_mod] at hand
      have hg : (a.take (k / 64 + 1)).getD (k / 64) 0 = a.getD (k / 64) 0 := by
        rw [List.getD_eq_getElem?_getD, List.getElem?_take_of_lt (by omega), ← List.getD_eq_getElem?_getD]
      have hls : (a.take (k / 64 + 1)).length = k / 64 + 1 := by rw [List.length_take]; omega
      have hsh := shl1 (k % 64) hr64
      have hpr := pred2 (k % 64)
      generalize hr : k % 64 = r at *
      generalize hw : k / 64 = w at *
      repeat first | (refine hK _ ?_; clear hK K) | simp only [Sv, ↓reduceIte, Nat.reduceEqDiff] | ((first | refine vm_reg (fun K hK => ?_) | refine vm_dreg (fun K hK => ?_)); simp (disch := (first | omega | assumption)) only [initS, initE, Sw, Sx, Sb, pure_s2b, ↓reduceIte, Nat.reduceEqDiff, Nat.reduceAdd, Nat.reduceMul, Nat.reduceDiv, AOp.sb, AOp.mut, ↓Bool.false_eq_true, beq_self_eq_true, ite_self, decide_eq_true_eq, decide_true, decide_false, Nat.reduceLeDiff, c0, c1, c2, c3, c13, Int.cast_ofNat_Int, Int.reduceEq, Int.reduceSub, Int.reduceAdd, Int.reduceNeg, Int.reduceLT, Int.reduceLE, Nat.reduceLT, W_len, D_len, Bl_len, Nat.div_one, Nat.mul_one, tn_nat, W_nf, D_nf, Bl_nf, W_nil, D_nil, Bl_nil, tmod_64, tdiv_64, wi, wu, nv_dgB, chk_of, e])
      refine clp_of _ _ (shr_spec a k ha la hn) ?_ ?_
      · first | rfl | (simp (disch := (first | omega | assumption)) only [initS, initE, Sw, Sx, Sb, pure_s2b, ↓reduceIte, Nat.reduceEqDiff, Nat.reduceAdd, Nat.reduceMul, Nat.reduceDiv, AOp.sb, AOp.mut, ↓Bool.false_eq_true, beq_self_eq_true, ite_self, decide_eq_true_eq, decide_true, decide_false, Nat.reduceLeDiff, c0, c1, c2, c3, c13, Int.cast_ofNat_Int, Int.reduceEq, Int.reduceSub, Int.reduceAdd, Int.reduceNeg, Int.reduceLT, Int.reduceLE, Nat.reduceLT, W_len, D_len, Bl_len, Nat.div_one, Nat.mul_one, tn_nat, W_nf, D_nf, Bl_nf, W_nil, D_nil, Bl_nil, tmod_64, tdiv_64, wi, wu, nv_dgB, chk_of, e])
      simp (disch := (first | omega | assumption)) only [initS, initE, Sw, Sx, Sb, pure_s2b, ↓reduceIte, Nat.reduceEqDiff, Nat.reduceAdd, Nat.reduceMul, Nat.reduceDiv, AOp.sb, AOp.mut, ↓Bool.false_eq_true, beq_self_eq_true, ite_self, decide_eq_true_eq, decide_true, decide_false, Nat.reduceLeDiff, c0, c1, c2, c3, c13, Int.cast_ofNat_Int, Int.reduceEq, Int.reduceSub, Int.reduceAdd, Int.reduceNeg, Int.reduceLT, Int.reduceLE, Nat.reduceLT, W_len, D_len, Bl_len, Nat.div_one, Nat.mul_one, tn_nat, W_nf, D_nf, Bl_nf, W_nil, D_nil, Bl_nil, tmod_64, tdiv_64, wi, wu, nv_dgB, chk_of, e]
      repeat first | (refine hK _ ?_; clear hK K) | simp only [Sv, ↓reduceIte, Nat.reduceEqDiff] | ((first | refine vm_reg (fun K hK => ?_) | refine vm_dreg (fun K hK => ?_)); simp (disch := (first | omega | assumption)) only [initS, initE, Sw, Sx, Sb, pure_s2b, ↓reduceIte, Nat.reduceEqDiff, Nat.reduceAdd, Nat.reduceMul, Nat.reduceDiv, AOp.sb, AOp.mut, ↓Bool.false_eq_true, beq_self_eq_true, ite_self, decide_eq_true_eq, decide_true, decide_false, Nat.reduceLeDiff, c0, c1, c2, c3, c13, Int.cast_ofNat_Int, Int.reduceEq, Int.reduceSub, Int.reduceAdd, Int.reduceNeg, Int.reduceLT, Int.reduceLE, Nat.reduceLT, W_len, D_len, Bl_len, Nat.div_one, Nat.mul_one, tn_nat, W_nf, D_nf, Bl_nf, W_nil, D_nil, Bl_nil, tmod_64, tdiv_64, wi, wu, nv_dgB, chk_of, hw, h2, W_take, tn_add1])
      refine clp_of _ _ (cloneN_spec (a.take (w + 1)) (by omega)) ?_ ?_
      · first | rfl | (simp (disch := (first | omega | assumption)) only [initS, initE, Sw, Sx, Sb, pure_s2b, ↓reduceIte, Nat.reduceEqDiff, Nat.reduceAdd, Nat.reduceMul, Nat.reduceDiv, AOp.sb, AOp.mut, ↓Bool.false_eq_true, beq_self_eq_true, ite_self, decide_eq_true_eq, decide_true, decide_false, Nat.reduceLeDiff, c0, c1, c2, c3, c13, Int.cast_ofNat_Int, Int.reduceEq, Int.reduceSub, Int.reduceAdd, Int.reduceNeg, Int.reduceLT, Int.reduceLE, Nat.reduceLT, W_len, D_len, Bl_len, Nat.div_one, Nat.mul_one, tn_nat, W_nf, D_nf, Bl_nf, W_nil, D_nil, Bl_nil, tmod_64, tdiv_64, wi, wu, nv_dgB, chk_of, hw, h2, W_take, tn_add1])
      simp (disch := (first | omega | assumption)) only [initS, initE, Sw, Sx, Sb, pure_s2b, ↓reduceIte, Nat.reduceEqDiff, Nat.reduceAdd, Nat.reduceMul, Nat.reduceDiv, AOp.sb, AOp.mut, ↓Bool.false_eq_true, beq_self_eq_true, ite_self, decide_eq_true_eq, decide_true, decide_false, Nat.reduceLeDiff, c0, c1, c2, c3, c13, Int.cast_ofNat_Int, Int.reduceEq, Int.reduceSub, Int.reduceAdd, Int.reduceNeg, Int.reduceLT, Int.reduceLE, Nat.reduceLT, W_len, D_len, Bl_len, Nat.div_one, Nat.mul_one, tn_nat, W_nf, D_nf, Bl_nf, W_nil, D_nil, Bl_nil, tmod_64, tdiv_64, wi, wu, nv_dgB, chk_of, hw, h2, W_take, tn_add1]
      repeat first | (refine hK _ ?_; clear hK K) | simp only [Sv, ↓reduceIte, Nat.reduceEqDiff] | ((first | refine vm_reg (fun K hK => ?_) | refine vm_dreg (fun K hK => ?_)); simp (disch := (first | omega | assumption)) only [initS, initE, Sw, Sx, Sb, pure_s2b, ↓reduceIte, Nat.reduceEqDiff, Nat.reduceAdd, Nat.reduceMul, Nat.reduceDiv, AOp.sb, AOp.mut, ↓Bool.false_eq_true, beq_self_eq_true, ite_self, decide_eq_true_eq, decide_true, decide_false, Nat.reduceLeDiff, c0, c1, c2, c3, c13, Int.cast_ofNat_Int, Int.reduceEq, Int.reduceSub, Int.reduceAdd, Int.reduceNeg, Int.reduceLT, Int.reduceLE, Nat.reduceLT, W_len, D_len, Bl_len, Nat.div_one, Nat.mul_one, tn_nat, W_nf, D_nf, Bl_nf, W_nil, D_nil, Bl_nil, tmod_64, tdiv_64, wi, wu, nv_dgB, chk_of, hw, hr, h2, W_get, hls, hg, hsh, hpr, hand, W_set])
      refine clp_of _ _ (own_dg ((a.take (w + 1)).set w (a.getD w 0 % 2 ^ r)) hset (by rw [List.length_set]; omega)) ?_ ?_
      · first | rfl | (simp (disch := (first | omega | assumption)) only [initS, initE, Sw, Sx, Sb, pure_s2b, ↓reduceIte, Nat.reduceEqDiff, Nat.reduceAdd, Nat.reduceMul, Nat.reduceDiv, AOp.sb, AOp.mut, ↓Bool.false_eq_true, beq_self_eq_true, ite_self, decide_eq_true_eq, decide_true, decide_false, Nat.reduceLeDiff, c0, c1, c2, c3, c13, Int.cast_ofNat_Int, Int.reduceEq, Int.reduceSub, Int.reduceAdd, Int.reduceNeg, Int.reduceLT, Int.reduceLE, Nat.reduceLT, W_len, D_len, Bl_len, Nat.div_one, Nat.mul_one, tn_nat, W_nf, D_nf, Bl_nf, W_nil, D_nil, Bl_nil, tmod_64, tdiv_64, wi, wu, nv_dgB, chk_of, hw, hr, h2, W_get, hls, hg, hsh, hpr, hand, W_set])
      simp (disch := (first | omega | assumption)) only [initS, initE, Sw, Sx, Sb, pure_s2b, ↓reduceIte, Nat.reduceEqDiff, Nat.reduceAdd, Nat.reduceMul, Nat.reduceDiv, AOp.sb, AOp.mut, ↓Bool.false_eq_true, beq_self_eq_true, ite_self, decide_eq_true_eq, decide_true, decide_false, Nat.reduceLeDiff, c0, c1, c2, c3, c13, Int.cast_ofNat_Int, Int.reduceEq, Int.reduceSub, Int.reduceAdd, Int.reduceNeg, Int.reduceLT, Int.reduceLE, Nat.reduceLT, W_len, D_len, Bl_len, Nat.div_one, Nat.mul_one, tn_nat, W_nf, D_nf, Bl_nf, W_nil, D_nil, Bl_nil, tmod_64, tdiv_64, wi, wu, nv_dgB, chk_of, hw, hr, h2, W_get, hls, hg, hsh, hpr, hand, W_set]
      repeat first | (refine hK _ ?_; clear hK K) | simp only [Sv, ↓reduceIte, Nat.reduceEqDiff] | ((first | refine vm_reg (fun K hK => ?_) | refine vm_dreg (fun K hK => ?_)); simp (disch := (first | omega | assumption)) only [initS, initE, Sw, Sx, Sb, pure_s2b, ↓reduceIte, Nat.reduceEqDiff, Nat.reduceAdd, Nat.reduceMul, Nat.reduceDiv, AOp.sb, AOp.mut, ↓Bool.false_eq_true, beq_self_eq_true, ite_self, decide_eq_true_eq, decide_true, decide_false, Nat.reduceLeDiff, c0, c1, c2, c3, c13, Int.cast_ofNat_Int, Int.reduceEq, Int.reduceSub, Int.reduceAdd, Int.reduceNeg, Int.reduceLT, Int.reduceLE, Nat.reduceLT, W_len, D_len, Bl_len, Nat.div_one, Nat.mul_one, tn_nat, W_nf, D_nf, Bl_nf, W_nil, D_nil, Bl_nil, tmod_64, tdiv_64, wi, wu, nv_dgB, chk_of, e])
      simp (disch := (first | omega | assumption)) only [retOk, retN, ret1, V.okArg, and_true, true_and, initS, initE, Sw, Sx, Sb, pure_s2b, ↓reduceIte, Nat.reduceEqDiff, Nat.reduceAdd, Nat.reduceMul, Nat.reduceDiv, AOp.sb, AOp.mut, ↓Bool.false_eq_true, beq_self_eq_true, ite_self, decide_eq_true_eq, decide_true, decide_false, Nat.reduceLeDiff, c0, c1, c2, c3, c13, Int.cast_ofNat_Int, Int.reduceEq, Int.reduceSub, Int.reduceAdd, Int.reduceNeg, Int.reduceLT, Int.reduceLE, Nat.reduceLT, W_len, D_len, Bl_len, Nat.div_one, Nat.mul_one, tn_nat, W_nf, D_nf, Bl_nf, W_nil, D_nil, Bl_nil, tmod_64, tdiv_64, wi, wu, nv_dgB, chk_of, e]
end Go.Proofs.Ytjabgieajkgkfaa
