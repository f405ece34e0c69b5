/-
  DivTimes: the law's walk.
-/
import Derived.Test.YtngohbpgdeiodaaP2
import Derived.Test.YtngohbpgdeiodaaLKn
import Derived.Test.YtngohbpgdeiodaaLOften
namespace Go.Proofs.Ytngohbpgdeiodaa
open Go Go.RowKit Ab
set_option linter.unusedSimpArgs false
set_option linter.unusedVariables false
set_option maxHeartbeats 10000000

theorem oft_pow {v c : Nat} (hv : 2 ≤ v) (hc : c % v ≠ 0) (h0 : 0 < c) : ∀ k f, k ≤ f → oft v f (c * v ^ k) = (k, c)
  | 0, f, _ => by rw [Nat.pow_zero, Nat.mul_one]; exact oft_no hc
  | k + 1, 0, h => by omega
  | k + 1, f + 1, h => by
    have e : c * v ^ (k + 1) = c * v ^ k * v := by rw [Nat.pow_succ, Nat.mul_assoc]
    rw [oft_yes (by rw [e, Nat.mul_mod_left]), e, Nat.mul_div_cancel _ (by omega : 0 < v), oft_pow hv hc h0 k f (by omega)]
theorem pow_big {v c : Nat} (hv : 2 ≤ v) (h0 : 0 < c) (k : Nat) : k ≤ c * v ^ k := by
  have h1 : 2 ^ k ≤ v ^ k := Nat.pow_le_pow_left hv k
  have h2 : 1 * v ^ k ≤ c * v ^ k := Nat.mul_le_mul_right _ h0
  have h3 : k < 2 ^ k := Nat.lt_two_pow_self
  omega
theorem pow_len {c v m : Nat} (hc : c < B ^ m) (hv : v < B ^ m) : ∀ k, c * v ^ k < B ^ (m * (k + 1))
  | 0 => by rw [Nat.pow_zero, Nat.mul_one, Nat.zero_add, Nat.mul_one]; exact hc
  | k + 1 => by
    rw [Nat.pow_succ, ← Nat.mul_assoc, Nat.mul_succ, Nat.pow_add]
    exact Nat.mul_lt_mul_of_lt_of_lt (pow_len hc hv k) hv
theorem kmod (n : Int) : ∃ k : Nat, IntKind.i64.wrap ((IntKind.u64.wrap n).tmod 9) = (k : Int) ∧ k < 9 := by
  have h : 0 ≤ IntKind.u64.wrap n := by rw [IntKind.wrap_u64]; omega
  obtain ⟨x, hx⟩ : ∃ x : Nat, IntKind.u64.wrap n = (x : Int) := ⟨(IntKind.u64.wrap n).toNat, by omega⟩
  refine ⟨x % 9, ?_, Nat.mod_lt _ (by decide)⟩
  rw [hx, show ((x : Int)).tmod 9 = ((x % 9 : Nat) : Int) from rfl, wi (by omega)]
/-- c, or one more: not a multiple of v -/
def nxc (c v : Nat) : Nat := if c % v = 0 then c + 1 else c
theorem nxc_ok {c v : Nat} (hv : 2 ≤ v) : nxc c v % v ≠ 0 ∧ 0 < nxc c v := by
  unfold nxc
  split
  · rename_i h
    refine ⟨?_, Nat.succ_pos _⟩
    rw [Nat.add_mod, h, Nat.zero_add, Nat.mod_mod, Nat.mod_eq_of_lt (by omega)]; decide
  · rename_i h
    refine ⟨h, Nat.pos_of_ne_zero fun h0 => h ?_⟩
    rw [h0, Nat.zero_mod]
-- surd/surdlaw04.DivTimes
def a7 : AC := .seq (.reg [⟨some 6, none, .mv (.k (.b false))⟩])
  (.seq (.seq (.reg [⟨some 18, none, .call 11 []⟩, 
        ⟨some 19, none, .un .not (.t 18)⟩])
    (.cond (.t 19)
    (.seq (.reg [⟨some 6, none, .mv (.k (.b false))⟩])
      (.ret))
    (.skip)))
  (.seq (.reg [⟨some 20, none, .mv (.t 2)⟩, 
      ⟨some 21, none, .cvt .u64 (.t 20)⟩, 
      ⟨some 22, none, .bin .rem (.t 21) (.k (.i .u64 9))⟩, 
      ⟨some 23, none, .cvt .i64 (.t 22)⟩, 
      ⟨some 2, none, .mv (.t 23)⟩])
  (.seq (.reg [⟨some 24, none, .mv (.t 1)⟩, 
      ⟨some 25, none, .bsl 29 1 1 [(.i .u64 0)] [(0, (.k (.i .u64 2)))]⟩, 
      ⟨some 26, none, .call 35 [(1, (.t 24)), (1, (.t 25))]⟩, 
      ⟨some 1, none, .mv (.t 26)⟩])
  (.seq (.reg [⟨some 27, none, .mv (.t 0)⟩, 
      ⟨some 28, none, .call 38 [(1, (.t 27))]⟩, 
      ⟨some 0, none, .mv (.t 28)⟩])
  (.seq (.seq (.reg [⟨some 29, none, .mv (.t 1)⟩, 
        ⟨some 30, none, .mv (.t 0)⟩, 
        ⟨some 31, none, .call 20 [(1, (.t 29)), (1, (.t 30))]⟩])
    (.cond (.t 31)
    (.reg [⟨some 32, none, .mv (.t 0)⟩, 
        ⟨some 33, none, .bsl 29 1 1 [(.i .u64 0)] [(0, (.k (.i .u64 1)))]⟩, 
        ⟨some 34, none, .call 35 [(1, (.t 32)), (1, (.t 33))]⟩, 
        ⟨some 0, none, .mv (.t 34)⟩])
    (.skip)))
  (.seq (.reg [⟨some 35, none, .mv (.t 0)⟩, 
      ⟨some 7, none, .mv (.t 35)⟩])
  (.seq (.seq (.reg [⟨some 8, none, .mv (.k (.i .i64 0))⟩])
    (.blk 0
    (.loop
      (.seq (.seq (.reg [⟨some 36, none, .mv (.t 8)⟩, 
              ⟨some 37, none, .mv (.t 2)⟩, 
              ⟨some 38, none, .bin .lss (.t 36) (.t 37)⟩])
          (.cond (.t 38)
          (.skip)
          (.exit 0)))
        (.seq (.blk 1
          (.reg [⟨some 41, none, .mv (.t 7)⟩, 
              ⟨some 42, none, .mv (.t 1)⟩, 
              ⟨some 43, none, .call 36 [(1, (.t 41)), (1, (.t 42))]⟩, 
              ⟨some 7, none, .mv (.t 43)⟩]))
        (.reg [⟨some 39, none, .mv (.t 8)⟩, 
          ⟨some 40, none, .bin .add (.t 39) (.k (.i .i64 1))⟩, 
          ⟨some 8, none, .mv (.t 40)⟩]))))))
  (.seq (.reg [⟨some 45, none, .mv (.t 7)⟩, 
      ⟨some 46, none, .mv (.t 1)⟩, 
      ⟨some 47, none, .call 13 [(1, (.t 45)), (1, (.t 46))]⟩, 
      ⟨some 44, none, .mv (.t 47)⟩, 
      ⟨some 48, none, .ext (.t 44) 0⟩, 
      ⟨some 49, none, .ext (.t 44) 1⟩, 
      ⟨some 50, none, .ext (.t 44) 2⟩, 
      ⟨some 9, none, .mv (.t 48)⟩, 
      ⟨some 10, none, .mv (.t 49)⟩, 
      ⟨some 11, none, .mv (.t 50)⟩])
  (.seq (.reg [⟨some 52, none, .mv (.t 1)⟩, 
      ⟨some 53, none, .call 13 [(1, (.k .nl)), (1, (.t 52))]⟩, 
      ⟨some 51, none, .mv (.t 53)⟩, 
      ⟨some 54, none, .ext (.t 51) 0⟩, 
      ⟨some 55, none, .ext (.t 51) 1⟩, 
      ⟨some 56, none, .ext (.t 51) 2⟩, 
      ⟨some 12, none, .mv (.t 54)⟩, 
      ⟨some 13, none, .mv (.t 55)⟩, 
      ⟨some 14, none, .mv (.t 56)⟩])
  (.seq (.reg [⟨some 58, none, .mv (.t 7)⟩, 
      ⟨some 59, none, .bsl 29 1 2 [(.i .u64 0), (.i .u64 0)] [(0, (.k (.i .u64 1))), (1, (.k (.i .u64 0)))]⟩, 
      ⟨some 60, none, .call 13 [(1, (.t 58)), (1, (.t 59))]⟩, 
      ⟨some 57, none, .mv (.t 60)⟩, 
      ⟨some 61, none, .ext (.t 57) 0⟩, 
      ⟨some 62, none, .ext (.t 57) 1⟩, 
      ⟨some 63, none, .ext (.t 57) 2⟩, 
      ⟨some 15, none, .mv (.t 61)⟩, 
      ⟨some 16, none, .mv (.t 62)⟩, 
      ⟨some 17, none, .mv (.t 63)⟩])
  (.seq (.reg [⟨some 64, none, .mv (.t 11)⟩, 
      ⟨some 65, none, .bin .eql (.t 64) (.k (.i .i64 0))⟩, 
      ⟨some 66, none, .mv (.t 65)⟩, 
      ⟨some 67, some (66, true), .mv (.t 9)⟩, 
      ⟨some 68, some (66, true), .mv (.t 2)⟩, 
      ⟨some 69, some (66, true), .bin .eql (.t 67) (.t 68)⟩, 
      ⟨some 70, none, .pick (.t 66) (.t 69) (.k (.b false))⟩, 
      ⟨some 71, none, .mv (.t 70)⟩, 
      ⟨some 72, some (71, true), .mv (.t 10)⟩, 
      ⟨some 73, some (71, true), .mv (.t 0)⟩, 
      ⟨some 74, some (71, true), .call 14 [(1, (.t 72)), (1, (.t 73))]⟩, 
      ⟨some 75, none, .pick (.t 71) (.t 74) (.k (.b false))⟩, 
      ⟨some 76, none, .mv (.t 75)⟩, 
      ⟨some 77, some (76, true), .mv (.t 14)⟩, 
      ⟨some 78, some (76, true), .bin .eql (.t 77) (.k (.i .i64 1))⟩, 
      ⟨some 79, none, .pick (.t 76) (.t 78) (.k (.b false))⟩, 
      ⟨some 80, none, .mv (.t 79)⟩, 
      ⟨some 81, some (80, true), .mv (.t 17)⟩, 
      ⟨some 82, some (80, true), .bin .eql (.t 81) (.k (.i .i64 3))⟩, 
      ⟨some 83, none, .pick (.t 80) (.t 82) (.k (.b false))⟩, 
      ⟨some 6, none, .mv (.t 83)⟩])
  (.ret))))))))))))
theorem divTimes_spec (c b : List Nat) (n : Int) (hc : Wd c) (hb : Wd b) (lc : c.length ≤ 2000000) (lb : b.length ≤ 2000000) : AFun Try.prog J0 7 [.l 1 (W c), .l 1 (W b), .i .i64 n] (.b true) := by
  obtain ⟨m, hm⟩ : ∃ m, m = 2000000 := ⟨_, rfl⟩
  rw [← hm] at lc lb
  obtain ⟨k, hk, hk9⟩ := kmod n
  have hbB := nvlt hb lb
  have hcB := nvlt hc lc
  have w1 : Wd [1] := Wd1 (by decide)
  have w2 : Wd [2] := Wd1 (by decide)
  have hab := (add_spec b [2] hb w2 (by omega) (by simp)).frozen
  rw [nv_one] at hab
  have hno := (norm_dg c hc (by omega)).frozen
  obtain ⟨v, hv⟩ : ∃ v, v = nv B b + 2 := ⟨_, rfl⟩
  have hv2 : 2 ≤ v := by omega
  have p1 : B ^ m * 2 ≤ B ^ (m + 1) := Nat.mul_le_mul_left _ B2
  have pm := Nat.pow_pos (n := m) (by decide : 0 < B)
  have pB : B ^ m + 2 ≤ B ^ (m + 1) := by
    have := Nat.mul_le_mul_left (B ^ m) (show 3 ≤ B by decide)
    rw [Nat.pow_succ]; omega
  have hvB : v < B ^ (m + 1) := by omega
  rw [← hv] at hab
  have hdv := divides_spec (dg B v) (dg B (nv B c)) (Wd_dg _) (Wd_dg _) (by have := dlen hvB; omega) (by have := dlen hcB; omega)
  rw [nv_dgB, nv_dgB, dvB, if_neg (by omega)] at hdv
  have had := (add_spec (dg B (nv B c)) [1] (Wd_dg _) w1 (by have := dlen hcB; omega) (by simp)).frozen
  rw [nv_dgB, nv_one] at had
  obtain ⟨o1, o2⟩ := nxc_ok (c := nv B c) hv2
  have hc1B : nxc (nv B c) v < B ^ (m + 1) := by unfold nxc; split <;> omega
  have hpl := pow_len hc1B hvB
  have hpl2 : ∀ i, i ≤ 9 → (dg B (nxc (nv B c) v * v ^ i)).length ≤ 20000010 := fun i hi => by
    have h1 := dlen (hpl i)
    have h2 : (m + 1) * (i + 1) ≤ (m + 1) * 10 := Nat.mul_le_mul_left _ (by omega)
    omega
  have hmul := fun i (hi : i ≤ 9) => mul_spec (dg B (nxc (nv B c) v * v ^ i)) (dg B v) (Wd_dg _) (Wd_dg _) (by have := hpl2 i hi; omega) (by have := dlen hvB; omega)
  simp only [nv_dgB, Nat.mul_assoc, ← Nat.pow_succ] at hmul
  have hof := often_spec (dg B (nxc (nv B c) v * v ^ k)) (dg B v) (Wd_dg _) (Wd_dg _) (by have := hpl2 k (by omega); omega) (by have := dlen hvB; omega)
  rw [nv_dgB, nv_dgB] at hof
  have hpp : 0 < nxc (nv B c) v * v ^ k := Nat.mul_pos o2 (Nat.pow_pos (by omega))
  have hop := oft_pow hv2 o1 o2 k (nxc (nv B c) v * v ^ k) (pow_big hv2 o2 k)
  rw [show ofN (nxc (nv B c) v * v ^ k) v = k from (if_neg (by omega)).trans (by rw [hop]), show ofL (nxc (nv B c) v * v ^ k) v = dg B (nxc (nv B c) v) from (if_neg (by omega)).trans (by rw [hop]), show ofE (nxc (nv B c) v * v ^ k) v = 0 from (if_neg (by omega)).trans (if_neg (by omega))] at hof
  have hof2 := often_spec [] (dg B v) Wd_nil (Wd_dg _) (by simp) (by have := dlen hvB; omega)
  rw [show ofN (nv B []) (nv B (dg B v)) = 0 from if_pos (.inl rfl), show ofL (nv B []) (nv B (dg B v)) = [] from if_pos (.inl rfl), show ofE (nv B []) (nv B (dg B v)) = 1 from if_pos rfl] at hof2
  have hof3 := often_spec (dg B (nxc (nv B c) v * v ^ k)) [1, 0] (Wd_dg _) (fun x hx => by simp at hx; show x < 18446744073709551616; omega) (by have := hpl2 k (by omega); omega) (by simp)
  rw [nv_dgB, show nv B [1, 0] = 1 from rfl, show ofN (nxc (nv B c) v * v ^ k) 1 = 0 from if_pos (.inr (by decide)), show ofL (nxc (nv B c) v * v ^ k) 1 = [] from if_pos (.inr (by decide)), show ofE (nxc (nv B c) v * v ^ k) 1 = 3 from (if_neg (by omega)).trans (if_pos (by decide))] at hof3
  have hsm := same_true (rfl : dg B (nxc (nv B c) v) = dg B (nxc (nv B c) v)) (by have := dlen hc1B; omega)
  have hne : ¬ (9 : Int) = 0 := by decide
  generalize hX : nxc (nv B c) v = X at *
  refine AFun.mk fol J0s Try.func7 rfl (ac := a7) (by kernel_rfl) rfl rfl ?_
  apply vm_start
  unfold a7
  simp only [init_eq, initE]
  by_cases hd : nv B c % v = 0
  · have e1 : X = nv B c + 1 := by rw [← hX]; exact if_pos hd
    rw [← e1] at had
    have zc1 := known_spec
    have zc2 := hab
    have zc3 := hno
    have zc4 := hdv
    have zc5 := had
    repeat first | (refine hK _ ?_; clear hK K) | simp only [Sv, ↓reduceIte, Nat.reduceEqDiff] | ((first | refine vm_reg (fun K hK => ?_) | refine vm_dreg (fun K hK => ?_) | refine clp_q ?_ | refine clq_mk (by assumption) ?_); simp (disch := (first | omega | assumption)) only [S1, ↓reduceIte, Nat.reduceEqDiff, Nat.reduceAdd, Nat.reduceMul, Nat.reduceDiv, AOp.sb, AOp.mut, ↓Bool.false_eq_true, beq_self_eq_true, ite_self, Nat.reduceLeDiff, Int.reduceEq, Int.reduceSub, Int.reduceAdd, Int.reduceNeg, Int.reduceLT, Int.reduceLE, Nat.reduceLT, wi, tn_nat, Nat.div_one, Nat.mul_one, W_len, W_nf, W_cell, W_nil, W_get, List.length_nil, List.length_cons, hne, hk, W1, hd])
    refine vm_loopA [] Nat (fun i => ⟨[(0, .l 1 (W (dg B X))), (1, .l 1 (W (dg B v))), (2, .i .i64 (k : Int)), (7, .l 1 (W (dg B (X * v ^ i)))), (8, .i .i64 (i : Int))], [], 0⟩)
      (fun i => i ≤ k) (fun i => k - i) 0 (Nat.zero_le _) (by simp (disch := (first | omega | assumption)) only [Sl, Sa, Sw, ↓reduceIte, Nat.reduceEqDiff, Nat.reduceLT, List.all_nil, List.all_cons, Nat.reduceBneDiff, Nat.reduceAdd, bne_iff_ne, ne_eq, reduceCtorEq, not_false_eq_true, not_true_eq_false, Bool.and_true, Bool.true_and, and_true, true_and, and_self]) (by
      simp (disch := (first | omega | assumption)) only [Sl, Sa, Sw, ↓reduceIte, Nat.reduceEqDiff, Nat.reduceLT, List.all_nil, List.all_cons, Nat.reduceBneDiff, Nat.reduceAdd, bne_iff_ne, ne_eq, reduceCtorEq, not_false_eq_true, not_true_eq_false, Bool.and_true, Bool.true_and, and_true, true_and, and_self, i_eq]
      rw [Nat.pow_zero, Nat.mul_one]
      repeat' first | rfl | omega | (simp only [List.length_append, List.length_cons, List.length_nil]; done) | apply And.intro) ?_
    intro i hi Q' hQ he hr
    by_cases hik : (i : Int) < (k : Int)
    · have hm1 := hmul i (by omega)
      have zc6 := hm1
      repeat first | (refine hK _ ?_; clear hK K) | simp only [Sv, ↓reduceIte, Nat.reduceEqDiff] | ((first | refine vm_reg (fun K hK => ?_) | refine vm_dreg (fun K hK => ?_) | refine clp_q ?_ | refine clq_mk (by assumption) ?_); simp (disch := (first | omega | assumption)) only [S1, ↓reduceIte, Nat.reduceEqDiff, Nat.reduceAdd, Nat.reduceMul, Nat.reduceDiv, AOp.sb, AOp.mut, ↓Bool.false_eq_true, beq_self_eq_true, ite_self, Nat.reduceLeDiff, Int.reduceEq, Int.reduceSub, Int.reduceAdd, Int.reduceNeg, Int.reduceLT, Int.reduceLE, Nat.reduceLT, wi, tn_nat, Nat.div_one, Nat.mul_one, W_len, W_nf, W_cell, W_nil, W_get, List.length_nil, List.length_cons, hik, wi])
      refine hQ _ (i + 1) (by omega) (by omega) ?_
      simp (disch := (first | omega | assumption)) only [Sl, Sa, Sw, ↓reduceIte, Nat.reduceEqDiff, Nat.reduceLT, List.all_nil, List.all_cons, Nat.reduceBneDiff, Nat.reduceAdd, bne_iff_ne, ne_eq, reduceCtorEq, not_false_eq_true, not_true_eq_false, Bool.and_true, Bool.true_and, and_true, true_and, and_self, i_eq]
      repeat' first | rfl | omega | (simp only [List.length_append, List.length_cons, List.length_nil]; done) | apply And.intro
    · obtain rfl : i = k := by omega
      repeat first
        | (refine hK _ ?_; clear hK K)
        | ((first | refine vm_reg (fun K hK => ?_) | refine vm_dreg (fun K hK => ?_)); simp (disch := (first | omega | assumption)) only [S1, ↓reduceIte, Nat.reduceEqDiff, Nat.reduceAdd, Nat.reduceMul, Nat.reduceDiv, AOp.sb, AOp.mut, ↓Bool.false_eq_true, beq_self_eq_true, ite_self, Nat.reduceLeDiff, Int.reduceEq, Int.reduceSub, Int.reduceAdd, Int.reduceNeg, Int.reduceLT, Int.reduceLE, Nat.reduceLT, wi, tn_nat, Nat.div_one, Nat.mul_one, W_len, W_nf, W_cell, W_nil, W_get, List.length_nil, List.length_cons, hik]; refine hK _ ?_; clear hK K)
        | simp only [Sv, ↓reduceIte, Nat.reduceEqDiff]
      refine he _ _ ?_
      have zc7 := hof
      have zc8 := hof2
      have zc9 := hof3
      have zc10 := hsm
      repeat first | (refine hK _ ?_; clear hK K) | simp only [Sv, ↓reduceIte, Nat.reduceEqDiff] | ((first | refine vm_reg (fun K hK => ?_) | refine vm_dreg (fun K hK => ?_) | refine clp_q ?_ | refine clq_mk (by assumption) ?_); simp (disch := (first | omega | assumption)) only [S1, ↓reduceIte, Nat.reduceEqDiff, Nat.reduceAdd, Nat.reduceMul, Nat.reduceDiv, AOp.sb, AOp.mut, ↓Bool.false_eq_true, beq_self_eq_true, ite_self, Nat.reduceLeDiff, Int.reduceEq, Int.reduceSub, Int.reduceAdd, Int.reduceNeg, Int.reduceLT, Int.reduceLE, Nat.reduceLT, wi, tn_nat, Nat.div_one, Nat.mul_one, W_len, W_nf, W_cell, W_nil, W_get, List.length_nil, List.length_cons])
      simp (disch := (first | omega | assumption)) only [retOk, retN, ret1, retF, ret1F, V.okArg, and_true, true_and, S1, ↓reduceIte, Nat.reduceEqDiff, Nat.reduceAdd, Nat.reduceMul, Nat.reduceDiv, AOp.sb, AOp.mut, ↓Bool.false_eq_true, beq_self_eq_true, ite_self, Nat.reduceLeDiff, Int.reduceEq, Int.reduceSub, Int.reduceAdd, Int.reduceNeg, Int.reduceLT, Int.reduceLE, Nat.reduceLT, wi, tn_nat, Nat.div_one, Nat.mul_one, W_len, W_nf, W_cell, W_nil, W_get, List.length_nil, List.length_cons]
  · have e1 : nv B c = X := by rw [← hX]; exact (if_neg hd).symm
    rw [e1] at hno hdv hd
    have zc11 := known_spec
    have zc12 := hab
    have zc13 := hno
    have zc14 := hdv
    repeat first | (refine hK _ ?_; clear hK K) | simp only [Sv, ↓reduceIte, Nat.reduceEqDiff] | ((first | refine vm_reg (fun K hK => ?_) | refine vm_dreg (fun K hK => ?_) | refine clp_q ?_ | refine clq_mk (by assumption) ?_); simp (disch := (first | omega | assumption)) only [S1, ↓reduceIte, Nat.reduceEqDiff, Nat.reduceAdd, Nat.reduceMul, Nat.reduceDiv, AOp.sb, AOp.mut, ↓Bool.false_eq_true, beq_self_eq_true, ite_self, Nat.reduceLeDiff, Int.reduceEq, Int.reduceSub, Int.reduceAdd, Int.reduceNeg, Int.reduceLT, Int.reduceLE, Nat.reduceLT, wi, tn_nat, Nat.div_one, Nat.mul_one, W_len, W_nf, W_cell, W_nil, W_get, List.length_nil, List.length_cons, hne, hk, W1, hd])
    refine vm_loopA [] Nat (fun i => ⟨[(0, .l 1 (W (dg B X))), (1, .l 1 (W (dg B v))), (2, .i .i64 (k : Int)), (7, .l 1 (W (dg B (X * v ^ i)))), (8, .i .i64 (i : Int))], [], 0⟩)
      (fun i => i ≤ k) (fun i => k - i) 0 (Nat.zero_le _) (by simp (disch := (first | omega | assumption)) only [Sl, Sa, Sw, ↓reduceIte, Nat.reduceEqDiff, Nat.reduceLT, List.all_nil, List.all_cons, Nat.reduceBneDiff, Nat.reduceAdd, bne_iff_ne, ne_eq, reduceCtorEq, not_false_eq_true, not_true_eq_false, Bool.and_true, Bool.true_and, and_true, true_and, and_self]) (by
      simp (disch := (first | omega | assumption)) only [Sl, Sa, Sw, ↓reduceIte, Nat.reduceEqDiff, Nat.reduceLT, List.all_nil, List.all_cons, Nat.reduceBneDiff, Nat.reduceAdd, bne_iff_ne, ne_eq, reduceCtorEq, not_false_eq_true, not_true_eq_false, Bool.and_true, Bool.true_and, and_true, true_and, and_self, i_eq]
      rw [Nat.pow_zero, Nat.mul_one]
      repeat' first | rfl | omega | (simp only [List.length_append, List.length_cons, List.length_nil]; done) | apply And.intro) ?_
    intro i hi Q' hQ he hr
    by_cases hik : (i : Int) < (k : Int)
    · have hm1 := hmul i (by omega)
      have zc15 := hm1
      repeat first | (refine hK _ ?_; clear hK K) | simp only [Sv, ↓reduceIte, Nat.reduceEqDiff] | ((first | refine vm_reg (fun K hK => ?_) | refine vm_dreg (fun K hK => ?_) | refine clp_q ?_ | refine clq_mk (by assumption) ?_); simp (disch := (first | omega | assumption)) only [S1, ↓reduceIte, Nat.reduceEqDiff, Nat.reduceAdd, Nat.reduceMul, Nat.reduceDiv, AOp.sb, AOp.mut, ↓Bool.false_eq_true, beq_self_eq_true, ite_self, Nat.reduceLeDiff, Int.reduceEq, Int.reduceSub, Int.reduceAdd, Int.reduceNeg, Int.reduceLT, Int.reduceLE, Nat.reduceLT, wi, tn_nat, Nat.div_one, Nat.mul_one, W_len, W_nf, W_cell, W_nil, W_get, List.length_nil, List.length_cons, hik, wi])
      refine hQ _ (i + 1) (by omega) (by omega) ?_
      simp (disch := (first | omega | assumption)) only [Sl, Sa, Sw, ↓reduceIte, Nat.reduceEqDiff, Nat.reduceLT, List.all_nil, List.all_cons, Nat.reduceBneDiff, Nat.reduceAdd, bne_iff_ne, ne_eq, reduceCtorEq, not_false_eq_true, not_true_eq_false, Bool.and_true, Bool.true_and, and_true, true_and, and_self, i_eq]
      repeat' first | rfl | omega | (simp only [List.length_append, List.length_cons, List.length_nil]; done) | apply And.intro
    · obtain rfl : i = k := by omega
      repeat first
        | (refine hK _ ?_; clear hK K)
        | ((first | refine vm_reg (fun K hK => ?_) | refine vm_dreg (fun K hK => ?_)); simp (disch := (first | omega | assumption)) only [S1, ↓reduceIte, Nat.reduceEqDiff, Nat.reduceAdd, Nat.reduceMul, Nat.reduceDiv, AOp.sb, AOp.mut, ↓Bool.false_eq_true, beq_self_eq_true, ite_self, Nat.reduceLeDiff, Int.reduceEq, Int.reduceSub, Int.reduceAdd, Int.reduceNeg, Int.reduceLT, Int.reduceLE, Nat.reduceLT, wi, tn_nat, Nat.div_one, Nat.mul_one, W_len, W_nf, W_cell, W_nil, W_get, List.length_nil, List.length_cons, hik]; refine hK _ ?_; clear hK K)
        | simp only [Sv, ↓reduceIte, Nat.reduceEqDiff]
      refine he _ _ ?_
      have zc16 := hof
      have zc17 := hof2
      have zc18 := hof3
      have zc19 := hsm
      repeat first | (refine hK _ ?_; clear hK K) | simp only [Sv, ↓reduceIte, Nat.reduceEqDiff] | ((first | refine vm_reg (fun K hK => ?_) | refine vm_dreg (fun K hK => ?_) | refine clp_q ?_ | refine clq_mk (by assumption) ?_); simp (disch := (first | omega | assumption)) only [S1, ↓reduceIte, Nat.reduceEqDiff, Nat.reduceAdd, Nat.reduceMul, Nat.reduceDiv, AOp.sb, AOp.mut, ↓Bool.false_eq_true, beq_self_eq_true, ite_self, Nat.reduceLeDiff, Int.reduceEq, Int.reduceSub, Int.reduceAdd, Int.reduceNeg, Int.reduceLT, Int.reduceLE, Nat.reduceLT, wi, tn_nat, Nat.div_one, Nat.mul_one, W_len, W_nf, W_cell, W_nil, W_get, List.length_nil, List.length_cons])
      simp (disch := (first | omega | assumption)) only [retOk, retN, ret1, retF, ret1F, V.okArg, and_true, true_and, S1, ↓reduceIte, Nat.reduceEqDiff, Nat.reduceAdd, Nat.reduceMul, Nat.reduceDiv, AOp.sb, AOp.mut, ↓Bool.false_eq_true, beq_self_eq_true, ite_self, Nat.reduceLeDiff, Int.reduceEq, Int.reduceSub, Int.reduceAdd, Int.reduceNeg, Int.reduceLT, Int.reduceLE, Nat.reduceLT, wi, tn_nat, Nat.div_one, Nat.mul_one, W_len, W_nf, W_cell, W_nil, W_get, List.length_nil, List.length_cons]
end Go.Proofs.Ytngohbpgdeiodaa
