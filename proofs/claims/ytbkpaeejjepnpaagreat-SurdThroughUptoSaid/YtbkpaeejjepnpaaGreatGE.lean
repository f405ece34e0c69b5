/-
  The texts Ref1, Ref2, Ref3, Ref4, Ref6, Shift, Shift2.
-/
import Derived.Test.YtbkpaeejjepnpaaGreatGD
namespace Go.Proofs.YtbkpaeejjepnpaaGreat
open Go Go.RowKit Ab
set_option linter.unusedSimpArgs false
set_option linter.unusedVariables false
set_option maxHeartbeats 10000000
end Go.Proofs.YtbkpaeejjepnpaaGreat
namespace Go.Proofs.YtbkpaeejjepnpaaGreat
open Go Go.RowKit Ab
set_option linter.unusedSimpArgs false
set_option linter.unusedVariables false
set_option maxHeartbeats 10000000
end Go.Proofs.YtbkpaeejjepnpaaGreat
namespace Go.Proofs.YtbkpaeejjepnpaaGreat
open Go Go.RowKit Ab
set_option linter.unusedSimpArgs false
set_option linter.unusedVariables false
set_option maxHeartbeats 10000000
end Go.Proofs.YtbkpaeejjepnpaaGreat
namespace Go.Proofs.YtbkpaeejjepnpaaGreat
open Go Go.RowKit Ab
set_option linter.unusedSimpArgs false
set_option linter.unusedVariables false
set_option maxHeartbeats 10000000
theorem sg_lt {x y : Nat} : (sg x y < 0) = (x < y) := by
  unfold sg
  split
  · rename_i h; simp [h]
  · rename_i h
    split <;> simp [h]
end Go.Proofs.YtbkpaeejjepnpaaGreat
namespace Go.Proofs.YtbkpaeejjepnpaaGreat
open Go Go.RowKit Ab
set_option linter.unusedSimpArgs false
set_option linter.unusedVariables false
set_option maxHeartbeats 10000000
def Bl (a : List Nat) : List V := a.map fun x : Nat => .b (decide (x = 1))
theorem Bl_len (a : List Nat) : (Bl a).length = a.length := by simp [Bl]
theorem Bl_nil : Bl [] = [] := rfl
theorem Bl_nf (a : List Nat) : anyNF (Bl a) = false := by
  induction a with
  | nil => rfl
  | cons x r ih => simpa [Bl, anyNF, V.nf] using ih
end Go.Proofs.YtbkpaeejjepnpaaGreat
namespace Go.Proofs.YtbkpaeejjepnpaaGreat
open Go Go.RowKit Ab
set_option linter.unusedSimpArgs false
set_option linter.unusedVariables false
set_option maxHeartbeats 10000000
theorem bz_Shift : type_of% (And.intro @W_len (And.intro @Nat.div_one (And.intro @Nat.mul_one (And.intro @tn_nat (And.intro @W_nf (And.intro @W_nil (And.intro @tmod_64 (And.intro @tdiv_64 (And.intro @wi (And.intro @wu (@mk_W))))))))))) := And.intro @W_len (And.intro @Nat.div_one (And.intro @Nat.mul_one (And.intro @tn_nat (And.intro @W_nf (And.intro @W_nil (And.intro @tmod_64 (And.intro @tdiv_64 (And.intro @wi (And.intro @wu (@mk_W))))))))))
theorem B1 : 0 < B := by decide
def a119 : AC := .seq (.reg [qr 4 (.mv (.k .nl)),
 qr 5 (.mv (.k (.i .i64 0)))])
 (.seq (.seq (.reg [qm 12 1,
 qr 13 (.bin .lss (.t 12) (.k (.i .i64 0))),
 qm 14 13,
 ⟨some 15, some (14, false), .mv (.t 1)⟩,
 ⟨some 16, some (14, false), .bin .gtr (.t 15) (.k (.i .i64 1048576))⟩,
 qr 17 (.pick (.t 14) (.k (.b true)) (.t 16))])
 (.cond (.t 17)
 (.seq (.reg [qr 4 (.mv (.k .nl)),
 qr 5 (.mv (.k (.i .i64 3)))])
 (.ret))
 (.skip)))
 (.seq (.reg [qm 18 1,
 qr 19 (.bin .quo (.t 18) (.k (.i .i64 64))),
 qm 20 1,
 qr 21 (.bin .rem (.t 20) (.k (.i .i64 64))),
 qr 22 (.cvt .u64 (.t 21)),
 qm 6 19,
 qm 7 22])
 (.seq (.reg [qm 23 6,
 qm 24 6,
 qm 25 0,
 qr 26 (.len (.t 25)),
 qr 27 (.bin .add (.t 24) (.t 26)),
 qr 28 (.bin .add (.t 27) (.k (.i .i64 1))),
 qr 29 (.mk 29 1 8 [(.i .u64 0)] (.t 23) (.t 28)),
 qm 8 29])
 (.seq (.seq (.reg [qm 30 7,
 qr 31 (.bin .eql (.t 30) (.k (.i .u64 0)))])
 (.cond (.t 31)
 (.seq (.reg [qm 32 8,
 qm 33 0,
 qr 34 (.app 29 1 8 (.t 32) (.t 33)),
 qm 4 34,
 qr 5 (.mv (.k (.i .i64 0)))])
 (.ret))
 (.skip)))
 (.seq (.reg [qr 9 (.mv (.k (.i .u64 0)))])
 (.seq (.seq (.reg [qm 35 0,
 qr 36 (.len (.t 35)),
 qr 37 (.mv (.k (.i .i64 0)))])
 (.blk 0
 (.loop
 (.seq (.reg [qr 38 (.bin .lss (.t 37) (.t 36))])
 (.seq (.cond (.t 38)
 (.skip)
 (.exit 0))
 (.seq (.blk 1
 (.seq (.reg [qr 39 (.idx 1 (.t 35) (.t 37)),
 qr 40 (.ld false 1 (.t 39)),
 qm 11 40])
 (.seq (.reg [qm 41 8,
 qm 42 11,
 qm 43 7,
 qr 44 (.bin .shl (.t 42) (.t 43)),
 qm 45 9,
 qr 46 (.bin .or (.t 44) (.t 45)),
 qr 47 (.bsl 29 1 1 [(.i .u64 0)] [(0, (.t 46))]),
 qr 48 (.app 29 1 8 (.t 41) (.t 47)),
 qm 8 48])
 (.reg [qm 49 11,
 qm 50 7,
 qr 51 (.bin .sub (.k (.i .u64 64)) (.t 50)),
 qr 52 (.bin .shr (.t 49) (.t 51)),
 qm 9 52]))))
 (.reg [qr 53 (.bin .add (.t 37) (.k (.i .i64 1))),
 qm 37 53])))))))
 (.seq (.reg [qm 54 8,
 qm 55 9,
 qr 56 (.bsl 29 1 1 [(.i .u64 0)] [(0, (.t 55))]),
 qr 57 (.app 29 1 8 (.t 54) (.t 56)),
 qm 4 57,
 qr 5 (.mv (.k (.i .i64 0)))])
 (.ret))))))))
theorem limbShl_spec (a : List Nat) (n : Nat) (ha : Wd a) (la : a.length ≤ 1000000000000) (hn : n ≤ 1048576) : AFun Tryz.prog J0 119 [.l 1 (W a), .i .i64 (n : Int)] (.t [.l 1 (W (shlOut a n)), .i .i64 0]) := by
  refine mkQ fol J0s Tryz.func119 a119 ?_
  unfold a119
  simp only [init_eq, initE, qm, qr, qn]
  have h1 : ¬ (n : Int) < 0 := by omega
  have h2 : ¬ (1048576 : Int) < (n : Int) := by omega
  have hr64 : n % 64 < 64 := Nat.mod_lt _ (by decide)
  by_cases h0 : ((n % 64 : Nat) : Int) = 0
  · have e : shlOut a n = List.replicate (n / 64) 0 ++ a := by unfold shlOut; rw [if_pos (by omega)]
    refine spQ (ai @W_cell (ai @W_app (ai @h0 (ai @h2 (ai @h1 @bz_Shift))))) ?_
    exact rtQ (ai @e @bz_Shift)
  · have e : shlOut a n = List.replicate (n / 64) 0 ++ fl B (a.length + 1) (nv B a * 2 ^ (n % 64)) := by unfold shlOut; rw [if_neg (by omega)]
    rw [e]
    generalize hw : n / 64 = w at *
    generalize hr : n % 64 = r at *
    have hwl : w ≤ 1048576 := by omega
    have lrep : (List.replicate w 0).length = w := by simp
    refine spQ (ai @hr (ai @hw (ai @h0 (ai @h2 (ai @h1 @bz_Shift))))) ?_
    refine vm_loopA [] Nat (fun i => ⟨[(8, .ow 1 0 (w + i)), (7, .i .u64 (r : Int)), (9, .i .u64 ((nv B (a.take i) * 2 ^ r / B ^ i : Nat) : Int)), (35, .l 1 (W a)), (36, .i .i64 (a.length : Int)), (37, .i .i64 (i : Int))], [(0, some ⟨29, 1, W (List.replicate w 0 ++ fl B i (nv B (a.take i) * 2 ^ r)), true, false⟩)], 1⟩)
      (fun i => i ≤ a.length) (fun i => a.length - i) 0 (Nat.zero_le _) (by exact leQ) (by
      simp (disch := (first | omega | assumption)) only [Sl, Sa, Sw, ↓reduceIte, Nat.reduceEqDiff, Nat.reduceLT, List.all_nil, List.all_cons, Nat.reduceBneDiff, Nat.reduceAdd, bne_iff_ne, ne_eq, reduceCtorEq, not_false_eq_true, not_true_eq_false, Bool.and_true, Bool.true_and, and_true, true_and, and_self, i_eq]
      simp [nv, fl]) ?_
    intro i hi Q' hQ he hr'
    obtain ⟨s1, s2, s3, s4⟩ := shl_step (P := B ^ i) (V := nv B (a.take i)) (x := a.getD i 0) (r := r) (Nat.pow_pos B1) (nv_take_lt B1 ha i) (Lt_get ha B1 i) (by omega)
    have hxl := Wd_get ha i
    have hlow : nv B (a.take i) * 2 ^ r / B ^ i < 18446744073709551616 := Nat.lt_of_lt_of_le s4 (by have : (18446744073709551616 : Nat) = 2 ^ 64 := rfl; rw [this]; exact Nat.pow_le_pow_right (by decide) (by omega))
    by_cases h : (i : Int) < a.length
    · have hor := bor64 (a.getD i 0 * 2 ^ r % 18446744073709551616) (nv B (a.take i) * 2 ^ r / B ^ i) (Nat.mod_lt _ (by decide)) hlow
      rw [or_low (by omega) s4, ← s1] at hor
      have hsh := shl64 (a.getD i 0) r (by omega)
      have hsr := shr64 (a.getD i 0) (64 - r) (by omega)
      rw [← s2] at hsr
      have e1 : fl B i (nv B (a.take i) * 2 ^ r) ++ [(nv B (a.take i) + B ^ i * a.getD i 0) * 2 ^ r / B ^ i % B] = fl B (i + 1) (nv B (a.take (i + 1)) * 2 ^ r) := by
        rw [fl_succ, nv_take_succ', fl_congr B1 s3]
      repeat first
        | (refine hK _ ?_; clear hK K)
        | ((first | refine vm_reg (fun K hK => ?_) | refine vm_dreg (fun K hK => ?_) | refine vm_dregx (fun K hK => ?_)); simp (disch := (first | omega | assumption)) only [S1, ↓reduceIte, Nat.reduceEqDiff, Nat.reduceAdd, Nat.reduceMul, Nat.reduceDiv, AOp.sb, AOp.mut, frzf, ↓Bool.false_eq_true, beq_self_eq_true, ite_self, Nat.reduceLeDiff, Int.reduceEq, Int.reduceSub, Int.reduceAdd, Int.reduceNeg, Int.reduceLT, Int.reduceLE, Nat.reduceLT, bz_Shift, h, W_get, hsh, hor, hsr, tn_64, W_app1, List.append_assoc, e1]; refine hK _ ?_; clear hK K)
        | simp only [Sv, ↓reduceIte, Nat.reduceEqDiff]
      refine hQ _ (i + 1) (by omega) (by omega) ?_
      simp (disch := (first | omega | assumption)) only [Sl, Sa, Sw, ↓reduceIte, Nat.reduceEqDiff, Nat.reduceLT, List.all_nil, List.all_cons, Nat.reduceBneDiff, Nat.reduceAdd, bne_iff_ne, ne_eq, reduceCtorEq, not_false_eq_true, not_true_eq_false, Bool.and_true, Bool.true_and, and_true, true_and, and_self, i_eq]
      refine ⟨by omega, ?_, by omega⟩
      rw [nv_take_succ', Nat.pow_succ]
    · obtain rfl : i = a.length := by omega
      have e2 : nv B a * 2 ^ r / B ^ a.length % B = nv B a * 2 ^ r / B ^ a.length := by
        rw [List.take_length] at hlow
        exact Nat.mod_eq_of_lt hlow
      refine spQ (ai @h @bz_Shift) ?_
      refine he _ _ ?_
      rw [List.take_length]
      have e3 : fl B a.length (nv B a * 2 ^ r) ++ [nv B a * 2 ^ r / B ^ a.length] = fl B (a.length + 1) (nv B a * 2 ^ r) := by rw [fl_succ, e2]
      repeat first
        | (refine hK _ ?_; clear hK K)
        | ((first | refine vm_reg (fun K hK => ?_) | refine vm_dreg (fun K hK => ?_) | refine vm_dregx (fun K hK => ?_)); simp (disch := (first | omega | assumption)) only [S1, ↓reduceIte, Nat.reduceEqDiff, Nat.reduceAdd, Nat.reduceMul, Nat.reduceDiv, AOp.sb, AOp.mut, frzf, ↓Bool.false_eq_true, beq_self_eq_true, ite_self, Nat.reduceLeDiff, Int.reduceEq, Int.reduceSub, Int.reduceAdd, Int.reduceNeg, Int.reduceLT, Int.reduceLE, Nat.reduceLT, bz_Shift, W_app1, List.append_assoc, e3]; refine hK _ ?_; clear hK K)
        | simp only [Sv, ↓reduceIte, Nat.reduceEqDiff]
      exact rtQ @bz_Shift
theorem tn_add (a b : Nat) : ((a : Int) + (b : Int)).toNat = a + b := by omega
theorem set_fl {m i v d : Nat} (hi : i < m) (hd : d = v / B ^ i % B) : (fl B i v ++ List.replicate (m - i) 0).set i d = fl B (i + 1) v ++ List.replicate (m - (i + 1)) 0 := by
  obtain ⟨k, hk⟩ : ∃ k, m - i = k + 1 := ⟨m - i - 1, by omega⟩
  rw [fl_succ, hk, show m - (i + 1) = k from by omega, List.set_append_right _ _ (by rw [fl_len]; omega), fl_len, Nat.sub_self, List.replicate_succ, List.set_cons_zero, hd, List.append_assoc]
  rfl
theorem getD_set (l : List Nat) (i x : Nat) (h : i < l.length) : (l.set i x).getD i 0 = x := by
  rw [List.getD_eq_getElem?_getD, List.getElem?_set_self h]; rfl
def a124 : AC := .seq (.reg [qr 4 (.mv (.k .nl)),
 qr 5 (.mv (.k (.b false))),
 qr 6 (.mv (.k (.i .i64 0)))])
 (.seq (.seq (.reg [qm 12 1,
 qr 13 (.bin .lss (.t 12) (.k (.i .i64 0)))])
 (.cond (.t 13)
 (.seq (.reg [qr 4 (.mv (.k .nl)),
 qr 5 (.mv (.k (.b false))),
 qr 6 (.mv (.k (.i .i64 3)))])
 (.ret))
 (.skip)))
 (.seq (.reg [qm 14 1,
 qr 15 (.bin .quo (.t 14) (.k (.i .i64 64))),
 qm 16 1,
 qr 17 (.bin .rem (.t 16) (.k (.i .i64 64))),
 qr 18 (.cvt .u64 (.t 17)),
 qm 7 15,
 qm 8 18])
 (.seq (.seq (.reg [qm 19 7,
 qm 20 0,
 qr 21 (.len (.t 20)),
 qr 22 (.bin .geq (.t 19) (.t 21))])
 (.cond (.t 22)
 (.seq (.reg [qm 23 0,
 qr 24 (.call 101 [(1, (.t 23))]),
 qr 25 (.bin .gtr (.t 24) (.k (.i .i64 0))),
 qr 4 (.mv (.k .nl)),
 qm 5 25,
 qr 6 (.mv (.k (.i .i64 0)))])
 (.ret))
 (.skip)))
 (.seq (.reg [qm 26 0,
 qm 27 7,
 qr 28 (.sub 1 (.t 26) none (some (.t 27))),
 qr 29 (.call 101 [(1, (.t 28))]),
 qr 30 (.bin .gtr (.t 29) (.k (.i .i64 0))),
 qm 31 30,
 ⟨some 32, some (31, false), .mv (.t 0)⟩,
 ⟨some 33, some (31, false), .mv (.t 7)⟩,
 ⟨some 34, some (31, false), .idx 1 (.t 32) (.t 33)⟩,
 ⟨some 35, some (31, false), .ld false 1 (.t 34)⟩,
 ⟨some 36, some (31, false), .mv (.t 8)⟩,
 ⟨some 37, some (31, false), .bin .sub (.k (.i .u64 64)) (.t 36)⟩,
 ⟨some 38, some (31, false), .bin .shl (.t 35) (.t 37)⟩,
 ⟨some 39, some (31, false), .bin .neq (.t 38) (.k (.i .u64 0))⟩,
 ⟨some 40, some (31, false), .mv (.t 39)⟩,
 ⟨some 41, some (40, true), .mv (.t 8)⟩,
 ⟨some 42, some (40, true), .bin .gtr (.t 41) (.k (.i .u64 0))⟩,
 ⟨some 43, some (31, false), .pick (.t 40) (.t 42) (.k (.b false))⟩,
 qr 44 (.pick (.t 31) (.k (.b true)) (.t 43)),
 qm 9 44])
 (.seq (.reg [qm 45 0,
 qr 46 (.len (.t 45)),
 qm 47 7,
 qr 48 (.bin .sub (.t 46) (.t 47)),
 qr 49 (.mk 29 1 8 [(.i .u64 0)] (.t 48) (.t 48)),
 qm 10 49])
 (.seq (.seq (.reg [qm 50 10,
 qr 51 (.len (.t 50)),
 qr 52 (.mv (.k (.i .i64 0)))])
 (.blk 0
 (.loop
 (.seq (.reg [qr 53 (.bin .lss (.t 52) (.t 51))])
 (.seq (.cond (.t 53)
 (.skip)
 (.exit 0))
 (.seq (.blk 1
 (.seq (.reg [qm 54 52,
 qm 11 54])
 (.seq (.reg [qm 55 10,
 qm 56 11,
 qm 57 0,
 qm 58 7,
 qm 59 11,
 qr 60 (.bin .add (.t 58) (.t 59)),
 qr 61 (.idx 1 (.t 57) (.t 60)),
 qr 62 (.ld false 1 (.t 61)),
 qm 63 8,
 qr 64 (.bin .shr (.t 62) (.t 63)),
 qr 65 (.idx 1 (.t 55) (.t 56)),
 qn (.st 1 (.t 65) (.t 64))])
 (.seq (.reg [qm 66 8,
 qr 67 (.bin .gtr (.t 66) (.k (.i .u64 0)))])
 (.cond (.t 67)
 (.dreg [qm 68 10,
 qm 69 11,
 qr 70 (.idx 1 (.t 68) (.t 69)),
 qr 71 (.ld false 1 (.t 70)),
 qm 72 0,
 qm 73 7,
 qm 74 11,
 qr 75 (.bin .add (.t 73) (.t 74)),
 qr 76 (.bin .add (.t 75) (.k (.i .i64 1))),
 qr 77 (.call 103 [(1, (.t 72)), (1, (.t 76))]),
 qm 78 8,
 qr 79 (.bin .sub (.k (.i .u64 64)) (.t 78)),
 qr 80 (.bin .shl (.t 77) (.t 79)),
 qr 81 (.bin .or (.t 71) (.t 80)),
 qr 82 (.idx 1 (.t 68) (.t 69)),
 qn (.st 1 (.t 82) (.t 81))])
 (.skip))))))
 (.reg [qr 83 (.bin .add (.t 52) (.k (.i .i64 1))),
 qm 52 83])))))))
 (.seq (.reg [qm 84 10,
 qm 85 9,
 qm 4 84,
 qm 5 85,
 qr 6 (.mv (.k (.i .i64 0)))])
 (.ret))))))))
theorem limbShr_spec (a : List Nat) (n : Nat) (ha : Wd a) (la : a.length ≤ 1000000000000) (hn : n < 9223372036854775808) : AFun Tryz.prog J0 124 [.l 1 (W a), .i .i64 (n : Int)] (.t [.l 1 (W (fl B (a.length - n / 64) (nv B a / 2 ^ n))), .any, .i .i64 0]) := by
  refine mkQ fol J0s Tryz.func124 a124 ?_
  unfold a124
  simp only [init_eq, initE, qm, qr, qn]
  have h1 : ¬ (n : Int) < 0 := by omega
  have hr64 : n % 64 < 64 := Nat.mod_lt _ (by decide)
  have hdig := fun i => shr_digit (A := nv B a) (n := n) (i := i)
  generalize nv B a / 2 ^ n = v at hdig ⊢
  generalize hw : n / 64 = w at *
  generalize hr : n % 64 = r at *
  by_cases hge : (a.length : Int) ≤ (w : Int)
  · have e : a.length - w = 0 := by omega
    have zc1 := top_spec a (by omega)
    refine wdO (ai @e (ai @hge (ai @hr (ai @hw (ai @h1 @bz_Shift))))) ?_
    rfl
  · obtain ⟨m, hm⟩ : ∃ m, a.length = w + m := ⟨a.length - w, by omega⟩
    have em : a.length - w = m := by omega
    have hsub : (a.length : Int) - (w : Int) = (m : Int) := by omega
    have hsh := shl64 (a.getD w 0) (64 - r) (by omega)
    have lrep : (List.replicate m 0).length = m := by simp
    rw [em]
    by_cases g1 : 0 < (((tz (a.take w)).length : Nat) : Int)
    · have zc2 := top_spec (a.take w) (by rw [List.length_take]; omega)
      refine wkQ (ai @lrep (ai @hsub (ai @g1 (ai @W_take (ai @hge (ai @hr (ai @hw (ai @h1 @bz_Shift)))))))) ?_
      refine vm_loopA [] Nat (fun i => ⟨[(0, .l 1 (W a)), (7, .i .i64 (w : Int)), (8, .i .u64 (r : Int)), (10, .ow 1 0 m), (51, .i .i64 (m : Int)), (52, .i .i64 (i : Int))], [(0, some ⟨29, 1, W (fl B i v ++ List.replicate (m - i) 0), true, false⟩)], 1⟩)
        (fun i => i ≤ m) (fun i => m - i) 0 (Nat.zero_le _) (by exact leQ) (by
        simp (disch := (first | omega | assumption)) only [Sl, Sa, Sw, ↓reduceIte, Nat.reduceEqDiff, Nat.reduceLT, List.all_nil, List.all_cons, Nat.reduceBneDiff, Nat.reduceAdd, bne_iff_ne, ne_eq, reduceCtorEq, not_false_eq_true, not_true_eq_false, Bool.and_true, Bool.true_and, and_true, true_and, and_self, i_eq]
        simp [fl]) ?_
      intro i hi Q' hQ he hr'
      by_cases h : (i : Int) < m
      · have hd := hdig i
        have d0 := nv_digit (b := B) B1 ha (w + i)
        have d1 := nv_digit (b := B) B1 ha (w + i + 1)
        rw [Nat.pow_succ, ← Nat.div_div_eq_div_mul] at d1
        generalize nv B a / B ^ (w + i) = X at hd d0 d1
        have ll : (fl B i v ++ List.replicate (m - i) 0).length = m := by rw [List.length_append, fl_len, List.length_replicate]; omega
        have hsr := shr64 (a.getD (w + i) 0) r (by omega)
        have hbw : w + i < a.length := by omega
        by_cases hr0 : 0 < (r : Int)
        · obtain ⟨s1, s2⟩ := shr_step (X := X) (r := r) (by omega) (by omega)
          rw [← hd, ← d0, ← d1] at s1
          rw [← d0] at s2
          have hor := bor64 (a.getD (w + i) 0 / 2 ^ r) (a.getD (w + i + 1) 0 * 2 ^ (64 - r) % 18446744073709551616) (Nat.lt_of_le_of_lt (Nat.div_le_self _ _) (Wd_get ha _)) (Nat.mod_lt _ (by decide))
          rw [or_high (by omega) s2, ← s1] at hor
          have hsl := shl64 (a.getD (w + i + 1) 0) (64 - r) (by omega)
          have ll2 : ((fl B i v ++ List.replicate (m - i) 0).set i (a.getD (w + i) 0 / 2 ^ r)).length = m := by rw [List.length_set, ll]
          have hset := set_fl (v := v) (i := i) (m := m) (by omega) rfl
          have zc3 := at_spec a (w + i + 1)
          repeat first | (refine hK _ ?_; clear hK K) | simp only [Sv, ↓reduceIte, Nat.reduceEqDiff] | ((first | refine vm_reg (fun K hK => ?_) | refine vm_dreg (fun K hK => ?_) | refine vm_dregx (fun K hK => ?_) | refine clp_q ?_ | refine clq_mk (by assumption) ?_ | refine mcq_q ?_ | (apply mcr_mk; assumption) | (apply ocr_mk; assumption)); simp (disch := (first | omega | assumption)) only [S1, ↓reduceIte, Nat.reduceEqDiff, Nat.reduceAdd, Nat.reduceMul, Nat.reduceDiv, AOp.sb, AOp.mut, frzf, ↓Bool.false_eq_true, beq_self_eq_true, ite_self, Nat.reduceLeDiff, Int.reduceEq, Int.reduceSub, Int.reduceAdd, Int.reduceNeg, Int.reduceLT, Int.reduceLE, Nat.reduceLT, bz_Shift, h, hr0, hsr, tn_add, W_get, W_set, ll, ll2, hsl, hor, tn_64, getD_set, List.set_set, hset])
          refine hQ _ (i + 1) (by omega) (by omega) ?_
          simp (disch := (first | omega | assumption)) only [Sl, Sa, Sw, ↓reduceIte, Nat.reduceEqDiff, Nat.reduceLT, List.all_nil, List.all_cons, Nat.reduceBneDiff, Nat.reduceAdd, bne_iff_ne, ne_eq, reduceCtorEq, not_false_eq_true, not_true_eq_false, Bool.and_true, Bool.true_and, and_true, true_and, and_self, i_eq]
          omega
        · have r0 : r = 0 := by omega
          have hset := set_fl (v := v) (i := i) (m := m) (d := a.getD (w + i) 0 / 2 ^ r) (by omega) (by rw [hd, d0, r0]; simp)
          refine spQ (ai @hset (ai @ll (ai @W_set (ai @hsr (ai @W_get (ai @tn_add (ai @hr0 (ai @h @bz_Shift)))))))) ?_
          refine hQ _ (i + 1) (by omega) (by omega) ?_
          simp (disch := (first | omega | assumption)) only [Sl, Sa, Sw, ↓reduceIte, Nat.reduceEqDiff, Nat.reduceLT, List.all_nil, List.all_cons, Nat.reduceBneDiff, Nat.reduceAdd, bne_iff_ne, ne_eq, reduceCtorEq, not_false_eq_true, not_true_eq_false, Bool.and_true, Bool.true_and, and_true, true_and, and_self, i_eq]
          omega
      · obtain rfl : i = m := by omega
        refine spQ (ai @h @bz_Shift) ?_
        refine he _ _ ?_
        refine spQ @bz_Shift ?_
        simp (disch := (first | omega | assumption)) only [retOk, retN, ret1, retF, ret1F, V.okArg, and_true, true_and, S1, ↓reduceIte, Nat.reduceEqDiff, Nat.reduceAdd, Nat.reduceMul, Nat.reduceDiv, AOp.sb, AOp.mut, frzf, ↓Bool.false_eq_true, beq_self_eq_true, ite_self, Nat.reduceLeDiff, Int.reduceEq, Int.reduceSub, Int.reduceAdd, Int.reduceNeg, Int.reduceLT, Int.reduceLE, Nat.reduceLT, bz_Shift, Nat.sub_self, List.replicate_zero]
    · by_cases g2 : ((a.getD w 0 * 2 ^ (64 - r) % 18446744073709551616 : Nat) : Int) = 0
      · have zc4 := top_spec (a.take w) (by rw [List.length_take]; omega)
        refine wkQ (ai @lrep (ai @hsub (ai @g2 (ai @hsh (ai @tn_64 (ai @g1 (ai @W_get (ai @W_take (ai @hge (ai @hr (ai @hw (ai @h1 @bz_Shift)))))))))))) ?_
        refine vm_loopA [] Nat (fun i => ⟨[(0, .l 1 (W a)), (7, .i .i64 (w : Int)), (8, .i .u64 (r : Int)), (10, .ow 1 0 m), (51, .i .i64 (m : Int)), (52, .i .i64 (i : Int))], [(0, some ⟨29, 1, W (fl B i v ++ List.replicate (m - i) 0), true, false⟩)], 1⟩)
          (fun i => i ≤ m) (fun i => m - i) 0 (Nat.zero_le _) (by exact leQ) (by
          simp (disch := (first | omega | assumption)) only [Sl, Sa, Sw, ↓reduceIte, Nat.reduceEqDiff, Nat.reduceLT, List.all_nil, List.all_cons, Nat.reduceBneDiff, Nat.reduceAdd, bne_iff_ne, ne_eq, reduceCtorEq, not_false_eq_true, not_true_eq_false, Bool.and_true, Bool.true_and, and_true, true_and, and_self, i_eq]
          simp [fl]) ?_
        intro i hi Q' hQ he hr'
        by_cases h : (i : Int) < m
        · have hd := hdig i
          have d0 := nv_digit (b := B) B1 ha (w + i)
          have d1 := nv_digit (b := B) B1 ha (w + i + 1)
          rw [Nat.pow_succ, ← Nat.div_div_eq_div_mul] at d1
          generalize nv B a / B ^ (w + i) = X at hd d0 d1
          have ll : (fl B i v ++ List.replicate (m - i) 0).length = m := by rw [List.length_append, fl_len, List.length_replicate]; omega
          have hsr := shr64 (a.getD (w + i) 0) r (by omega)
          have hbw : w + i < a.length := by omega
          by_cases hr0 : 0 < (r : Int)
          · obtain ⟨s1, s2⟩ := shr_step (X := X) (r := r) (by omega) (by omega)
            rw [← hd, ← d0, ← d1] at s1
            rw [← d0] at s2
            have hor := bor64 (a.getD (w + i) 0 / 2 ^ r) (a.getD (w + i + 1) 0 * 2 ^ (64 - r) % 18446744073709551616) (Nat.lt_of_le_of_lt (Nat.div_le_self _ _) (Wd_get ha _)) (Nat.mod_lt _ (by decide))
            rw [or_high (by omega) s2, ← s1] at hor
            have hsl := shl64 (a.getD (w + i + 1) 0) (64 - r) (by omega)
            have ll2 : ((fl B i v ++ List.replicate (m - i) 0).set i (a.getD (w + i) 0 / 2 ^ r)).length = m := by rw [List.length_set, ll]
            have hset := set_fl (v := v) (i := i) (m := m) (by omega) rfl
            have zc5 := at_spec a (w + i + 1)
            repeat first | (refine hK _ ?_; clear hK K) | simp only [Sv, ↓reduceIte, Nat.reduceEqDiff] | ((first | refine vm_reg (fun K hK => ?_) | refine vm_dreg (fun K hK => ?_) | refine vm_dregx (fun K hK => ?_) | refine clp_q ?_ | refine clq_mk (by assumption) ?_ | refine mcq_q ?_ | (apply mcr_mk; assumption) | (apply ocr_mk; assumption)); simp (disch := (first | omega | assumption)) only [S1, ↓reduceIte, Nat.reduceEqDiff, Nat.reduceAdd, Nat.reduceMul, Nat.reduceDiv, AOp.sb, AOp.mut, frzf, ↓Bool.false_eq_true, beq_self_eq_true, ite_self, Nat.reduceLeDiff, Int.reduceEq, Int.reduceSub, Int.reduceAdd, Int.reduceNeg, Int.reduceLT, Int.reduceLE, Nat.reduceLT, bz_Shift, h, hr0, hsr, tn_add, W_get, W_set, ll, ll2, hsl, hor, tn_64, getD_set, List.set_set, hset])
            refine hQ _ (i + 1) (by omega) (by omega) ?_
            simp (disch := (first | omega | assumption)) only [Sl, Sa, Sw, ↓reduceIte, Nat.reduceEqDiff, Nat.reduceLT, List.all_nil, List.all_cons, Nat.reduceBneDiff, Nat.reduceAdd, bne_iff_ne, ne_eq, reduceCtorEq, not_false_eq_true, not_true_eq_false, Bool.and_true, Bool.true_and, and_true, true_and, and_self, i_eq]
            omega
          · have r0 : r = 0 := by omega
            have hset := set_fl (v := v) (i := i) (m := m) (d := a.getD (w + i) 0 / 2 ^ r) (by omega) (by rw [hd, d0, r0]; simp)
            refine spQ (ai @hset (ai @ll (ai @W_set (ai @hsr (ai @W_get (ai @tn_add (ai @hr0 (ai @h @bz_Shift)))))))) ?_
            refine hQ _ (i + 1) (by omega) (by omega) ?_
            simp (disch := (first | omega | assumption)) only [Sl, Sa, Sw, ↓reduceIte, Nat.reduceEqDiff, Nat.reduceLT, List.all_nil, List.all_cons, Nat.reduceBneDiff, Nat.reduceAdd, bne_iff_ne, ne_eq, reduceCtorEq, not_false_eq_true, not_true_eq_false, Bool.and_true, Bool.true_and, and_true, true_and, and_self, i_eq]
            omega
        · obtain rfl : i = m := by omega
          refine spQ (ai @h @bz_Shift) ?_
          refine he _ _ ?_
          refine spQ @bz_Shift ?_
          simp (disch := (first | omega | assumption)) only [retOk, retN, ret1, retF, ret1F, V.okArg, and_true, true_and, S1, ↓reduceIte, Nat.reduceEqDiff, Nat.reduceAdd, Nat.reduceMul, Nat.reduceDiv, AOp.sb, AOp.mut, frzf, ↓Bool.false_eq_true, beq_self_eq_true, ite_self, Nat.reduceLeDiff, Int.reduceEq, Int.reduceSub, Int.reduceAdd, Int.reduceNeg, Int.reduceLT, Int.reduceLE, Nat.reduceLT, bz_Shift, Nat.sub_self, List.replicate_zero]
      · have zc6 := top_spec (a.take w) (by rw [List.length_take]; omega)
        refine wkQ (ai @lrep (ai @hsub (ai @g2 (ai @hsh (ai @tn_64 (ai @g1 (ai @W_get (ai @W_take (ai @hge (ai @hr (ai @hw (ai @h1 @bz_Shift)))))))))))) ?_
        refine vm_loopA [] Nat (fun i => ⟨[(0, .l 1 (W a)), (7, .i .i64 (w : Int)), (8, .i .u64 (r : Int)), (10, .ow 1 0 m), (51, .i .i64 (m : Int)), (52, .i .i64 (i : Int))], [(0, some ⟨29, 1, W (fl B i v ++ List.replicate (m - i) 0), true, false⟩)], 1⟩)
          (fun i => i ≤ m) (fun i => m - i) 0 (Nat.zero_le _) (by exact leQ) (by
          simp (disch := (first | omega | assumption)) only [Sl, Sa, Sw, ↓reduceIte, Nat.reduceEqDiff, Nat.reduceLT, List.all_nil, List.all_cons, Nat.reduceBneDiff, Nat.reduceAdd, bne_iff_ne, ne_eq, reduceCtorEq, not_false_eq_true, not_true_eq_false, Bool.and_true, Bool.true_and, and_true, true_and, and_self, i_eq]
          simp [fl]) ?_
        intro i hi Q' hQ he hr'
        by_cases h : (i : Int) < m
        · have hd := hdig i
          have d0 := nv_digit (b := B) B1 ha (w + i)
          have d1 := nv_digit (b := B) B1 ha (w + i + 1)
          rw [Nat.pow_succ, ← Nat.div_div_eq_div_mul] at d1
          generalize nv B a / B ^ (w + i) = X at hd d0 d1
          have ll : (fl B i v ++ List.replicate (m - i) 0).length = m := by rw [List.length_append, fl_len, List.length_replicate]; omega
          have hsr := shr64 (a.getD (w + i) 0) r (by omega)
          have hbw : w + i < a.length := by omega
          by_cases hr0 : 0 < (r : Int)
          · obtain ⟨s1, s2⟩ := shr_step (X := X) (r := r) (by omega) (by omega)
            rw [← hd, ← d0, ← d1] at s1
            rw [← d0] at s2
            have hor := bor64 (a.getD (w + i) 0 / 2 ^ r) (a.getD (w + i + 1) 0 * 2 ^ (64 - r) % 18446744073709551616) (Nat.lt_of_le_of_lt (Nat.div_le_self _ _) (Wd_get ha _)) (Nat.mod_lt _ (by decide))
            rw [or_high (by omega) s2, ← s1] at hor
            have hsl := shl64 (a.getD (w + i + 1) 0) (64 - r) (by omega)
            have ll2 : ((fl B i v ++ List.replicate (m - i) 0).set i (a.getD (w + i) 0 / 2 ^ r)).length = m := by rw [List.length_set, ll]
            have hset := set_fl (v := v) (i := i) (m := m) (by omega) rfl
            have zc7 := at_spec a (w + i + 1)
            repeat first | (refine hK _ ?_; clear hK K) | simp only [Sv, ↓reduceIte, Nat.reduceEqDiff] | ((first | refine vm_reg (fun K hK => ?_) | refine vm_dreg (fun K hK => ?_) | refine vm_dregx (fun K hK => ?_) | refine clp_q ?_ | refine clq_mk (by assumption) ?_ | refine mcq_q ?_ | (apply mcr_mk; assumption) | (apply ocr_mk; assumption)); simp (disch := (first | omega | assumption)) only [S1, ↓reduceIte, Nat.reduceEqDiff, Nat.reduceAdd, Nat.reduceMul, Nat.reduceDiv, AOp.sb, AOp.mut, frzf, ↓Bool.false_eq_true, beq_self_eq_true, ite_self, Nat.reduceLeDiff, Int.reduceEq, Int.reduceSub, Int.reduceAdd, Int.reduceNeg, Int.reduceLT, Int.reduceLE, Nat.reduceLT, bz_Shift, h, hr0, hsr, tn_add, W_get, W_set, ll, ll2, hsl, hor, tn_64, getD_set, List.set_set, hset])
            refine hQ _ (i + 1) (by omega) (by omega) ?_
            simp (disch := (first | omega | assumption)) only [Sl, Sa, Sw, ↓reduceIte, Nat.reduceEqDiff, Nat.reduceLT, List.all_nil, List.all_cons, Nat.reduceBneDiff, Nat.reduceAdd, bne_iff_ne, ne_eq, reduceCtorEq, not_false_eq_true, not_true_eq_false, Bool.and_true, Bool.true_and, and_true, true_and, and_self, i_eq]
            omega
          · have r0 : r = 0 := by omega
            have hset := set_fl (v := v) (i := i) (m := m) (d := a.getD (w + i) 0 / 2 ^ r) (by omega) (by rw [hd, d0, r0]; simp)
            refine spQ (ai @hset (ai @ll (ai @W_set (ai @hsr (ai @W_get (ai @tn_add (ai @hr0 (ai @h @bz_Shift)))))))) ?_
            refine hQ _ (i + 1) (by omega) (by omega) ?_
            simp (disch := (first | omega | assumption)) only [Sl, Sa, Sw, ↓reduceIte, Nat.reduceEqDiff, Nat.reduceLT, List.all_nil, List.all_cons, Nat.reduceBneDiff, Nat.reduceAdd, bne_iff_ne, ne_eq, reduceCtorEq, not_false_eq_true, not_true_eq_false, Bool.and_true, Bool.true_and, and_true, true_and, and_self, i_eq]
            omega
        · obtain rfl : i = m := by omega
          refine spQ (ai @h @bz_Shift) ?_
          refine he _ _ ?_
          refine spQ @bz_Shift ?_
          simp (disch := (first | omega | assumption)) only [retOk, retN, ret1, retF, ret1F, V.okArg, and_true, true_and, S1, ↓reduceIte, Nat.reduceEqDiff, Nat.reduceAdd, Nat.reduceMul, Nat.reduceDiv, AOp.sb, AOp.mut, frzf, ↓Bool.false_eq_true, beq_self_eq_true, ite_self, Nat.reduceLeDiff, Int.reduceEq, Int.reduceSub, Int.reduceAdd, Int.reduceNeg, Int.reduceLT, Int.reduceLE, Nat.reduceLT, bz_Shift, Nat.sub_self, List.replicate_zero]
end Go.Proofs.YtbkpaeejjepnpaaGreat
namespace Go.Proofs.YtbkpaeejjepnpaaGreat
open Go Go.RowKit Ab
set_option linter.unusedSimpArgs false
set_option linter.unusedVariables false
set_option maxHeartbeats 10000000
theorem bz_Shift2 : type_of% (And.intro @W_len (And.intro @D_len (And.intro @Bl_len (And.intro @Nat.div_one (And.intro @Nat.mul_one (And.intro @tn_nat (And.intro @W_nf (And.intro @D_nf (And.intro @Bl_nf (And.intro @W_nil (And.intro @D_nil (And.intro @Bl_nil (And.intro @tmod_64 (And.intro @tdiv_64 (And.intro @wi (@wu)))))))))))))))) := And.intro @W_len (And.intro @D_len (And.intro @Bl_len (And.intro @Nat.div_one (And.intro @Nat.mul_one (And.intro @tn_nat (And.intro @W_nf (And.intro @D_nf (And.intro @Bl_nf (And.intro @W_nil (And.intro @D_nil (And.intro @Bl_nil (And.intro @tmod_64 (And.intro @tdiv_64 (And.intro @wi (@wu)))))))))))))))
theorem nv_dgB (v : Nat) : nv B (dg B v) = v := nv_dg B2 v
theorem Wd_dg (v : Nat) : Wd (dg B v) := dg_Lt B0 v
theorem dlen {v k : Nat} (h : v < B ^ k) : (dg B v).length ≤ k := dg_len B2 h
theorem nvlt {a : List Nat} {m : Nat} (ha : Wd a) (la : a.length ≤ m) : nv B a < B ^ m := Nat.lt_of_lt_of_le (nv_lt ha) (Nat.pow_le_pow_right B0 la)
theorem pup {v k m : Nat} (h : v < B ^ k) (hk : k ≤ m) : v < B ^ m := Nat.lt_of_lt_of_le h (Nat.pow_le_pow_right B0 hk)
theorem padd {u v k : Nat} (h : u < B ^ k) (h' : v < B ^ k) : u + v < B ^ (k + 1) := by
  have h5 : B ^ k * 2 ≤ B ^ (k + 1) := Nat.mul_le_mul_left _ B2
  omega
theorem own_dg (a : List Nat) (ha : Wd a) (la : a.length ≤ 1099511627776) : AFun Tryz.prog J0 73 [.l 1 (W a)] (.o 29 1 (W (dg B (nv B a)))) := by
  have := own_spec a la
  rwa [tz_dg B2 ha] at this
theorem nv_mod {b : Nat} {l : List Nat} (hb : 0 < b) (h : Lt b l) (i : Nat) : nv b (l.take i) = nv b l % b ^ i := by
  rcases Nat.lt_or_ge l.length i with h1 | h1
  · rw [List.take_of_length_le (by omega), Nat.mod_eq_of_lt (Nat.lt_of_lt_of_le (nv_lt h) (Nat.pow_le_pow_right hb (by omega)))]
  · rw [nv_take_drop l i h1, Nat.add_mul_mod_self_left, Nat.mod_eq_of_lt (nv_take_lt hb h i)]
def shlR (v : Nat) (n : Int) : List Nat × Int := if n < 0 ∨ 1048576 < n then ([], 3) else (dg B (v * 2 ^ n.toNat), 0)
def shrR (v : Nat) (n : Int) : List Nat × Int := if n < 0 then ([], 3) else (dg B (v / 2 ^ n.toNat), 0)
def a107 : AC := .seq (.reg [qr 4 (.mv (.k .nl)),
 qr 5 (.mv (.k (.i .i64 0)))])
 (.seq (.seq (.reg [qm 8 1,
 qr 9 (.bin .lss (.t 8) (.k (.i .i64 0))),
 qm 10 9,
 ⟨some 11, some (10, false), .mv (.t 1)⟩,
 ⟨some 12, some (10, false), .bin .gtr (.t 11) (.k (.i .i64 1048576))⟩,
 qr 13 (.pick (.t 10) (.k (.b true)) (.t 12))])
 (.cond (.t 13)
 (.seq (.reg [qr 4 (.mv (.k .nl)),
 qr 5 (.mv (.k (.i .i64 3)))])
 (.ret))
 (.skip)))
 (.seq (.reg [qm 15 0,
 qr 16 (.call 90 [(1, (.t 15))]),
 qm 17 1,
 qr 18 (.call 119 [(1, (.t 16)), (1, (.t 17))]),
 qm 14 18,
 qr 19 (.ext (.t 14) 0),
 qr 20 (.ext (.t 14) 1),
 qm 6 19,
 qm 7 20])
 (.seq (.reg [qm 21 6,
 qr 22 (.call 73 [(1, (.t 21))]),
 qm 23 7,
 qm 4 22,
 qm 5 23])
 (.ret))))
theorem shl_spec (a : List Nat) (n : Int) (ha : Wd a) (la : a.length ≤ 100000000000) : AFun Tryz.prog J0 107 [.l 1 (W a), .i .i64 n] (.t [.l 1 (W (shlR (nv B a) n).1), .i .i64 (shlR (nv B a) n).2]) := by
  refine mkQ fol J0s Tryz.func107 a107 ?_
  unfold a107
  simp only [init_eq, initE, qm, qr, qn]
  by_cases h1 : n < 0
  · rw [show shlR (nv B a) n = ([], 3) from if_pos (.inl h1)]
    exact pdQ (ai @h1 (ai @nv_dgB @bz_Shift2))
  · by_cases h2 : 1048576 < n
    · rw [show shlR (nv B a) n = ([], 3) from if_pos (.inr h2)]
      exact pdQ (ai @h2 (ai @h1 (ai @nv_dgB @bz_Shift2)))
    · rw [show shlR (nv B a) n = (dg B (nv B a * 2 ^ n.toNat), 0) from if_neg (by omega)]
      obtain ⟨k, rfl⟩ : ∃ k : Nat, n = (k : Int) := ⟨n.toNat, by omega⟩
      have lt := tz_len a
      have lo := shlOut_len (tz a) k
      have e : nv B (shlOut (tz a) k) = nv B a * 2 ^ k := by rw [shlOut_nv (Lt_tz ha), nv_tz]
      have zc1 := trim_spec a (by omega)
      have zc2 := limbShl_spec (tz a) k (Lt_tz ha) (by omega) (by omega)
      have zc3 := own_dg (shlOut (tz a) k) (shlOut_Wd (Lt_tz ha) k) (by omega)
      exact wdQ (ai @e (ai @h2 (ai @h1 (ai @nv_dgB @bz_Shift2))))
def a112 : AC := .seq (.reg [qr 4 (.mv (.k .nl)),
 qr 5 (.mv (.k (.i .i64 0)))])
 (.seq (.seq (.reg [qm 9 1,
 qr 10 (.bin .lss (.t 9) (.k (.i .i64 0)))])
 (.cond (.t 10)
 (.seq (.reg [qr 4 (.mv (.k .nl)),
 qr 5 (.mv (.k (.i .i64 3)))])
 (.ret))
 (.skip)))
 (.seq (.reg [qm 12 0,
 qm 13 1,
 qr 14 (.call 124 [(1, (.t 12)), (1, (.t 13))]),
 qm 11 14,
 qr 15 (.ext (.t 11) 0),
 qr 16 (.ext (.t 11) 1),
 qr 17 (.ext (.t 11) 2),
 qm 6 15,
 qm 7 16,
 qm 8 17])
 (.seq (.reg [qm 18 6,
 qr 19 (.call 73 [(1, (.t 18))]),
 qm 20 8,
 qm 4 19,
 qm 5 20])
 (.ret))))
theorem shr_spec (a : List Nat) (n : Int) (ha : Wd a) (la : a.length ≤ 100000000000) (hn : n < 9223372036854775808) : AFun Tryz.prog J0 112 [.l 1 (W a), .i .i64 n] (.t [.l 1 (W (shrR (nv B a) n).1), .i .i64 (shrR (nv B a) n).2]) := by
  refine mkQ fol J0s Tryz.func112 a112 ?_
  unfold a112
  simp only [init_eq, initE, qm, qr, qn]
  by_cases h1 : n < 0
  · rw [show shrR (nv B a) n = ([], 3) from if_pos h1]
    exact pdQ (ai @h1 (ai @nv_dgB @bz_Shift2))
  · rw [show shrR (nv B a) n = (dg B (nv B a / 2 ^ n.toNat), 0) from if_neg h1]
    obtain ⟨k, rfl⟩ : ∃ k : Nat, n = (k : Int) := ⟨n.toNat, by omega⟩
    have e : nv B (fl B (a.length - k / 64) (nv B a / 2 ^ k)) = nv B a / 2 ^ k := by
      rw [nv_fl, Nat.mod_eq_of_lt]
      rw [pow_split, ← Nat.div_div_eq_div_mul]
      refine Nat.lt_of_le_of_lt (Nat.div_le_self _ _) ?_
      rcases Nat.lt_or_ge a.length (k / 64) with h | h
      · rw [Nat.div_eq_of_lt (Nat.lt_of_lt_of_le (nv_lt ha) (Nat.pow_le_pow_right B0 (by omega)))]
        exact Nat.pow_pos B0
      · rw [Nat.div_lt_iff_lt_mul (Nat.pow_pos B0), ← Nat.pow_add, show a.length - k / 64 + k / 64 = a.length from by omega]
        exact nv_lt ha
    have zc4 := limbShr_spec a k ha (by omega) (by omega)
    have zc5 := own_dg (fl B (a.length - k / 64) (nv B a / 2 ^ k)) (fl_Lt B0 _ _) (by rw [fl_len]; omega)
    exact wdQ (ai @e (ai @h1 (ai @nv_dgB @bz_Shift2)))
end Go.Proofs.YtbkpaeejjepnpaaGreat
