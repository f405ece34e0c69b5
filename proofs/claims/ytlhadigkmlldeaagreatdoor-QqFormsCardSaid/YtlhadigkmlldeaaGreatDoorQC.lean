/-
  The texts Q9, Q10, Q11, Q12, Q13.
-/
import Derived.Test.YtlhadigkmlldeaaGreatDoorP1
import Derived.Test.YtlhadigkmlldeaaGreatDoorGG
import Derived.Test.YtlhadigkmlldeaaGreatDoorQB
/- Q9 -/
namespace Go.Proofs.YtlhadigkmlldeaaGreatDoor
open Go Go.RowKit Ab
set_option linter.unusedSimpArgs false
set_option linter.unusedVariables false
set_option maxHeartbeats 10000000
theorem bz_Q9 : type_of% (And.intro @wi (And.intro @tn_nat (And.intro @Nat.div_one (And.intro @Nat.mul_one (And.intro @W_len (And.intro @W_nf (And.intro @W_cell (And.intro @W_nil (@W_get))))))))) := And.intro @wi (And.intro @tn_nat (And.intro @Nat.div_one (And.intro @Nat.mul_one (And.intro @W_len (And.intro @W_nf (And.intro @W_cell (And.intro @W_nil (@W_get))))))))

-- surd/div.Digits
def a174 : AC := .seq (.reg [⟨some 4, none, .mv (.k .nl)⟩,
 ⟨some 5, none, .mv (.k (.i .i64 0))⟩])
 (.seq (.seq (.reg [⟨some 11, none, .mv (.t 1)⟩,
 ⟨some 12, none, .bin .lss (.t 11) (.k (.i .u64 2))⟩])
 (.cond (.t 12)
 (.seq (.reg [⟨some 4, none, .mv (.k .nl)⟩,
 ⟨some 5, none, .mv (.k (.i .i64 3))⟩])
 (.ret))
 (.skip)))
 (.seq (.reg [⟨some 6, none, .mv (.k .nl)⟩])
 (.seq (.seq (.reg [⟨some 13, none, .mv (.t 0)⟩,
 ⟨some 14, none, .call 131 [(1, (.t 13))]⟩,
 ⟨some 7, none, .mv (.t 14)⟩])
 (.blk 0
 (.loop
 (.seq (.seq (.reg [⟨some 15, none, .mv (.t 7)⟩,
 ⟨some 16, none, .len (.t 15)⟩,
 ⟨some 17, none, .bin .gtr (.t 16) (.k (.i .i64 0))⟩])
 (.cond (.t 17)
 (.skip)
 (.exit 0)))
 (.blk 1
 (.seq (.reg [⟨some 19, none, .mv (.t 7)⟩,
 ⟨some 20, none, .mv (.t 1)⟩,
 ⟨some 21, none, .call 176 [(1, (.t 19)), (1, (.t 20))]⟩,
 ⟨some 18, none, .mv (.t 21)⟩,
 ⟨some 22, none, .ext (.t 18) 0⟩,
 ⟨some 23, none, .ext (.t 18) 1⟩,
 ⟨some 24, none, .ext (.t 18) 2⟩,
 ⟨some 8, none, .mv (.t 22)⟩,
 ⟨some 9, none, .mv (.t 23)⟩,
 ⟨some 10, none, .mv (.t 24)⟩])
 (.seq (.seq (.reg [⟨some 25, none, .mv (.t 10)⟩,
 ⟨some 26, none, .bin .neq (.t 25) (.k (.i .i64 0))⟩])
 (.cond (.t 26)
 (.seq (.reg [⟨some 27, none, .mv (.t 10)⟩,
 ⟨some 4, none, .mv (.k .nl)⟩,
 ⟨some 5, none, .mv (.t 27)⟩])
 (.ret))
 (.skip)))
 (.seq (.reg [⟨some 28, none, .mv (.t 6)⟩,
 ⟨some 29, none, .mv (.t 9)⟩,
 ⟨some 30, none, .bsl 70 1 1 [(.i .u64 0)] [(0, (.t 29))]⟩,
 ⟨some 31, none, .app 70 1 8 (.t 28) (.t 30)⟩,
 ⟨some 6, none, .mv (.t 31)⟩])
 (.reg [⟨some 32, none, .mv (.t 8)⟩,
 ⟨some 7, none, .mv (.t 32)⟩])))))))))
 (.seq (.reg [⟨some 33, none, .mv (.t 6)⟩,
 ⟨some 4, none, .mv (.t 33)⟩,
 ⟨some 5, none, .mv (.k (.i .i64 0))⟩])
 (.ret)))))
/-- digits, the code -/
def dgD (u b : Nat) : List Nat := if b < 2 then [] else dg b u
def dgE (b : Nat) : Int := if b < 2 then 3 else 0
theorem digs_spec (a : List Nat) (b : Nat) (ha : Wd a) (hb : b < 18446744073709551616) (la : a.length ≤ 10000000) :
    AFun Tryz.prog J0 174 [.l 1 (W a), .i .u64 (b : Int)] (.t [.l 1 (W (dgD (nv B a) b)), .i .i64 (dgE b)]) := by
  refine AFun.mk fol J0s Tryz.func174 rfl (ac := a174) (by kernel_rfl) rfl rfl rfl ?_
  apply vm_start
  unfold a174
  simp only [init_eq, initE]
  by_cases h0 : (b : Int) < 2
  · rw [show dgD (nv B a) b = [] from if_pos (by omega), show dgE b = 3 from if_pos (by omega)]
    refine spQ (ai @h0 (ai @lnilA @bz_Q9)) ?_
    exact rtQ (ai @lnilA @bz_Q9)
  · have hb2 : 2 ≤ b := by omega
    rw [show dgD (nv B a) b = dg b (nv B a) from if_neg (by omega), show dgE b = 0 from if_neg (by omega)]
    have hn := (norm_dg a ha (by omega)).frozen
    have hA := nv_lt ha
    have hw := fun x (hx : x < B ^ a.length) => word_spec (dg B x) b (Wd_dg x) (by omega) hb (by have := dlen hx; omega)
    simp only [nv_dgB] at hw
    generalize nv B a = u at *
    have hbig : ∀ i, 0 < u / b ^ i → i < 64 * a.length := fun i h => by
      have h1 : b ^ i ≤ u := by
        rcases Nat.lt_or_ge u (b ^ i) with h2 | h2
        · rw [Nat.div_eq_of_lt h2] at h; omega
        · exact h2
      have h2 : 2 ^ i ≤ b ^ i := Nat.pow_le_pow_left hb2 i
      have h3 : 2 ^ i < 2 ^ (64 * a.length) := by rw [Nat.pow_mul, show (2 : Nat) ^ 64 = B from rfl]; omega
      exact (Nat.pow_lt_pow_iff_right (by decide : 1 < 2)).1 h3
    have hbigl : ∀ i, (i = 0 ∨ 0 < u / b ^ (i - 1)) → i ≤ 64 * a.length := fun i h => by
      rcases h with h | h
      · omega
      · have := hbig _ h; omega
    refine wkQ (ai @h0 (ai @lnilA @bz_Q9)) ?_
    refine vm_loopA [(6, 70, 1)] Nat (fun i => ⟨[(1, .i .u64 (b : Int)), (6, .ow 1 0 i), (7, .l 1 (W (dg B (u / b ^ i))))], [(0, some ⟨70, 1, W (fl b i u), true, false⟩)], 1⟩)
      (fun i => i = 0 ∨ 0 < u / b ^ (i - 1)) (fun i => u / b ^ i) 0 (.inl rfl) (by exact leQ) (by
      simp (disch := (first | omega | assumption)) only [Sl, Sa, Sw, ↓reduceIte, Nat.reduceEqDiff, Nat.reduceLT, List.all_nil, List.all_cons, Nat.reduceBneDiff, Nat.reduceAdd, bne_iff_ne, ne_eq, reduceCtorEq, not_false_eq_true, not_true_eq_false, Bool.and_true, Bool.true_and, and_true, true_and, and_self, i_eq]
      rw [Nat.pow_zero, Nat.div_one]
      repeat' first | rfl | omega | (simp only [List.length_append, List.length_cons, List.length_nil]; done) | apply And.intro) ?_
    intro i hi Q' hQ he hr
    have hil := hbigl i hi
    by_cases h1 : u / b ^ i = 0
    · have e : fl b i u = dg b u := by
        refine fl_full hb2 (hi.imp id fun h => ?_) ?_
        · rcases Nat.lt_or_ge u (b ^ (i - 1)) with h2 | h2
          · rw [Nat.div_eq_of_lt h2] at h; omega
          · exact h2
        · rcases Nat.lt_or_ge u (b ^ i) with h2 | h2
          · exact h2
          · have := (Nat.le_div_iff_mul_le (Nat.pow_pos (by omega : 0 < b))).2 (by rw [Nat.one_mul]; exact h2 : 1 * b ^ i ≤ u)
            omega
      rw [h1, dg_zero]
      refine spQ (ai @lnilA @bz_Q9) ?_
      refine he _ _ ?_
      refine spQ (ai @lnilA @bz_Q9) ?_
      exact rtQ (ai @e (ai @lnilA @bz_Q9))
    · have hp : 0 < u / b ^ i := Nat.pos_of_ne_zero h1
      have hx : u / b ^ i < B ^ a.length := Nat.lt_of_le_of_lt (Nat.div_le_self _ _) hA
      have hwi := hw _ hx
      have hlt : u / b ^ i / b < u / b ^ i := Nat.div_lt_self hp (by omega)
      rw [Nat.div_div_eq_div_mul, ← Nat.pow_succ] at hwi hlt
      have hpos : (0 : Int) < (((dg B (u / b ^ i)).length : Nat) : Int) := by
        have : (dg B (u / b ^ i)).length ≠ 0 := fun h => h1 ((dg_nil B2).1 (List.eq_nil_of_length_eq_zero h))
        omega
      repeat first | (refine hK _ ?_; clear hK K) | simp only [Sv, ↓reduceIte, Nat.reduceEqDiff] | ((first | refine vm_reg (fun K hK => ?_) | refine vm_dreg (fun K hK => ?_) | refine vm_dregx (fun K hK => ?_) | refine clp_q ?_ | refine clq_mk (by assumption) ?_ | refine mcq_q ?_ | (apply mcr_mk; assumption)); simp (disch := (first | omega | assumption)) only [S1, ↓reduceIte, Nat.reduceEqDiff, Nat.reduceAdd, Nat.reduceMul, Nat.reduceDiv, AOp.sb, AOp.mut, ↓Bool.false_eq_true, beq_self_eq_true, ite_self, Nat.reduceLeDiff, Int.reduceEq, Int.reduceSub, Int.reduceAdd, Int.reduceNeg, Int.reduceLT, Int.reduceLE, Nat.reduceLT, bz_Q9, List.length_nil, hpos, W_app1, ← fl_succ])
      refine hQ _ (i + 1) (.inr hp) hlt ?_
      exact ltQ
-- surd/radix.text
def a158 : AC := .seq (.reg [⟨some 4, none, .mv (.k (.s []))⟩])
 (.seq (.reg [⟨some 11, none, .mv (.t 0)⟩,
 ⟨some 12, none, .mv (.t 1)⟩,
 ⟨some 13, none, .cvt .u64 (.t 12)⟩,
 ⟨some 14, none, .call 174 [(1, (.t 11)), (1, (.t 13))]⟩,
 ⟨some 10, none, .mv (.t 14)⟩,
 ⟨some 15, none, .ext (.t 10) 0⟩,
 ⟨some 16, none, .ext (.t 10) 1⟩,
 ⟨some 5, none, .mv (.t 15)⟩,
 ⟨some 6, none, .mv (.t 16)⟩])
 (.seq (.seq (.reg [⟨some 17, none, .mv (.t 5)⟩,
 ⟨some 18, none, .len (.t 17)⟩,
 ⟨some 19, none, .bin .eql (.t 18) (.k (.i .i64 0))⟩])
 (.cond (.t 19)
 (.seq (.reg [⟨some 20, none, .asl 36 1 (.k (.ip tab_0 0)) none (some (.k (.i .i64 1)))⟩,
 ⟨some 21, none, .pur .b2s [(.t 20)]⟩,
 ⟨some 4, none, .mv (.t 21)⟩])
 (.ret))
 (.skip)))
 (.seq (.reg [⟨some 22, none, .mv (.t 5)⟩,
 ⟨some 23, none, .len (.t 22)⟩,
 ⟨some 24, none, .mk 5 1 1 [(.i .u8 0)] (.t 23) (.t 23)⟩,
 ⟨some 7, none, .mv (.t 24)⟩])
 (.seq (.seq (.reg [⟨some 25, none, .mv (.t 5)⟩,
 ⟨some 26, none, .len (.t 25)⟩,
 ⟨some 27, none, .mv (.k (.i .i64 0))⟩])
 (.blk 0
 (.loop
 (.seq (.reg [⟨some 28, none, .bin .lss (.t 27) (.t 26)⟩])
 (.seq (.cond (.t 28)
 (.skip)
 (.exit 0))
 (.seq (.blk 1
 (.seq (.reg [⟨some 29, none, .mv (.t 27)⟩,
 ⟨some 30, none, .idx 1 (.t 25) (.t 27)⟩,
 ⟨some 31, none, .ld false 1 (.t 30)⟩,
 ⟨some 8, none, .mv (.t 29)⟩,
 ⟨some 9, none, .mv (.t 31)⟩])
 (.reg [⟨some 32, none, .mv (.t 7)⟩,
 ⟨some 33, none, .mv (.t 5)⟩,
 ⟨some 34, none, .len (.t 33)⟩,
 ⟨some 35, none, .bin .sub (.t 34) (.k (.i .i64 1))⟩,
 ⟨some 36, none, .mv (.t 8)⟩,
 ⟨some 37, none, .bin .sub (.t 35) (.t 36)⟩,
 ⟨some 38, none, .mv (.t 9)⟩,
 ⟨some 39, none, .aix 36 1 (.k (.ip tab_0 0)) (.t 38)⟩,
 ⟨some 40, none, .ld false 1 (.t 39)⟩,
 ⟨some 41, none, .idx 1 (.t 32) (.t 37)⟩,
 ⟨none, none, .st 1 (.t 41) (.t 40)⟩])))
 (.reg [⟨some 42, none, .bin .add (.t 27) (.k (.i .i64 1))⟩,
 ⟨some 27, none, .mv (.t 42)⟩])))))))
 (.seq (.reg [⟨some 43, none, .mv (.t 7)⟩,
 ⟨some 44, none, .pur .b2s [(.t 43)]⟩,
 ⟨some 4, none, .mv (.t 44)⟩])
 (.ret))))))
set_option maxRecDepth 4000 in
theorem text1_spec (v : Nat) (h0 : 0 < v) (h1 : v < 10) : AFun Tryz.prog J0 158 [.l 1 (W (dg B v)), .i .i64 10] (.s [(48 + v).toUInt8]) := by
  have hd := digs_spec (dg B v) 10 (Wd_dg _) (by decide) (Nat.le_trans (dlen (k := 1) (by rw [Nat.pow_one]; show v < 18446744073709551616; omega)) (by decide))
  rw [nv_dgB, show dgE 10 = 0 from rfl, show dgD v 10 = dg 10 v from rfl] at hd
  have e : dg 10 v = [v] := by
    rcases (show v = 1 ∨ v = 2 ∨ v = 3 ∨ v = 4 ∨ v = 5 ∨ v = 6 ∨ v = 7 ∨ v = 8 ∨ v = 9 by omega) with rfl | rfl | rfl | rfl | rfl | rfl | rfl | rfl | rfl <;> decide +kernel
  rw [e, show W [v] = [.i .u64 (v : Int)] from rfl] at hd
  have hg : ([.i .u64 (v : Int)] : List V).getD (Int.toNat 0) .un = .i .u64 (v : Int) := rfl
  have hby : bytesOf [.i .u8 ((48 + v : Nat) : Int)] = some [(48 + v).toUInt8] := by
    rcases (show v = 1 ∨ v = 2 ∨ v = 3 ∨ v = 4 ∨ v = 5 ∨ v = 6 ∨ v = 7 ∨ v = 8 ∨ v = 9 by omega) with rfl | rfl | rfl | rfl | rfl | rfl | rfl | rfl | rfl <;> rfl
  have omap : ∀ x : List UInt8, (some x).map V.s = some (.s x) := fun _ => rfl
  have hb8 : ((48 + v : Nat) : Int) < 256 := by omega
  generalize (48 + v).toUInt8 = c at *
  refine AFun.mk fol J0s Tryz.func158 rfl (ac := a158) (by kernel_rfl) rfl rfl rfl ?_
  apply vm_start
  unfold a158
  simp only [init_eq, initE]
  refine wkQ (ai @lnilA @bz_Q9) ?_
  have ht : tab_0.getD v .un = .i .u8 ((48 + v : Nat) : Int) := by
    rcases (show v = 1 ∨ v = 2 ∨ v = 3 ∨ v = 4 ∨ v = 5 ∨ v = 6 ∨ v = 7 ∨ v = 8 ∨ v = 9 by omega) with rfl | rfl | rfl | rfl | rfl | rfl | rfl | rfl | rfl <;> rfl
  have htl : tab_0.length = 36 := rfl
  have hv36 : v < 36 := by omega
  refine vm_loopA [] Bool (fun f => match f with
      | false => ⟨[(0, .l 1 (W (dg B v))), (5, .l 1 [.i .u64 (v : Int)]), (7, .ow 1 0 1), (25, .l 1 [.i .u64 (v : Int)]), (26, .i .i64 1), (27, .i .i64 0)], [(0, some ⟨5, 1, [.i .u8 0], true, false⟩)], 1⟩
      | true => ⟨[(0, .l 1 (W (dg B v))), (5, .l 1 [.i .u64 (v : Int)]), (7, .ow 1 0 1), (25, .l 1 [.i .u64 (v : Int)]), (26, .i .i64 1), (27, .i .i64 1)], [(0, some ⟨5, 1, [.i .u8 ((48 + v : Nat) : Int)], true, false⟩)], 1⟩)
    (fun _ => True) (fun f => match f with | false => 1 | true => 0) false trivial (by exact leQ) (by
    exact ltQ) ?_
  rintro f - Q' hQ he hr
  cases f
  · simp only []
    refine spQ (ai @Nat.zero_add (ai @hv36 (ai @htl (ai @ht (ai @hg (ai @lnilA @bz_Q9)))))) ?_
    refine hQ _ true trivial (by decide) ?_
    exact ltQ
  · simp only []
    refine spQ (ai @lnilA @bz_Q9) ?_
    refine he _ _ ?_
    refine spQ (ai @omap (ai @hby (ai @lnilA @bz_Q9))) ?_
    exact rtQ (ai @lnilA @bz_Q9)
end Go.Proofs.YtlhadigkmlldeaaGreatDoor

/- Q10 -/
namespace Go.Proofs.YtlhadigkmlldeaaGreatDoor
open Go Go.RowKit Ab
set_option linter.unusedSimpArgs false
set_option linter.unusedVariables false
set_option maxHeartbeats 10000000
theorem bz_Q10 : type_of% (And.intro @W_len (And.intro @D_len (And.intro @Nat.div_one (And.intro @Nat.mul_one (And.intro @tn_nat (And.intro @W_nf (And.intro @D_nf (And.intro @W_nil (And.intro @D_nil (And.intro @wi (And.intro @nf_g (And.intro @Bool.false_and (@W_cell))))))))))))) := And.intro @W_len (And.intro @D_len (And.intro @Nat.div_one (And.intro @Nat.mul_one (And.intro @tn_nat (And.intro @W_nf (And.intro @D_nf (And.intro @W_nil (And.intro @D_nil (And.intro @wi (And.intro @nf_g (And.intro @Bool.false_and (@W_cell))))))))))))

-- surd/radix.Format
def a125 : AC := .seq (.reg [⟨some 2, none, .mv (.k (.s []))⟩])
 (.seq (.reg [⟨some 3, none, .mv (.t 0)⟩,
 ⟨some 4, none, .call 158 [(1, (.t 3)), (1, (.k (.i .i64 10)))]⟩,
 ⟨some 2, none, .mv (.t 4)⟩])
 (.ret))
theorem format1_spec (v : Nat) (h0 : 0 < v) (h1 : v < 10) : AFun Tryz.prog J0 125 [.l 1 (W (dg B v))] (.s [(48 + v).toUInt8]) := by
  have h := text1_spec v h0 h1
  generalize (48 + v).toUInt8 = c at *
  refine AFun.mk fol J0s Tryz.func125 rfl (ac := a125) (by kernel_rfl) rfl rfl rfl ?_
  apply vm_start
  unfold a125
  simp only [init_eq, initE]
  exact wdQ @bz_Q10
-- surd/zz.Print
def a124 : AC := .seq (.reg [⟨some 1, none, .bx 25 (.t 0)⟩,
 ⟨some 2, none, .mv (.k (.s []))⟩])
 (.seq (.reg [⟨some 4, none, .ld true 2 (.t 1)⟩,
 ⟨some 5, none, .call 126 [(1, (.t 4))]⟩,
 ⟨some 3, none, .al 25 [(.b false), (.l 1 [])]⟩,
 ⟨none, none, .st 2 (.t 3) (.t 5)⟩])
 (.seq (.seq (.reg [⟨some 6, none, .fad 0 (.t 3)⟩,
 ⟨some 7, none, .ld false 1 (.t 6)⟩])
 (.cond (.t 7)
 (.seq (.reg [⟨some 8, none, .fad 1 (.t 3)⟩,
 ⟨some 9, none, .ld false 1 (.t 8)⟩,
 ⟨some 10, none, .call 125 [(1, (.t 9))]⟩,
 ⟨some 11, none, .bin .add (.k (.s [45])) (.t 10)⟩,
 ⟨some 2, none, .mv (.t 11)⟩])
 (.ret))
 (.skip)))
 (.seq (.reg [⟨some 12, none, .fad 1 (.t 3)⟩,
 ⟨some 13, none, .ld false 1 (.t 12)⟩,
 ⟨some 14, none, .call 125 [(1, (.t 13))]⟩,
 ⟨some 2, none, .mv (.t 14)⟩])
 (.ret))))
theorem zprint1_spec (v : Nat) (h0 : 0 < v) (h1 : v < 10) : AFun Tryz.prog J0 124 [zN (v : Int)] (.s [(48 + v).toUInt8]) := by
  have h := format1_spec v h0 h1
  have hn := znorm_spec (decide ((v : Int) < 0)) (dg B (v : Int).natAbs) (Wd_dg _) (Nat.le_trans (dlen (k := 1) (by rw [Nat.pow_one]; show v < 18446744073709551616; omega)) (by decide))
  rw [zv_N] at hn
  rw [show zN (v : Int) = .g [.b false, .l 1 (W (dg B v))] from by show V.g [.b (decide ((v : Int) < 0)), .l 1 (W (dg B v))] = _; rw [decide_eq_false (by omega)]] at hn ⊢
  rw [show decide ((v : Int) < 0) = false from decide_eq_false (by omega), nat_abs] at hn
  generalize (48 + v).toUInt8 = c at *
  refine AFun.mk fol J0s Tryz.func124 rfl (ac := a124) (by kernel_rfl) rfl rfl rfl ?_
  apply vm_start
  unfold a124
  simp only [init_eq, initE]
  exact wdQ @bz_Q10
-- surd/qq.Print
def a70 : AC := .seq (.reg [⟨some 1, none, .bx 27 (.t 0)⟩,
 ⟨some 2, none, .mv (.k (.s []))⟩,
 ⟨some 3, none, .mv (.k (.i .i64 0))⟩])
 (.seq (.reg [⟨some 7, none, .ld true 3 (.t 1)⟩,
 ⟨some 8, none, .call 25 [(1, (.t 7))]⟩,
 ⟨some 6, none, .mv (.t 8)⟩,
 ⟨some 9, none, .ext (.t 6) 0⟩,
 ⟨some 10, none, .ext (.t 6) 1⟩,
 ⟨none, none, .st 3 (.t 1) (.t 9)⟩,
 ⟨some 4, none, .mv (.t 10)⟩])
 (.seq (.seq (.reg [⟨some 11, none, .mv (.t 4)⟩,
 ⟨some 12, none, .bin .neq (.t 11) (.k (.i .i64 0))⟩])
 (.cond (.t 12)
 (.seq (.reg [⟨some 13, none, .mv (.t 4)⟩,
 ⟨some 2, none, .mv (.k (.s []))⟩,
 ⟨some 3, none, .mv (.t 13)⟩])
 (.ret))
 (.skip)))
 (.seq (.reg [⟨some 14, none, .fad 0 (.t 1)⟩,
 ⟨some 15, none, .ld true 2 (.t 14)⟩,
 ⟨some 16, none, .call 124 [(1, (.t 15))]⟩,
 ⟨some 5, none, .mv (.t 16)⟩])
 (.seq (.seq (.reg [⟨some 17, none, .fad 2 (.t 1)⟩,
 ⟨some 18, none, .ld false 1 (.t 17)⟩,
 ⟨some 19, none, .call 92 [(1, (.t 18))]⟩,
 ⟨some 20, none, .bin .gtr (.t 19) (.k (.i .i64 1))⟩])
 (.cond (.t 20)
 (.reg [⟨some 21, none, .mv (.t 5)⟩,
 ⟨some 22, none, .fad 2 (.t 1)⟩,
 ⟨some 23, none, .ld false 1 (.t 22)⟩,
 ⟨some 24, none, .call 125 [(1, (.t 23))]⟩,
 ⟨some 25, none, .bin .add (.k (.s [47])) (.t 24)⟩,
 ⟨some 26, none, .bin .add (.t 21) (.t 25)⟩,
 ⟨some 5, none, .mv (.t 26)⟩])
 (.skip)))
 (.seq (.reg [⟨some 27, none, .mv (.t 5)⟩,
 ⟨some 2, none, .mv (.t 27)⟩,
 ⟨some 3, none, .mv (.k (.i .i64 0))⟩])
 (.ret))))))
theorem qprint32 : AFun Tryz.prog J0 70 [.g [.b false, .l 1 (W (dg B 3)), .l 1 (W (dg B 2))]] (.t [.s [51, 47, 50], .i .i64 0]) := by
  have h1 : AFun Tryz.prog J0 25 [.g [.b false, .l 1 (W (dg B 3)), .l 1 (W (dg B 2))]] (.t [.g [.b false, .l 1 (W (dg B 3)), .l 1 (W (dg B 2))], .i .i64 0]) := by
    have h1 := qnorm_spec (decide ((3 : Int) < 0)) (dg B (3 : Int).natAbs) (dg B 2) 1 (by decide) (Wd_dg _) (Wd_dg _) (dlen (by decide)) (dlen (by decide))
    rw [zv_N, nv_dgB, rv_p _ (by decide), re_p (by decide), show rz 3 2 = 3 from by decide +kernel, show rden 3 2 = 2 from by decide +kernel] at h1
    exact h1
  have h2 : AFun Tryz.prog J0 124 [.g [.b false, .l 1 (W (dg B 3))]] (.s [51]) := zprint1_spec 3 (by decide) (by decide)
  have h3 := natBits_spec (dg B 2) (Wd_dg _) (Nat.le_trans (dlen (k := 1) (by decide)) (by decide))
  rw [nv_dgB, show ((bl 2 : Nat) : Int) = 2 from by decide +kernel] at h3
  have h4 : AFun Tryz.prog J0 125 [.l 1 (W (dg B 2))] (.s [50]) := format1_spec 2 (by decide) (by decide)
  have e1 : ([47] : List UInt8).length + ([50] : List UInt8).length ≤ 9223372036854775807 := by decide
  have e2 : ([51] : List UInt8).length + (([47] : List UInt8) ++ [50]).length ≤ 9223372036854775807 := by decide
  have e3 : ([51] : List UInt8) ++ ([47] ++ [50]) = [51, 47, 50] := rfl
  generalize dg B 2 = d2 at *
  generalize dg B 3 = d3 at *
  refine AFun.mk fol J0s Tryz.func70 rfl (ac := a70) (by kernel_rfl) rfl rfl rfl ?_
  apply vm_start
  unfold a70
  simp only [init_eq, initE]
  exact wdQ (ai @e3 (ai @e2 (ai @e1 @bz_Q10)))
end Go.Proofs.YtlhadigkmlldeaaGreatDoor

/- Q11 -/
namespace Go.Proofs.YtlhadigkmlldeaaGreatDoor
open Go Go.RowKit Ab
set_option linter.unusedSimpArgs false
set_option linter.unusedVariables false
set_option maxHeartbeats 10000000
theorem bz_Q11 : type_of% (And.intro @W_len (And.intro @D_len (And.intro @Nat.div_one (And.intro @Nat.mul_one (And.intro @tn_nat (And.intro @W_nf (And.intro @D_nf (And.intro @W_nil (And.intro @D_nil (And.intro @wi (And.intro @nf_g (And.intro @Bool.false_and (@W_cell))))))))))))) := And.intro @W_len (And.intro @D_len (And.intro @Nat.div_one (And.intro @Nat.mul_one (And.intro @tn_nat (And.intro @W_nf (And.intro @D_nf (And.intro @W_nil (And.intro @D_nil (And.intro @wi (And.intro @nf_g (And.intro @Bool.false_and (@W_cell))))))))))))

-- surd/qq.Add
def a40 : AC := .seq (.reg [⟨some 2, none, .bx 27 (.t 0)⟩,
 ⟨some 3, none, .bx 27 (.t 1)⟩,
 ⟨some 4, none, .al 27 [(.b false), (.l 1 []), (.l 1 [])]⟩,
 ⟨some 5, none, .mv (.k (.i .i64 0))⟩])
 (.seq (.seq (.reg [⟨some 7, none, .ld true 3 (.t 2)⟩,
 ⟨some 8, none, .ld true 3 (.t 3)⟩,
 ⟨some 9, none, .bsl 27 3 2 [(.b false), (.l 1 []), (.l 1 []), (.b false), (.l 1 []), (.l 1 [])] [(0, (.t 7)), (1, (.t 8))]⟩,
 ⟨some 10, none, .call 80 [(3, (.t 9))]⟩,
 ⟨some 6, none, .mv (.t 10)⟩])
 (.seq (.reg [⟨some 11, none, .mv (.t 6)⟩,
 ⟨some 12, none, .bin .neq (.t 11) (.k (.i .i64 0))⟩])
 (.cond (.t 12)
 (.seq (.reg [⟨some 13, none, .bld [(.b false), (.l 1 []), (.l 1 [])] []⟩,
 ⟨some 14, none, .mv (.t 6)⟩,
 ⟨none, none, .st 3 (.t 4) (.t 13)⟩,
 ⟨some 5, none, .mv (.t 14)⟩])
 (.ret))
 (.skip))))
 (.seq (.dreg [⟨some 15, none, .fad 0 (.t 2)⟩,
 ⟨some 16, none, .ld true 2 (.t 15)⟩,
 ⟨some 17, none, .fad 2 (.t 3)⟩,
 ⟨some 18, none, .ld false 1 (.t 17)⟩,
 ⟨some 19, none, .call 82 [(1, (.t 16)), (1, (.t 18))]⟩,
 ⟨some 20, none, .fad 0 (.t 3)⟩,
 ⟨some 21, none, .ld true 2 (.t 20)⟩,
 ⟨some 22, none, .fad 2 (.t 2)⟩,
 ⟨some 23, none, .ld false 1 (.t 22)⟩,
 ⟨some 24, none, .call 82 [(1, (.t 21)), (1, (.t 23))]⟩,
 ⟨some 25, none, .call 103 [(1, (.t 19)), (1, (.t 24))]⟩,
 ⟨some 26, none, .fad 2 (.t 2)⟩,
 ⟨some 27, none, .ld false 1 (.t 26)⟩,
 ⟨some 28, none, .fad 2 (.t 3)⟩,
 ⟨some 29, none, .ld false 1 (.t 28)⟩,
 ⟨some 30, none, .call 104 [(1, (.t 27)), (1, (.t 29))]⟩,
 ⟨some 31, none, .call 75 [(1, (.t 25)), (1, (.t 30))]⟩,
 ⟨none, none, .st 3 (.t 4) (.t 31)⟩,
 ⟨some 5, none, .mv (.k (.i .i64 0))⟩])
 (.ret)))
theorem qadd_spec (s t : Bool) (a b d e : List Nat) (m : Nat) (hm : m ≤ 10000000) (ha : Wd a) (hb : Wd b) (hd : Wd d) (he : Wd e) (la : a.length ≤ m) (lb : b.length ≤ m) (ld : d.length ≤ m) (le : e.length ≤ m) :
    AFun Tryz.prog J0 40 [rL s a d, rL t b e] (.t [rv (zv s a * (nv B e : Int) + zv t b * (nv B d : Int)) (nv B d * nv B e), .i .i64 (re (nv B d * nv B e))]) := by
  have h1 := qchecks2 s t a b d e hd he (by omega) (by omega)
  by_cases h : nv B d * nv B e = 0
  · rw [h, rv_0, re_0]
    rw [h, re_0] at h1
    refine AFun.mkc fol J0s Tryz.func40 rfl (ac := a40) (by kernel_rfl) (rs := [.c 4 true 3, .t 5]) (by kernel_rfl) rfl rfl ?_
    apply vm_start
    unfold a40
    simp only [init_eq, initE]
    exact wcQ @bz_Q11
  · rw [rv_p _ h, re_p h]
    rw [re_p h] at h1
    have h2 := qtimes_spec s a e ha he (by omega) (by omega)
    have h3 := qtimes_spec t b d hb hd (by omega) (by omega)
    have b1 : (zv s a * (nv B e : Int)).natAbs < B ^ (m + m) := by rw [Int.natAbs_mul, Nat.pow_add]; exact Nat.mul_lt_mul'' (zv_lt ha la) (nvlt he le)
    have b2 : (zv t b * (nv B d : Int)).natAbs < B ^ (m + m) := by rw [Int.natAbs_mul, Nat.pow_add]; exact Nat.mul_lt_mul'' (zv_lt hb lb) (nvlt hd ld)
    have b3 : nv B d * nv B e < B ^ (m + m) := by rw [Nat.pow_add]; exact Nat.mul_lt_mul'' (nvlt hd ld) (nvlt he le)
    have h5 := mul_spec d e hd he (by omega) (by omega)
    generalize zv s a * (nv B e : Int) = x at *
    generalize zv t b * (nv B d : Int) = y at *
    generalize nv B d * nv B e = w at *
    have h4 := zaddN b1 b2 (by omega)
    have b4 : (x + y).natAbs < B ^ (m + m + 1) := Nat.lt_of_le_of_lt (Int.natAbs_add_le _ _) (padd b1 b2)
    have h6 := qred_spec (decide (x + y < 0)) (dg B (x + y).natAbs) (dg B w) (m + m + 1) (by omega) (Wd_dg _) (Wd_dg _) (dlen b4) (dlen (pup b3 (by omega))) (by rw [nv_dgB]; exact h)
    rw [zv_N, nv_dgB] at h6
    generalize rz (x + y) w = u at *
    generalize rden (x + y) w = v at *
    generalize x + y = xy at *
    refine AFun.mkc fol J0s Tryz.func40 rfl (ac := a40) (by kernel_rfl) (rs := [.c 4 true 3, .t 5]) (by kernel_rfl) rfl rfl ?_
    apply vm_start
    unfold a40
    simp only [init_eq, initE]
    exact wcQ @bz_Q11
-- surd/qq.Sub
def a41 : AC := .seq (.reg [⟨some 2, none, .bx 27 (.t 0)⟩,
 ⟨some 3, none, .bx 27 (.t 1)⟩,
 ⟨some 4, none, .al 27 [(.b false), (.l 1 []), (.l 1 [])]⟩,
 ⟨some 5, none, .mv (.k (.i .i64 0))⟩])
 (.seq (.reg [⟨some 6, none, .fad 0 (.t 3)⟩,
 ⟨some 7, none, .ld true 2 (.t 6)⟩,
 ⟨some 8, none, .call 78 [(1, (.t 7))]⟩,
 ⟨some 9, none, .fad 0 (.t 3)⟩,
 ⟨none, none, .st 2 (.t 9) (.t 8)⟩])
 (.seq (.reg [⟨some 10, none, .ld true 3 (.t 2)⟩,
 ⟨some 11, none, .ld true 3 (.t 3)⟩,
 ⟨some 12, none, .call 40 [(1, (.t 10)), (1, (.t 11))]⟩,
 ⟨some 13, none, .ext (.t 12) 0⟩,
 ⟨some 14, none, .ext (.t 12) 1⟩,
 ⟨none, none, .st 3 (.t 4) (.t 13)⟩,
 ⟨some 5, none, .mv (.t 14)⟩])
 (.ret)))
theorem qsub_spec (s t : Bool) (a b d e : List Nat) (m : Nat) (hm : m ≤ 10000000) (ha : Wd a) (hb : Wd b) (hd : Wd d) (he : Wd e) (la : a.length ≤ m) (lb : b.length ≤ m) (ld : d.length ≤ m) (le : e.length ≤ m) :
    AFun Tryz.prog J0 41 [rL s a d, rL t b e] (.t [rv (zv s a * (nv B e : Int) - zv t b * (nv B d : Int)) (nv B d * nv B e), .i .i64 (re (nv B d * nv B e))]) := by
  have h1 := zneg_spec t b hb (by omega)
  have bb : (-(zv t b)).natAbs < B ^ m := by rw [Int.natAbs_neg]; exact zv_lt hb lb
  have h2 := qadd_spec s (decide (-(zv t b) < 0)) a (dg B (-(zv t b)).natAbs) d e m hm ha (Wd_dg _) hd he la (dlen bb) ld le
  have b1 : (zv s a * (nv B e : Int) - zv t b * (nv B d : Int)).natAbs < B ^ (m + m + 1) := by
    refine Nat.lt_of_le_of_lt (Int.natAbs_sub_le _ _) (padd ?_ ?_)
    · rw [Int.natAbs_mul, Nat.pow_add]; exact Nat.mul_lt_mul'' (zv_lt ha la) (nvlt he le)
    · rw [Int.natAbs_mul, Nat.pow_add]; exact Nat.mul_lt_mul'' (zv_lt hb lb) (nvlt hd ld)
  have b3 : nv B d * nv B e < B ^ (m + m + 1) := pup (by rw [Nat.pow_add]; exact Nat.mul_lt_mul'' (nvlt hd ld) (nvlt he le) : nv B d * nv B e < B ^ (m + m)) (by omega)
  rw [zv_N, Int.neg_mul, ← Int.sub_eq_add_neg] at h2
  obtain ⟨s', a', d', ev, _⟩ := RV_rv b1 b3
  rw [ev] at h2 ⊢
  generalize -(zv t b) = nb at *
  generalize re (nv B d * nv B e) = er at *
  refine AFun.mkc fol J0s Tryz.func41 rfl (ac := a41) (by kernel_rfl) (rs := [.c 4 true 3, .t 5]) (by kernel_rfl) rfl rfl ?_
  apply vm_start
  unfold a41
  simp only [init_eq, initE]
  exact wcQ @bz_Q11
-- surd/qq.Mul
def a43 : AC := .seq (.reg [⟨some 2, none, .bx 27 (.t 0)⟩,
 ⟨some 3, none, .bx 27 (.t 1)⟩,
 ⟨some 4, none, .al 27 [(.b false), (.l 1 []), (.l 1 [])]⟩,
 ⟨some 5, none, .mv (.k (.i .i64 0))⟩])
 (.seq (.seq (.reg [⟨some 7, none, .ld true 3 (.t 2)⟩,
 ⟨some 8, none, .ld true 3 (.t 3)⟩,
 ⟨some 9, none, .bsl 27 3 2 [(.b false), (.l 1 []), (.l 1 []), (.b false), (.l 1 []), (.l 1 [])] [(0, (.t 7)), (1, (.t 8))]⟩,
 ⟨some 10, none, .call 80 [(3, (.t 9))]⟩,
 ⟨some 6, none, .mv (.t 10)⟩])
 (.seq (.reg [⟨some 11, none, .mv (.t 6)⟩,
 ⟨some 12, none, .bin .neq (.t 11) (.k (.i .i64 0))⟩])
 (.cond (.t 12)
 (.seq (.reg [⟨some 13, none, .bld [(.b false), (.l 1 []), (.l 1 [])] []⟩,
 ⟨some 14, none, .mv (.t 6)⟩,
 ⟨none, none, .st 3 (.t 4) (.t 13)⟩,
 ⟨some 5, none, .mv (.t 14)⟩])
 (.ret))
 (.skip))))
 (.seq (.dreg [⟨some 15, none, .fad 0 (.t 2)⟩,
 ⟨some 16, none, .ld true 2 (.t 15)⟩,
 ⟨some 17, none, .fad 0 (.t 3)⟩,
 ⟨some 18, none, .ld true 2 (.t 17)⟩,
 ⟨some 19, none, .call 105 [(1, (.t 16)), (1, (.t 18))]⟩,
 ⟨some 20, none, .fad 2 (.t 2)⟩,
 ⟨some 21, none, .ld false 1 (.t 20)⟩,
 ⟨some 22, none, .fad 2 (.t 3)⟩,
 ⟨some 23, none, .ld false 1 (.t 22)⟩,
 ⟨some 24, none, .call 104 [(1, (.t 21)), (1, (.t 23))]⟩,
 ⟨some 25, none, .call 75 [(1, (.t 19)), (1, (.t 24))]⟩,
 ⟨none, none, .st 3 (.t 4) (.t 25)⟩,
 ⟨some 5, none, .mv (.k (.i .i64 0))⟩])
 (.ret)))
theorem qmul_spec (s t : Bool) (a b d e : List Nat) (m : Nat) (hm : m ≤ 10000000) (ha : Wd a) (hb : Wd b) (hd : Wd d) (he : Wd e) (la : a.length ≤ m) (lb : b.length ≤ m) (ld : d.length ≤ m) (le : e.length ≤ m) :
    AFun Tryz.prog J0 43 [rL s a d, rL t b e] (.t [rv (zv s a * zv t b) (nv B d * nv B e), .i .i64 (re (nv B d * nv B e))]) := by
  have h1 := qchecks2 s t a b d e hd he (by omega) (by omega)
  by_cases h : nv B d * nv B e = 0
  · rw [h, rv_0, re_0]
    rw [h, re_0] at h1
    refine AFun.mkc fol J0s Tryz.func43 rfl (ac := a43) (by kernel_rfl) (rs := [.c 4 true 3, .t 5]) (by kernel_rfl) rfl rfl ?_
    apply vm_start
    unfold a43
    simp only [init_eq, initE]
    exact wcQ @bz_Q11
  · rw [rv_p _ h, re_p h]
    rw [re_p h] at h1
    have h2 := zmul_spec s t a b ha hb (by omega) (by omega)
    have h5 := mul_spec d e hd he (by omega) (by omega)
    have b1 : (zv s a * zv t b).natAbs < B ^ (m + m) := by rw [Int.natAbs_mul, Nat.pow_add]; exact Nat.mul_lt_mul'' (zv_lt ha la) (zv_lt hb lb)
    have b3 : nv B d * nv B e < B ^ (m + m) := by rw [Nat.pow_add]; exact Nat.mul_lt_mul'' (nvlt hd ld) (nvlt he le)
    generalize zv s a * zv t b = x at *
    generalize nv B d * nv B e = w at *
    have h6 := qred_spec (decide (x < 0)) (dg B x.natAbs) (dg B w) (m + m) (by omega) (Wd_dg _) (Wd_dg _) (dlen b1) (dlen b3) (by rw [nv_dgB]; exact h)
    rw [zv_N, nv_dgB] at h6
    generalize rz x w = u at *
    generalize rden x w = v at *
    refine AFun.mkc fol J0s Tryz.func43 rfl (ac := a43) (by kernel_rfl) (rs := [.c 4 true 3, .t 5]) (by kernel_rfl) rfl rfl ?_
    apply vm_start
    unfold a43
    simp only [init_eq, initE]
    exact wcQ @bz_Q11
-- surd/qq.Quo
def a53 : AC := .seq (.reg [⟨some 2, none, .bx 27 (.t 0)⟩,
 ⟨some 3, none, .bx 27 (.t 1)⟩,
 ⟨some 4, none, .al 27 [(.b false), (.l 1 []), (.l 1 [])]⟩,
 ⟨some 5, none, .mv (.k (.i .i64 0))⟩])
 (.seq (.seq (.reg [⟨some 7, none, .ld true 3 (.t 2)⟩,
 ⟨some 8, none, .ld true 3 (.t 3)⟩,
 ⟨some 9, none, .bsl 27 3 2 [(.b false), (.l 1 []), (.l 1 []), (.b false), (.l 1 []), (.l 1 [])] [(0, (.t 7)), (1, (.t 8))]⟩,
 ⟨some 10, none, .call 80 [(3, (.t 9))]⟩,
 ⟨some 6, none, .mv (.t 10)⟩])
 (.seq (.reg [⟨some 11, none, .mv (.t 6)⟩,
 ⟨some 12, none, .bin .neq (.t 11) (.k (.i .i64 0))⟩])
 (.cond (.t 12)
 (.seq (.reg [⟨some 13, none, .bld [(.b false), (.l 1 []), (.l 1 [])] []⟩,
 ⟨some 14, none, .mv (.t 6)⟩,
 ⟨none, none, .st 3 (.t 4) (.t 13)⟩,
 ⟨some 5, none, .mv (.t 14)⟩])
 (.ret))
 (.skip))))
 (.seq (.dreg [⟨some 15, none, .fad 0 (.t 2)⟩,
 ⟨some 16, none, .ld true 2 (.t 15)⟩,
 ⟨some 17, none, .fad 2 (.t 3)⟩,
 ⟨some 18, none, .ld false 1 (.t 17)⟩,
 ⟨some 19, none, .call 82 [(1, (.t 16)), (1, (.t 18))]⟩,
 ⟨some 20, none, .fad 0 (.t 3)⟩,
 ⟨some 21, none, .ld true 2 (.t 20)⟩,
 ⟨some 22, none, .fad 2 (.t 2)⟩,
 ⟨some 23, none, .ld false 1 (.t 22)⟩,
 ⟨some 24, none, .call 82 [(1, (.t 21)), (1, (.t 23))]⟩,
 ⟨some 25, none, .call 28 [(1, (.t 19)), (1, (.t 24))]⟩,
 ⟨some 26, none, .ext (.t 25) 0⟩,
 ⟨some 27, none, .ext (.t 25) 1⟩,
 ⟨none, none, .st 3 (.t 4) (.t 26)⟩,
 ⟨some 5, none, .mv (.t 27)⟩])
 (.ret)))
theorem qquo_spec (s t : Bool) (a b d e : List Nat) (m : Nat) (hm : m ≤ 10000000) (ha : Wd a) (hb : Wd b) (hd : Wd d) (he : Wd e) (la : a.length ≤ m) (lb : b.length ≤ m) (ld : d.length ≤ m) (le : e.length ≤ m) (h : nv B d * nv B e ≠ 0) :
    AFun Tryz.prog J0 53 [rL s a d, rL t b e] (.t [rv (mz (zv s a * (nv B e : Int)) (zv t b * (nv B d : Int))) (zv t b * (nv B d : Int)).natAbs, .i .i64 (re (zv t b * (nv B d : Int)).natAbs)]) := by
  have h1 := qchecks2 s t a b d e hd he (by omega) (by omega)
  rw [re_p h] at h1
  have h2 := qtimes_spec s a e ha he (by omega) (by omega)
  have h3 := qtimes_spec t b d hb hd (by omega) (by omega)
  have b1 : (zv s a * (nv B e : Int)).natAbs < B ^ (m + m) := by rw [Int.natAbs_mul, Nat.pow_add]; exact Nat.mul_lt_mul'' (zv_lt ha la) (nvlt he le)
  have b2 : (zv t b * (nv B d : Int)).natAbs < B ^ (m + m) := by rw [Int.natAbs_mul, Nat.pow_add]; exact Nat.mul_lt_mul'' (zv_lt hb lb) (nvlt hd ld)
  generalize zv s a * (nv B e : Int) = x at *
  generalize zv t b * (nv B d : Int) = y at *
  have h4 := qmake_spec (decide (x < 0)) (decide (y < 0)) (dg B x.natAbs) (dg B y.natAbs) (m + m) (by omega) (Wd_dg _) (Wd_dg _) (dlen b1) (dlen b2)
  rw [zv_N, zv_N, nv_dgB] at h4
  obtain ⟨s', a', d', ev, _⟩ : RV (rv (mz x y) y.natAbs) (m + m) := RV_rv (by unfold mz; split; (rw [Int.natAbs_neg]; exact b1); exact b1) b2
  rw [ev] at h4 ⊢
  generalize re y.natAbs = er at *
  refine AFun.mkc fol J0s Tryz.func53 rfl (ac := a53) (by kernel_rfl) (rs := [.c 4 true 3, .t 5]) (by kernel_rfl) rfl rfl ?_
  apply vm_start
  unfold a53
  simp only [init_eq, initE]
  exact wcQ @bz_Q11
-- surd/qq.Neg
def a58 : AC := .seq (.reg [⟨some 1, none, .bx 27 (.t 0)⟩,
 ⟨some 2, none, .al 27 [(.b false), (.l 1 []), (.l 1 [])]⟩,
 ⟨some 3, none, .mv (.k (.i .i64 0))⟩])
 (.seq (.reg [⟨some 4, none, .fad 0 (.t 1)⟩,
 ⟨some 5, none, .ld true 2 (.t 4)⟩,
 ⟨some 6, none, .call 78 [(1, (.t 5))]⟩,
 ⟨some 7, none, .fad 0 (.t 1)⟩,
 ⟨none, none, .st 2 (.t 7) (.t 6)⟩])
 (.seq (.reg [⟨some 8, none, .ld true 3 (.t 1)⟩,
 ⟨some 9, none, .call 25 [(1, (.t 8))]⟩,
 ⟨some 10, none, .ext (.t 9) 0⟩,
 ⟨some 11, none, .ext (.t 9) 1⟩,
 ⟨none, none, .st 3 (.t 2) (.t 10)⟩,
 ⟨some 3, none, .mv (.t 11)⟩])
 (.ret)))
theorem qneg_spec (s : Bool) (a d : List Nat) (m : Nat) (hm : m ≤ 100000000) (ha : Wd a) (hd : Wd d) (la : a.length ≤ m) (ld : d.length ≤ m) : AFun Tryz.prog J0 58 [rL s a d] (.t [rv (-(zv s a)) (nv B d), .i .i64 (re (nv B d))]) := by
  have h1 := zneg_spec s a ha (by omega)
  have bb : (-(zv s a)).natAbs < B ^ m := by rw [Int.natAbs_neg]; exact zv_lt ha la
  have h2 := qnorm_spec (decide (-(zv s a) < 0)) (dg B (-(zv s a)).natAbs) d m hm (Wd_dg _) hd (dlen bb) ld
  rw [zv_N] at h2
  obtain ⟨s', a', d', ev, _⟩ := RV_rv bb (nvlt hd ld)
  rw [ev] at h2 ⊢
  generalize -(zv s a) = nb at *
  generalize re (nv B d) = er at *
  refine AFun.mkc fol J0s Tryz.func58 rfl (ac := a58) (by kernel_rfl) (rs := [.c 2 true 3, .t 3]) (by kernel_rfl) rfl rfl ?_
  apply vm_start
  unfold a58
  simp only [init_eq, initE]
  exact wcQ @bz_Q11
end Go.Proofs.YtlhadigkmlldeaaGreatDoor

/- Q12 -/
namespace Go.Proofs.YtlhadigkmlldeaaGreatDoor
open Go Go.RowKit Ab
set_option linter.unusedSimpArgs false
set_option linter.unusedVariables false
set_option maxHeartbeats 10000000
theorem bz_Q12 : type_of% (And.intro @W_len (And.intro @D_len (And.intro @Nat.div_one (And.intro @Nat.mul_one (And.intro @tn_nat (And.intro @W_nf (And.intro @D_nf (And.intro @W_nil (And.intro @D_nil (And.intro @wi (And.intro @nf_g (And.intro @Bool.false_and (@W_cell))))))))))))) := And.intro @W_len (And.intro @D_len (And.intro @Nat.div_one (And.intro @Nat.mul_one (And.intro @tn_nat (And.intro @W_nf (And.intro @D_nf (And.intro @W_nil (And.intro @D_nil (And.intro @wi (And.intro @nf_g (And.intro @Bool.false_and (@W_cell))))))))))))

-- surd/qq.Floor
def a20 : AC := .seq (.reg [⟨some 2, none, .bx 27 (.t 0)⟩,
 ⟨some 4, none, .al 25 [(.b false), (.l 1 [])]⟩,
 ⟨some 5, none, .mv (.k (.i .i64 0))⟩])
 (.seq (.seq (.reg [⟨some 9, none, .ld true 3 (.t 2)⟩,
 ⟨some 10, none, .call 22 [(1, (.t 9))]⟩,
 ⟨some 6, none, .mv (.t 10)⟩])
 (.seq (.reg [⟨some 11, none, .mv (.t 6)⟩,
 ⟨some 12, none, .bin .neq (.t 11) (.k (.i .i64 0))⟩])
 (.cond (.t 12)
 (.seq (.reg [⟨some 13, none, .bld [(.b false), (.l 1 [])] []⟩,
 ⟨some 14, none, .mv (.t 6)⟩,
 ⟨none, none, .st 2 (.t 4) (.t 13)⟩,
 ⟨some 5, none, .mv (.t 14)⟩])
 (.ret))
 (.skip))))
 (.seq (.seq (.reg [⟨some 15, none, .mv (.t 1)⟩,
 ⟨some 16, none, .bin .lss (.t 15) (.k (.i .i64 (-1048576)))⟩,
 ⟨some 17, none, .mv (.t 16)⟩,
 ⟨some 18, some (17, false), .mv (.t 1)⟩,
 ⟨some 19, some (17, false), .bin .gtr (.t 18) (.k (.i .i64 1048576))⟩,
 ⟨some 20, none, .pick (.t 17) (.k (.b true)) (.t 19)⟩])
 (.cond (.t 20)
 (.seq (.reg [⟨some 21, none, .bld [(.b false), (.l 1 [])] []⟩,
 ⟨none, none, .st 2 (.t 4) (.t 21)⟩,
 ⟨some 5, none, .mv (.k (.i .i64 3))⟩])
 (.ret))
 (.skip)))
 (.seq (.dreg [⟨some 22, none, .fad 0 (.t 2)⟩,
 ⟨some 23, none, .ld true 2 (.t 22)⟩,
 ⟨some 24, none, .fad 2 (.t 2)⟩,
 ⟨some 25, none, .ld false 1 (.t 24)⟩,
 ⟨some 26, none, .call 89 [(1, (.k (.b false))), (1, (.t 25))]⟩,
 ⟨some 7, none, .al 25 [(.b false), (.l 1 [])]⟩,
 ⟨some 8, none, .al 25 [(.b false), (.l 1 [])]⟩,
 ⟨none, none, .st 2 (.t 7) (.t 23)⟩,
 ⟨none, none, .st 2 (.t 8) (.t 26)⟩])
 (.seq (.seq (.reg [⟨some 27, none, .mv (.t 1)⟩,
 ⟨some 28, none, .bin .lss (.t 27) (.k (.i .i64 0))⟩])
 (.cond (.t 28)
 (.reg [⟨some 30, none, .ld true 2 (.t 8)⟩,
 ⟨some 31, none, .mv (.t 1)⟩,
 ⟨some 32, none, .un .neg (.t 31)⟩,
 ⟨some 33, none, .call 90 [(1, (.t 30)), (1, (.t 32))]⟩,
 ⟨some 29, none, .mv (.t 33)⟩,
 ⟨some 34, none, .ext (.t 29) 0⟩,
 ⟨some 35, none, .ext (.t 29) 1⟩,
 ⟨none, none, .st 2 (.t 8) (.t 34)⟩])
 (.reg [⟨some 37, none, .ld true 2 (.t 7)⟩,
 ⟨some 38, none, .mv (.t 1)⟩,
 ⟨some 39, none, .call 90 [(1, (.t 37)), (1, (.t 38))]⟩,
 ⟨some 36, none, .mv (.t 39)⟩,
 ⟨some 40, none, .ext (.t 36) 0⟩,
 ⟨some 41, none, .ext (.t 36) 1⟩,
 ⟨none, none, .st 2 (.t 7) (.t 40)⟩])))
 (.seq (.reg [⟨some 42, none, .ld true 2 (.t 7)⟩,
 ⟨some 43, none, .ld true 2 (.t 8)⟩,
 ⟨some 44, none, .call 91 [(1, (.t 42)), (1, (.t 43))]⟩,
 ⟨some 45, none, .ext (.t 44) 0⟩,
 ⟨some 46, none, .ext (.t 44) 1⟩,
 ⟨none, none, .st 2 (.t 4) (.t 45)⟩,
 ⟨some 5, none, .mv (.t 46)⟩])
 (.ret))))))
theorem qfloor_up (s : Bool) (a d : List Nat) (k m : Nat) (hk : k ≤ 1048576) (hm : m ≤ 10000000) (hm1 : 16384 ≤ m) (ha : Wd a) (hd : Wd d) (la : a.length ≤ m) (ld : d.length ≤ m) (h0 : nv B d ≠ 0) : AFun Tryz.prog J0 20 [rL s a d, .i .i64 (k : Int)] (.t [zN ((zv s a * 2 ^ k).fdiv (nv B d : Int)), .i .i64 0]) := by
  have h1 := qcheck_spec s a d hd (by omega)
  rw [if_neg h0] at h1
  have h2 := znat_spec false d hd (by omega)
  rw [zv_f] at h2
  have h3 := zshl_spec s a (k : Int) ha (by omega)
  rw [show zlV (zv s a) (k : Int) = zv s a * 2 ^ k from if_neg (by omega), show zlE (k : Int) = 0 from if_neg (by omega)] at h3
  have hb : (zv s a * 2 ^ k).natAbs < B ^ (m + 16384) := by
    rw [Int.natAbs_mul, Int.natAbs_pow]
    exact shl_len (zv_lt ha la) hk
  generalize zv s a * 2 ^ k = z at *
  have h4 := zfloor_spec (decide (z < 0)) (decide ((nv B d : Int) < 0)) (dg B z.natAbs) (dg B ((nv B d : Int)).natAbs) (Wd_dg _) (Wd_dg _) (Nat.le_trans (dlen hb) (by omega)) (Nat.le_trans (dlen (nvlt hd ld)) (by omega))
  rw [zv_N, zv_N, show ze (nv B d : Int) = 0 from if_neg (by omega)] at h4
  have k1 : ¬ (k : Int) < -1048576 := by omega
  have k2 : ¬ (1048576 : Int) < (k : Int) := by omega
  have k3 : ¬ (k : Int) < 0 := by omega
  generalize z.fdiv (nv B d : Int) = q at *
  generalize (nv B d : Int) = dd at *
  refine AFun.mkc fol J0s Tryz.func20 rfl (ac := a20) (by kernel_rfl) (rs := [.c 4 true 2, .t 5]) (by kernel_rfl) rfl rfl ?_
  apply vm_start
  unfold a20
  simp only [init_eq, initE]
  exact wcQ (ai @k3 (ai @k2 (ai @k1 @bz_Q12)))
-- surd/qq.Ceil
def a17 : AC := .seq (.reg [⟨some 2, none, .bx 27 (.t 0)⟩,
 ⟨some 4, none, .al 25 [(.b false), (.l 1 [])]⟩,
 ⟨some 5, none, .mv (.k (.i .i64 0))⟩])
 (.seq (.reg [⟨some 8, none, .fad 0 (.t 2)⟩,
 ⟨some 9, none, .ld true 2 (.t 8)⟩,
 ⟨some 10, none, .call 78 [(1, (.t 9))]⟩,
 ⟨some 11, none, .fad 0 (.t 2)⟩,
 ⟨none, none, .st 2 (.t 11) (.t 10)⟩])
 (.seq (.reg [⟨some 13, none, .ld true 3 (.t 2)⟩,
 ⟨some 14, none, .mv (.t 1)⟩,
 ⟨some 15, none, .call 20 [(1, (.t 13)), (1, (.t 14))]⟩,
 ⟨some 12, none, .mv (.t 15)⟩,
 ⟨some 16, none, .ext (.t 12) 0⟩,
 ⟨some 17, none, .ext (.t 12) 1⟩,
 ⟨some 6, none, .al 25 [(.b false), (.l 1 [])]⟩,
 ⟨none, none, .st 2 (.t 6) (.t 16)⟩,
 ⟨some 7, none, .mv (.t 17)⟩])
 (.seq (.seq (.reg [⟨some 18, none, .mv (.t 7)⟩,
 ⟨some 19, none, .bin .neq (.t 18) (.k (.i .i64 0))⟩])
 (.cond (.t 19)
 (.seq (.reg [⟨some 20, none, .bld [(.b false), (.l 1 [])] []⟩,
 ⟨some 21, none, .mv (.t 7)⟩,
 ⟨none, none, .st 2 (.t 4) (.t 20)⟩,
 ⟨some 5, none, .mv (.t 21)⟩])
 (.ret))
 (.skip)))
 (.seq (.reg [⟨some 22, none, .ld true 2 (.t 6)⟩,
 ⟨some 23, none, .call 78 [(1, (.t 22))]⟩,
 ⟨none, none, .st 2 (.t 4) (.t 23)⟩,
 ⟨some 5, none, .mv (.k (.i .i64 0))⟩])
 (.ret)))))
theorem qceil_up (s : Bool) (a d : List Nat) (k m : Nat) (hk : k ≤ 1048576) (hm : m ≤ 10000000) (hm1 : 16384 ≤ m) (ha : Wd a) (hd : Wd d) (la : a.length ≤ m) (ld : d.length ≤ m) (h0 : nv B d ≠ 0) : AFun Tryz.prog J0 17 [rL s a d, .i .i64 (k : Int)] (.t [zN (-((-(zv s a) * 2 ^ k).fdiv (nv B d : Int))), .i .i64 0]) := by
  have h1 := zneg_spec s a ha (by omega)
  have bb : (-(zv s a)).natAbs < B ^ m := by rw [Int.natAbs_neg]; exact zv_lt ha la
  have h2 := qfloor_up (decide (-(zv s a) < 0)) (dg B (-(zv s a)).natAbs) d k m hk hm hm1 (Wd_dg _) hd (dlen bb) ld h0
  rw [zv_N] at h2
  have hq : ((-(zv s a) * 2 ^ k).fdiv (nv B d : Int)).natAbs < B ^ (m + 16384 + 1) := by
    have hb : (-(zv s a) * 2 ^ k).natAbs < B ^ (m + 16384) := by
      rw [Int.natAbs_mul, Int.natAbs_pow]
      exact shl_len bb hk
    generalize -(zv s a) * 2 ^ k = z at *
    have hd0 : (0 : Int) < (nv B d : Int) := by omega
    have e1 := Int.fdiv_eq_ediv_of_nonneg z (Int.le_of_lt hd0)
    rw [e1]
    exact Nat.lt_of_le_of_lt (Int.natAbs_ediv_le_natAbs z _) (pup hb (by omega))
  generalize (-(zv s a) * 2 ^ k).fdiv (nv B d : Int) = q at *
  have h3 := zneg_spec (decide (q < 0)) (dg B q.natAbs) (Wd_dg _) (Nat.le_trans (dlen hq) (by omega))
  rw [zv_N] at h3
  generalize -(zv s a) = nb at *
  refine AFun.mkc fol J0s Tryz.func17 rfl (ac := a17) (by kernel_rfl) (rs := [.c 4 true 2, .t 5]) (by kernel_rfl) rfl rfl ?_
  apply vm_start
  unfold a17
  simp only [init_eq, initE]
  exact wcQ @bz_Q12
end Go.Proofs.YtlhadigkmlldeaaGreatDoor

/- Q13 -/
namespace Go.Proofs.YtlhadigkmlldeaaGreatDoor
open Go Go.RowKit Ab
set_option linter.unusedSimpArgs false
set_option linter.unusedVariables false
set_option maxHeartbeats 10000000
theorem bz_Q13 : type_of% (And.intro @W_len (And.intro @D_len (And.intro @Nat.div_one (And.intro @Nat.mul_one (And.intro @tn_nat (And.intro @W_nf (And.intro @D_nf (And.intro @W_nil (And.intro @D_nil (And.intro @wi (And.intro @nf_g (And.intro @Bool.false_and (@W_cell))))))))))))) := And.intro @W_len (And.intro @D_len (And.intro @Nat.div_one (And.intro @Nat.mul_one (And.intro @tn_nat (And.intro @W_nf (And.intro @D_nf (And.intro @W_nil (And.intro @D_nil (And.intro @wi (And.intro @nf_g (And.intro @Bool.false_and (@W_cell))))))))))))

theorem fx_of : AFun Tryz.prog J0 31 [.i .i64 (-6), .i .i64 (-4)] (.t [.g [.b false, .l 1 (W (dg B 3)), .l 1 (W (dg B 2))], .i .i64 0]) := by
  have h := qof_spec (-6) (-4) (by decide) (by decide) (by decide) (by decide)
  rw [rv_p _ (by decide), re_p (by decide), show mz (-6) (-4) = 6 from rfl, show rz 6 (-4 : Int).natAbs = 3 from by decide +kernel, show rden 6 (-4 : Int).natAbs = 2 from by decide +kernel] at h
  exact h
theorem fx_add : AFun Tryz.prog J0 40 [.g [.b false, .l 1 (W (dg B 3)), .l 1 (W (dg B 2))], .g [.b false, .l 1 [], .l 1 []]] (.t [.g [.b false, .l 1 [], .l 1 []], .i .i64 1]) := by
  have h := qadd_spec false false (dg B 3) [] (dg B 2) [] 1 (by decide) (Wd_dg _) Wd_nil (Wd_dg _) Wd_nil (dlen (by decide)) (by decide) (dlen (by decide)) (by decide)
  rw [show nv B [] = 0 from rfl, Nat.mul_zero, rv_0, re_0] at h
  exact h
theorem fx_p27 : AFun Tryz.prog J0 19 [.i .i64 2, .i .i64 7] (.g [.b false, .l 1 (W (dg B 2)), .l 1 (W (dg B 7))]) := by
  have h := rP_spec 2 7 (by decide) (by decide) (by decide) (by decide)
  rw [show rz 2 7 = 2 from by decide +kernel, show rden 2 7 = 7 from by decide +kernel] at h
  exact h
theorem fx_p38 : AFun Tryz.prog J0 19 [.i .i64 3, .i .i64 8] (.g [.b false, .l 1 (W (dg B 3)), .l 1 (W (dg B 8))]) := by
  have h := rP_spec 3 8 (by decide) (by decide) (by decide) (by decide)
  rw [show rz 3 8 = 3 from by decide +kernel, show rden 3 8 = 8 from by decide +kernel] at h
  exact h
theorem fx_p13 : AFun Tryz.prog J0 19 [.i .i64 1, .i .i64 3] (.g [.b false, .l 1 (W (dg B 1)), .l 1 (W (dg B 3))]) := by
  have h := rP_spec 1 3 (by decide) (by decide) (by decide) (by decide)
  rw [show rz 1 3 = 1 from by decide +kernel, show rden 1 3 = 3 from by decide +kernel] at h
  exact h
end Go.Proofs.YtlhadigkmlldeaaGreatDoor
