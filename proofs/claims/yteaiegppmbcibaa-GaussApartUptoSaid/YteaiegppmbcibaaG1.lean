/-
  zpoly.Norm; gauss: sizes, sums, products.
-/
import Derived.Test.YteaiegppmbcibaaGM
import Derived.Test.YteaiegppmbcibaaFB
import Derived.Test.YteaiegppmbcibaaZC
namespace Go.Proofs.Yteaiegppmbcibaa
open Go Go.RowKit Ab
set_option linter.unusedSimpArgs false
set_option linter.unusedVariables false
set_option maxHeartbeats 10000000
theorem bz_G1 : type_of% (And.intro @W_len (And.intro @D_len (And.intro @Nat.div_one (And.intro @Nat.mul_one (And.intro @tn_nat (And.intro @W_nf (And.intro @D_nf (And.intro @W_nil (And.intro @D_nil (And.intro @wi (And.intro @nf_g (And.intro @Bool.false_and (And.intro @W_cell (And.intro @ZC_cell (@ZC_nil))))))))))))))) := And.intro @W_len (And.intro @D_len (And.intro @Nat.div_one (And.intro @Nat.mul_one (And.intro @tn_nat (And.intro @W_nf (And.intro @D_nf (And.intro @W_nil (And.intro @D_nil (And.intro @wi (And.intro @nf_g (And.intro @Bool.false_and (And.intro @W_cell (And.intro @ZC_cell (@ZC_nil))))))))))))))
abbrev nV (z : GZ) : V := .g [.i .i64 z.1, .i .i64 z.2]
def gabs (n : Int) : Nat := min n.natAbs SM
theorem gabs_lt {n : Int} (h : n.natAbs < SM) : gabs n = n.natAbs := Nat.min_eq_left (Nat.le_of_lt h)
theorem gabs_ge {n : Int} (h : ¬ n.natAbs < SM) : gabs n = SM := Nat.min_eq_right (Nat.le_of_not_lt h)
theorem gabs_le (n : Int) : gabs n ≤ SM := Nat.min_le_right _ _
theorem max_abs (n : Int) : max n (0 - n) = (n.natAbs : Int) := by rw [Int.max_def]; split <;> omega
def Pi (n : Int) : Prop := -9223372036854775808 ≤ n ∧ n < 9223372036854775808
def a36 : AC := .seq (.reg [qr 2 (.mv (.k (.i .i64 0)))])
 (.seq (.seq (.reg [qm 3 0,
 qr 4 (.bin .leq (.t 3) (.k (.i .i64 (-1125899906842624)))),
 qm 5 4,
 ⟨some 6, some (5, false), .mv (.t 0)⟩,
 ⟨some 7, some (5, false), .bin .geq (.t 6) (.k (.i .i64 1125899906842624))⟩,
 qr 8 (.pick (.t 5) (.k (.b true)) (.t 7))])
 (.cond (.t 8)
 (.seq (.reg [qr 2 (.mv (.k (.i .i64 1125899906842624)))])
 (.ret))
 (.skip)))
 (.seq (.reg [qm 9 0,
 qm 10 0,
 qr 11 (.un .neg (.t 10)),
 qr 12 (.mm true (.t 9) (.t 11)),
 qm 2 12])
 (.ret)))
theorem gabs_spec (n : Int) : AFun Try.prog J0 36 [.i .i64 n] (.i .i64 ((gabs n : Nat) : Int)) := by
  have hm := max_abs n
  by_cases h : n.natAbs < SM
  · rw [gabs_lt h]
    simp only [SM] at h
    have h1 : ¬ n ≤ -1125899906842624 := by omega
    have h2 : ¬ 1125899906842624 ≤ n := by omega
    have h3 : IntKind.i64.wrap (0 - n) = 0 - n := wi (by omega)
    refine mkQ fol J0s Try.func36 a36 ?_
    unfold a36
    simp only [init_eq, initE, qm, qr, qn]
    refine spQ (ai @hm (ai @h3 (ai @h2 (ai @h1 @bz_G1)))) ?_
    exact rtQ @bz_G1
  · rw [gabs_ge h]
    simp only [SM] at h
    by_cases h1 : n ≤ -1125899906842624
    · refine mkQ fol J0s Try.func36 a36 ?_
      unfold a36
      simp only [init_eq, initE, qm, qr, qn]
      refine spQ (ai @h1 @bz_G1) ?_
      exact rtQ @bz_G1
    · have h2 : 1125899906842624 ≤ n := by omega
      refine mkQ fol J0s Try.func36 a36 ?_
      unfold a36
      simp only [init_eq, initE, qm, qr, qn]
      refine spQ (ai @h2 (ai @h1 @bz_G1)) ?_
      exact rtQ @bz_G1
def szV (z : GZ) : Int := if gsz z < SM then ((gsz z : Nat) : Int) else 0
def szE (z : GZ) : Int := if gsz z < SM then 0 else 13
def a19 : AC := .seq (.reg [qr 1 (.bx 38 (.t 0)),
 qr 2 (.mv (.k (.i .i64 0))),
 qr 3 (.mv (.k (.i .i64 0)))])
 (.seq (.seq (.dreg [qr 5 (.fad 0 (.t 1)),
 qr 6 (.ld false 1 (.t 5)),
 qr 7 (.call 36 [(1, (.t 6))]),
 qr 8 (.fad 1 (.t 1)),
 qr 9 (.ld false 1 (.t 8)),
 qr 10 (.call 36 [(1, (.t 9))]),
 qr 11 (.bin .add (.t 7) (.t 10)),
 qm 4 11])
 (.seq (.reg [qm 12 4,
 qr 13 (.bin .lss (.t 12) (.k (.i .i64 1125899906842624)))])
 (.cond (.t 13)
 (.seq (.reg [qm 14 4,
 qm 2 14,
 qr 3 (.mv (.k (.i .i64 0)))])
 (.ret))
 (.skip))))
 (.seq (.reg [qr 2 (.mv (.k (.i .i64 0))),
 qr 3 (.mv (.k (.i .i64 13)))])
 (.ret)))
theorem gsize_spec (z : GZ) : AFun Try.prog J0 19 [nV z] (.t [.i .i64 (szV z), .i .i64 (szE z)]) := by
  have h1 := gabs_spec z.1
  have h2 := gabs_spec z.2
  have b1 := gabs_le z.1
  have b2 := gabs_le z.2
  simp only [SM] at b1 b2
  have w1 : IntKind.i64.wrap (((gabs z.1 : Nat) : Int) + ((gabs z.2 : Nat) : Int)) = ((gabs z.1 + gabs z.2 : Nat) : Int) := by rw [wi (by omega)]; rfl
  by_cases h : gsz z < SM
  · rw [show szV z = ((gsz z : Nat) : Int) from if_pos h, show szE z = 0 from if_pos h]
    have e : gabs z.1 + gabs z.2 = gsz z := by unfold gsz at h ⊢; rw [gabs_lt (by omega), gabs_lt (by omega)]
    rw [e] at w1
    simp only [SM] at h
    have h3 : ((gsz z : Nat) : Int) < 1125899906842624 := by omega
    generalize gsz z = s at *
    clear h b1 b2 e
    replace h3 := eq_true h3
    refine mkQ fol J0s Try.func19 a19 ?_
    unfold a19
    simp only [init_eq, initE, qm, qr, qn]
    refine wkQ (ai @h3 (ai @w1 @bz_G1)) ?_
    exact rtQ @bz_G1
  · rw [show szV z = 0 from if_neg h, show szE z = 13 from if_neg h]
    have e : ¬ ((gabs z.1 + gabs z.2 : Nat) : Int) < 1125899906842624 := by
      unfold gsz at h; unfold gabs; simp only [SM] at h ⊢; omega
    generalize gabs z.1 + gabs z.2 = s at *
    replace e := eq_false e
    refine mkQ fol J0s Try.func19 a19 ?_
    unfold a19
    simp only [init_eq, initE, qm, qr, qn]
    refine wkQ (ai @e (ai @w1 @bz_G1)) ?_
    exact rtQ @bz_G1
def a37 : AC := .seq (.reg [qr 4 (.mv (.k (.b false)))])
 (.seq (.reg [qm 5 1,
 qr 6 (.bin .eql (.t 5) (.k (.i .i64 0))),
 qm 7 6,
 ⟨some 8, some (7, false), .mv (.t 0)⟩,
 ⟨some 9, some (7, false), .mv (.t 1)⟩,
 ⟨some 10, some (7, false), .bin .quo (.k (.i .i64 1125899906842623)) (.t 9)⟩,
 ⟨some 11, some (7, false), .bin .leq (.t 8) (.t 10)⟩,
 qr 12 (.pick (.t 7) (.k (.b true)) (.t 11)),
 qm 4 12])
 (.ret))
theorem gfits_spec (a b : Nat) (hb : b ≤ SM) : AFun Try.prog J0 37 [.i .i64 (a : Int), .i .i64 (b : Int)] (.b (decide (a * b < SM))) := by
  simp only [SM] at hb
  rcases Nat.eq_zero_or_pos b with h | h
  · subst h
    rw [decide_eq_true (by simp)]
    refine mkQ fol J0s Try.func37 a37 ?_
    unfold a37
    simp only [init_eq, initE, qm, qr, qn]
    refine spQ @bz_G1 ?_
    exact rtQ @bz_G1
  · have h0 : ¬ (b : Int) = 0 := by omega
    have e1 : (1125899906842623 : Int).tdiv (b : Int) = ((1125899906842623 / b : Nat) : Int) := rfl
    have e2 : 1125899906842623 / b ≤ 1125899906842623 := Nat.div_le_self _ _
    have e4 := Nat.le_div_iff_mul_le (x := a) (y := 1125899906842623) h
    obtain ⟨q, hq⟩ : ∃ q, q = 1125899906842623 / b := ⟨_, rfl⟩
    rw [← hq] at e1 e2 e4
    have w1 : IntKind.i64.wrap (q : Int) = (q : Int) := wi (by omega)
    have e3 : ((a : Int) ≤ (q : Int)) = (a * b < SM) := by
      refine propext ⟨fun h1 => ?_, fun h1 => ?_⟩
      · have := e4.1 (by omega)
        simp only [SM]; omega
      · simp only [SM] at h1
        have := e4.2 (by omega)
        omega
    refine mkQ fol J0s Try.func37 a37 ?_
    unfold a37
    simp only [init_eq, initE, qm, qr, qn]
    refine spQ (ai @e3 (ai @w1 (ai @e1 (ai @h0 @bz_G1)))) ?_
    exact rtQ @bz_G1
def a20 : AC := .seq (.reg [qr 1 (.bx 38 (.t 0)),
 qr 2 (.mv (.k (.z 0 0)))])
 (.seq (.reg [qr 3 (.fad 0 (.t 1)),
 qr 4 (.ld false 1 (.t 3)),
 qr 5 (.pur (.nm .i2f) [(.t 4)]),
 qr 6 (.fad 1 (.t 1)),
 qr 7 (.ld false 1 (.t 6)),
 qr 8 (.pur (.nm .i2f) [(.t 7)]),
 qr 9 (.pur (.nm .mkz) [(.t 5), (.t 8)]),
 qm 2 9])
 (.ret))
theorem inside_spec (z : GZ) (h : gsz z < SM) : AFun Try.prog J0 20 [nV z] (.z z.1 z.2) := by
  obtain ⟨a, b⟩ := z
  unfold gsz at h; simp only [SM, nV] at h ⊢
  have h1 : a.natAbs < 9007199254740992 := by omega
  have h2 : b.natAbs < 9007199254740992 := by omega
  refine mkQ fol J0s Try.func20 a20 ?_
  unfold a20
  simp only [init_eq, initE, qm, qr, qn]
  refine spQ (ai @h2 (ai @h1 @bz_G1)) ?_
  exact rtQ @bz_G1
def a21 : AC := .seq (.reg [qr 2 (.al 38 [(.i .i64 0), (.i .i64 0)])])
 (.seq (.reg [qm 3 0,
 qr 4 (.pur (.nm .re) [(.t 3)]),
 qr 5 (.pur (.nm (.f2i .i64)) [(.t 4)]),
 qm 6 0,
 qr 7 (.pur (.nm .im) [(.t 6)]),
 qr 8 (.pur (.nm (.f2i .i64)) [(.t 7)]),
 qr 9 (.bld [(.i .i64 0), (.i .i64 0)] [(0, 1, (.t 5)), (1, 1, (.t 8))]),
 qn (.st 2 (.t 2) (.t 9))])
 (.ret))
theorem outside_spec (z : GZ) (h : gsz z < SM) : AFun Try.prog J0 21 [.z z.1 z.2] (nV z) := by
  obtain ⟨a, b⟩ := z
  unfold gsz at h; simp only [SM, nV] at h ⊢
  have h1 : -9223372036854775808 ≤ a ∧ a ≤ 9223372036854775807 := by omega
  have h2 : -9223372036854775808 ≤ b ∧ b ≤ 9223372036854775807 := by omega
  refine mkcQ fol J0s Try.func21 a21 [.c 2 true 2] ?_
  unfold a21
  simp only [init_eq, initE, qm, qr, qn]
  refine spQ (ai @h2 (ai @h1 @bz_G1)) ?_
  exact rcQ @bz_G1
end Go.Proofs.Yteaiegppmbcibaa
