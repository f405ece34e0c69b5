/-
  The texts Q16, Q17, Q18, Q19.
-/
import Derived.Test.YtlhadigkmlldeaaGreatDoorQD
/- Q16 -/
namespace Go.Proofs.YtlhadigkmlldeaaGreatDoor
open Go Go.RowKit Ab
set_option linter.unusedSimpArgs false
set_option linter.unusedVariables false
set_option maxHeartbeats 10000000
theorem bz_Q16 : type_of% (And.intro @W_len (And.intro @D_len (And.intro @Nat.div_one (And.intro @Nat.mul_one (And.intro @tn_nat (And.intro @W_nf (And.intro @D_nf (And.intro @W_nil (And.intro @D_nil (And.intro @wi (And.intro @nf_g (And.intro @Bool.false_and (@W_cell))))))))))))) := And.intro @W_len (And.intro @D_len (And.intro @Nat.div_one (And.intro @Nat.mul_one (And.intro @tn_nat (And.intro @W_nf (And.intro @D_nf (And.intro @W_nil (And.intro @D_nil (And.intro @wi (And.intro @nf_g (And.intro @Bool.false_and (@W_cell))))))))))))

theorem mul_lt {x y : Int} {m : Nat} (hx : x.natAbs < B ^ m) (hy : y.natAbs < B ^ m) : (x * y).natAbs < B ^ (m + m) := by
  rw [Int.natAbs_mul, Nat.pow_add]; exact Nat.mul_lt_mul'' hx hy
theorem mulN_lt {x y m : Nat} (hx : x < B ^ m) (hy : y < B ^ m) : x * y < B ^ (m + m) := by
  rw [Nat.pow_add]; exact Nat.mul_lt_mul'' hx hy
-- surd/surdref08.Times
def a18 : AC := .seq (.reg [qr 2 (.bx 27 (.t 0)),
 qr 3 (.bx 27 (.t 1)),
 qr 4 (.al 27 [(.b false), (.l 1 []), (.l 1 [])])])
 (.seq (.dreg [qr 5 (.fad 0 (.t 2)),
 qr 6 (.ld true 2 (.t 5)),
 qr 7 (.fad 0 (.t 3)),
 qr 8 (.ld true 2 (.t 7)),
 qr 9 (.call 87 [(1, (.t 6)), (1, (.t 8))]),
 qr 10 (.fad 2 (.t 2)),
 qr 11 (.ld false 1 (.t 10)),
 qr 12 (.fad 2 (.t 3)),
 qr 13 (.ld false 1 (.t 12)),
 qr 14 (.call 88 [(1, (.t 11)), (1, (.t 13))]),
 qr 15 (.call 83 [(1, (.t 9)), (1, (.t 14))]),
 qn (.st 3 (.t 4) (.t 15))])
 (.ret))
theorem rTimes_spec (s t : Bool) (a b d e : List Nat) (m : Nat) (hm : m ≤ 10000000) (ha : Wd a) (hb : Wd b) (hd : Wd d) (he : Wd e) (la : a.length ≤ m) (lb : b.length ≤ m) (ld : d.length ≤ m) (le : e.length ≤ m) (h : nv B d * nv B e ≠ 0) :
    AFun Tryz.prog J0 18 [rL s a d, rL t b e] (rN (rz (zv s a * zv t b) (nv B d * nv B e)) (rden (zv s a * zv t b) (nv B d * nv B e))) := by
  have m1 := hzmul_spec s t a b m (by omega) ha hb la lb
  have t1 := (hmul_spec d e hd he (by omega) (by omega)).frozen
  have b1 := mul_lt (zv_lt (s := s) ha la) (zv_lt (s := t) hb lb)
  have b3 := mulN_lt (nvlt hd ld) (nvlt he le)
  generalize zv s a * zv t b = x at *
  generalize nv B d * nv B e = w at *
  have r1 := rR_spec (decide (x < 0)) (dg B x.natAbs) (dg B w) (m + m) (by omega) (Wd_dg _) (Wd_dg _) (dlen b1) (dlen b3) (by rw [nv_dgB]; exact h)
  rw [zv_N, nv_dgB] at r1
  generalize rz x w = u at *
  generalize rden x w = v at *
  refine mkcQ fol J0s Tryz.func18 a18 [.c 4 true 3] ?_
  unfold a18
  simp only [init_eq, initE, qm, qr, qn]
  exact wcQ @bz_Q16
theorem zv_mz (x : Int) (t : Bool) (b d e : List Nat) (hb : nv B b ≠ 0) (hd : nv B d ≠ 0) : x * zv t e = mz (x * (nv B e : Int)) (zv t b * (nv B d : Int)) := by
  have hp := Nat.mul_pos (Nat.pos_of_ne_zero hb) (Nat.pos_of_ne_zero hd)
  unfold mz zv zI
  cases t
  · simp only [Bool.false_eq_true, if_false]
    rw [← Int.natCast_mul, if_neg (by omega)]
  · simp only [if_true]
    rw [Int.neg_mul, ← Int.natCast_mul, if_pos (by omega), Int.mul_neg]
-- surd/surdref08.Over
def a116 : AC := .seq (.reg [qr 2 (.bx 27 (.t 0)),
 qr 3 (.bx 27 (.t 1)),
 qr 4 (.al 27 [(.b false), (.l 1 []), (.l 1 [])])])
 (.seq (.dreg [qr 5 (.fad 0 (.t 2)),
 qr 6 (.ld true 2 (.t 5)),
 qr 7 (.fad 0 (.t 3)),
 qr 8 (.fad 0 (.t 7)),
 qr 9 (.ld false 1 (.t 8)),
 qr 10 (.fad 2 (.t 3)),
 qr 11 (.ld false 1 (.t 10)),
 qr 12 (.call 95 [(1, (.t 9)), (1, (.t 11))]),
 qr 13 (.call 87 [(1, (.t 6)), (1, (.t 12))]),
 qr 14 (.fad 2 (.t 2)),
 qr 15 (.ld false 1 (.t 14)),
 qr 16 (.fad 0 (.t 3)),
 qr 17 (.fad 1 (.t 16)),
 qr 18 (.ld false 1 (.t 17)),
 qr 19 (.call 88 [(1, (.t 15)), (1, (.t 18))]),
 qr 20 (.call 83 [(1, (.t 13)), (1, (.t 19))]),
 qn (.st 3 (.t 4) (.t 20))])
 (.ret))
theorem rOver_spec (s t : Bool) (a b d e : List Nat) (m : Nat) (hm : m ≤ 10000000) (ha : Wd a) (hb : Wd b) (hd : Wd d) (he : Wd e) (la : a.length ≤ m) (lb : b.length ≤ m) (ld : d.length ≤ m) (le : e.length ≤ m) (hd0 : nv B d ≠ 0) (hb0 : nv B b ≠ 0) :
    AFun Tryz.prog J0 116 [rL s a d, rL t b e] (rN (rz (zv s a * zv t e) (nv B d * nv B b)) (rden (zv s a * zv t e) (nv B d * nv B b))) := by
  have i1 := hI_spec t e he (by omega)
  have be := zv_lt (s := t) he le
  have m1 := hzmul_spec s (decide (zv t e < 0)) a (dg B (zv t e).natAbs) m (by omega) ha (Wd_dg _) la (dlen be)
  rw [zv_N] at m1
  have t1 := (hmul_spec d b hd hb (by omega) (by omega)).frozen
  have b1 := mul_lt (zv_lt (s := s) ha la) be
  have b3 := mulN_lt (nvlt hd ld) (nvlt hb lb)
  have h : nv B d * nv B b ≠ 0 := Nat.mul_ne_zero hd0 hb0
  generalize zv s a * zv t e = x at *
  generalize zv t e = y at *
  generalize nv B d * nv B b = w at *
  have r1 := rR_spec (decide (x < 0)) (dg B x.natAbs) (dg B w) (m + m) (by omega) (Wd_dg _) (Wd_dg _) (dlen b1) (dlen b3) (by rw [nv_dgB]; exact h)
  rw [zv_N, nv_dgB] at r1
  generalize rz x w = u at *
  generalize rden x w = v at *
  refine mkcQ fol J0s Tryz.func116 a116 [.c 4 true 3] ?_
  unfold a116
  simp only [init_eq, initE, qm, qr, qn]
  exact wcQ @bz_Q16
-- surd/surdref08.Add
def a54 : AC := .seq (.reg [qr 2 (.bx 27 (.t 0)),
 qr 3 (.bx 27 (.t 1)),
 qr 4 (.al 27 [(.b false), (.l 1 []), (.l 1 [])]),
 qr 5 (.mv (.k (.i .i64 0)))])
 (.seq (.seq (.reg [qr 6 (.ld true 3 (.t 2)),
 qr 7 (.ld true 3 (.t 3)),
 qr 8 (.call 99 [(1, (.t 6)), (1, (.t 7))]),
 qr 9 (.bin .neq (.t 8) (.k (.i .i64 0)))])
 (.cond (.t 9)
 (.seq (.reg [qr 10 (.bld [(.b false), (.l 1 []), (.l 1 [])] []),
 qn (.st 3 (.t 4) (.t 10)),
 qr 5 (.mv (.k (.i .i64 1)))])
 (.ret))
 (.skip)))
 (.seq (.reg [qr 11 (.ld true 3 (.t 2)),
 qr 12 (.ld true 3 (.t 3)),
 qr 13 (.call 114 [(1, (.t 11)), (1, (.t 12))]),
 qn (.st 3 (.t 4) (.t 13)),
 qr 5 (.mv (.k (.i .i64 0)))])
 (.ret)))
theorem rAdd_spec (s t : Bool) (a b d e : List Nat) (m : Nat) (hm : m ≤ 10000000) (ha : Wd a) (hb : Wd b) (hd : Wd d) (he : Wd e) (la : a.length ≤ m) (lb : b.length ≤ m) (ld : d.length ≤ m) (le : e.length ≤ m) :
    AFun Tryz.prog J0 54 [rL s a d, rL t b e] (.t [rv (zv s a * (nv B e : Int) + zv t b * (nv B d : Int)) (nv B d * nv B e), .i .i64 (re (nv B d * nv B e))]) := by
  have h1 := rtwo_spec s t a b d e hd he (by omega) (by omega)
  by_cases h : nv B d * nv B e = 0
  · rw [h, rv_0, re_0]
    rw [h, re_0] at h1
    refine mkcQ fol J0s Tryz.func54 a54 [.c 4 true 3, .t 5] ?_
    unfold a54
    simp only [init_eq, initE, qm, qr, qn]
    exact wcQ @bz_Q16
  · have h2 := rPlus_spec s t a b d e m hm ha hb hd he la lb ld le h
    rw [rv_p _ h, re_p h]
    rw [re_p h] at h1
    generalize rz (zv s a * (nv B e : Int) + zv t b * (nv B d : Int)) (nv B d * nv B e) = u at *
    generalize rden (zv s a * (nv B e : Int) + zv t b * (nv B d : Int)) (nv B d * nv B e) = v at *
    refine mkcQ fol J0s Tryz.func54 a54 [.c 4 true 3, .t 5] ?_
    unfold a54
    simp only [init_eq, initE, qm, qr, qn]
    exact wcQ @bz_Q16
-- surd/surdref08.Sub
def a55 : AC := .seq (.reg [qr 2 (.bx 27 (.t 0)),
 qr 3 (.bx 27 (.t 1)),
 qr 4 (.al 27 [(.b false), (.l 1 []), (.l 1 [])]),
 qr 5 (.mv (.k (.i .i64 0)))])
 (.seq (.seq (.reg [qr 6 (.ld true 3 (.t 2)),
 qr 7 (.ld true 3 (.t 3)),
 qr 8 (.call 99 [(1, (.t 6)), (1, (.t 7))]),
 qr 9 (.bin .neq (.t 8) (.k (.i .i64 0)))])
 (.cond (.t 9)
 (.seq (.reg [qr 10 (.bld [(.b false), (.l 1 []), (.l 1 [])] []),
 qn (.st 3 (.t 4) (.t 10)),
 qr 5 (.mv (.k (.i .i64 1)))])
 (.ret))
 (.skip)))
 (.seq (.reg [qr 11 (.ld true 3 (.t 2)),
 qr 12 (.ld true 3 (.t 3)),
 qr 13 (.call 115 [(1, (.t 11)), (1, (.t 12))]),
 qn (.st 3 (.t 4) (.t 13)),
 qr 5 (.mv (.k (.i .i64 0)))])
 (.ret)))
theorem rSub_spec (s t : Bool) (a b d e : List Nat) (m : Nat) (hm : m ≤ 10000000) (ha : Wd a) (hb : Wd b) (hd : Wd d) (he : Wd e) (la : a.length ≤ m) (lb : b.length ≤ m) (ld : d.length ≤ m) (le : e.length ≤ m) :
    AFun Tryz.prog J0 55 [rL s a d, rL t b e] (.t [rv (zv s a * (nv B e : Int) - zv t b * (nv B d : Int)) (nv B d * nv B e), .i .i64 (re (nv B d * nv B e))]) := by
  have h1 := rtwo_spec s t a b d e hd he (by omega) (by omega)
  by_cases h : nv B d * nv B e = 0
  · rw [h, rv_0, re_0]
    rw [h, re_0] at h1
    refine mkcQ fol J0s Tryz.func55 a55 [.c 4 true 3, .t 5] ?_
    unfold a55
    simp only [init_eq, initE, qm, qr, qn]
    exact wcQ @bz_Q16
  · have h2 := rMinus_spec s t a b d e m hm ha hb hd he la lb ld le (fun h0 => h (by rw [h0, Nat.zero_mul])) (fun h0 => h (by rw [h0, Nat.mul_zero]))
    rw [rv_p _ h, re_p h]
    rw [re_p h] at h1
    generalize rz (zv s a * (nv B e : Int) - zv t b * (nv B d : Int)) (nv B d * nv B e) = u at *
    generalize rden (zv s a * (nv B e : Int) - zv t b * (nv B d : Int)) (nv B d * nv B e) = v at *
    refine mkcQ fol J0s Tryz.func55 a55 [.c 4 true 3, .t 5] ?_
    unfold a55
    simp only [init_eq, initE, qm, qr, qn]
    exact wcQ @bz_Q16
-- surd/surdref08.Mul
def a56 : AC := .seq (.reg [qr 2 (.bx 27 (.t 0)),
 qr 3 (.bx 27 (.t 1)),
 qr 4 (.al 27 [(.b false), (.l 1 []), (.l 1 [])]),
 qr 5 (.mv (.k (.i .i64 0)))])
 (.seq (.seq (.reg [qr 6 (.ld true 3 (.t 2)),
 qr 7 (.ld true 3 (.t 3)),
 qr 8 (.call 99 [(1, (.t 6)), (1, (.t 7))]),
 qr 9 (.bin .neq (.t 8) (.k (.i .i64 0)))])
 (.cond (.t 9)
 (.seq (.reg [qr 10 (.bld [(.b false), (.l 1 []), (.l 1 [])] []),
 qn (.st 3 (.t 4) (.t 10)),
 qr 5 (.mv (.k (.i .i64 1)))])
 (.ret))
 (.skip)))
 (.seq (.reg [qr 11 (.ld true 3 (.t 2)),
 qr 12 (.ld true 3 (.t 3)),
 qr 13 (.call 18 [(1, (.t 11)), (1, (.t 12))]),
 qn (.st 3 (.t 4) (.t 13)),
 qr 5 (.mv (.k (.i .i64 0)))])
 (.ret)))
theorem rMul_spec (s t : Bool) (a b d e : List Nat) (m : Nat) (hm : m ≤ 10000000) (ha : Wd a) (hb : Wd b) (hd : Wd d) (he : Wd e) (la : a.length ≤ m) (lb : b.length ≤ m) (ld : d.length ≤ m) (le : e.length ≤ m) :
    AFun Tryz.prog J0 56 [rL s a d, rL t b e] (.t [rv (zv s a * zv t b) (nv B d * nv B e), .i .i64 (re (nv B d * nv B e))]) := by
  have h1 := rtwo_spec s t a b d e hd he (by omega) (by omega)
  by_cases h : nv B d * nv B e = 0
  · rw [h, rv_0, re_0]
    rw [h, re_0] at h1
    refine mkcQ fol J0s Tryz.func56 a56 [.c 4 true 3, .t 5] ?_
    unfold a56
    simp only [init_eq, initE, qm, qr, qn]
    exact wcQ @bz_Q16
  · have h2 := rTimes_spec s t a b d e m hm ha hb hd he la lb ld le h
    rw [rv_p _ h, re_p h]
    rw [re_p h] at h1
    generalize rz (zv s a * zv t b) (nv B d * nv B e) = u at *
    generalize rden (zv s a * zv t b) (nv B d * nv B e) = v at *
    refine mkcQ fol J0s Tryz.func56 a56 [.c 4 true 3, .t 5] ?_
    unfold a56
    simp only [init_eq, initE, qm, qr, qn]
    exact wcQ @bz_Q16
/-- a quotient's number and error -/
def qv (x : Int) (d : Nat) (y : Int) (e : Nat) : V := if d * e = 0 then .g [.b false, .l 1 [], .l 1 []] else rv (mz (x * (e : Int)) (y * (d : Int))) (y * (d : Int)).natAbs
def qe (d : Nat) (y : Int) (e : Nat) : Int := if d * e = 0 then 1 else re (y * (d : Int)).natAbs
theorem RV_qv {x y : Int} {d e m : Nat} (hx : x.natAbs < B ^ m) (hy : y.natAbs < B ^ m) (hd : d < B ^ m) (he : e < B ^ m) : RV (qv x d y e) (m + m) := by
  unfold qv
  split
  · exact ⟨false, [], [], rfl, Wd_nil, Wd_nil, Nat.zero_le _, Nat.zero_le _⟩
  · refine RV_rv ?_ (mul_lt hy hd)
    unfold mz
    split
    · rw [Int.natAbs_neg]; exact mul_lt hx he
    · exact mul_lt hx he
theorem qquoA_spec (s t : Bool) (a b d e : List Nat) (m : Nat) (hm : m ≤ 10000000) (ha : Wd a) (hb : Wd b) (hd : Wd d) (he : Wd e) (la : a.length ≤ m) (lb : b.length ≤ m) (ld : d.length ≤ m) (le : e.length ≤ m) :
    AFun Tryz.prog J0 53 [rL s a d, rL t b e] (.t [qv (zv s a) (nv B d) (zv t b) (nv B e), .i .i64 (qe (nv B d) (zv t b) (nv B e))]) := by
  unfold qv qe
  by_cases h : nv B d * nv B e = 0
  · rw [if_pos h, if_pos h]
    have h1 := qchecks2 s t a b d e hd he (by omega) (by omega)
    rw [h, re_0] at h1
    refine mkcQ fol J0s Tryz.func53 a53 [.c 4 true 3, .t 5] ?_
    unfold a53
    simp only [init_eq, initE, qm, qr, qn]
    exact wcQ @bz_Q16
  · rw [if_neg h, if_neg h]
    exact qquo_spec s t a b d e m hm ha hb hd he la lb ld le h
theorem sgz_nv (t : Bool) (b : List Nat) : (sgz (zv t b) = 0) = (nv B b = 0) := by rw [sgz_zz]; exact propext zv_z
-- surd/surdref08.Quo
def a57 : AC := .seq (.reg [qr 2 (.bx 27 (.t 0)),
 qr 3 (.bx 27 (.t 1)),
 qr 4 (.al 27 [(.b false), (.l 1 []), (.l 1 [])]),
 qr 5 (.mv (.k (.i .i64 0)))])
 (.seq (.seq (.reg [qr 6 (.ld true 3 (.t 2)),
 qr 7 (.ld true 3 (.t 3)),
 qr 8 (.call 99 [(1, (.t 6)), (1, (.t 7))]),
 qr 9 (.bin .neq (.t 8) (.k (.i .i64 0))),
 qm 10 9,
 ⟨some 11, some (10, false), .ld true 3 (.t 3)⟩,
 ⟨some 12, some (10, false), .call 101 [(1, (.t 11))]⟩,
 ⟨some 13, some (10, false), .bin .eql (.t 12) (.k (.i .i64 0))⟩,
 qr 14 (.pick (.t 10) (.k (.b true)) (.t 13))])
 (.cond (.t 14)
 (.seq (.reg [qr 15 (.bld [(.b false), (.l 1 []), (.l 1 [])] []),
 qn (.st 3 (.t 4) (.t 15)),
 qr 5 (.mv (.k (.i .i64 1)))])
 (.ret))
 (.skip)))
 (.seq (.reg [qr 16 (.ld true 3 (.t 2)),
 qr 17 (.ld true 3 (.t 3)),
 qr 18 (.call 116 [(1, (.t 16)), (1, (.t 17))]),
 qn (.st 3 (.t 4) (.t 18)),
 qr 5 (.mv (.k (.i .i64 0)))])
 (.ret)))
theorem rQuo_spec (s t : Bool) (a b d e : List Nat) (m : Nat) (hm : m ≤ 10000000) (ha : Wd a) (hb : Wd b) (hd : Wd d) (he : Wd e) (la : a.length ≤ m) (lb : b.length ≤ m) (ld : d.length ≤ m) (le : e.length ≤ m) :
    AFun Tryz.prog J0 57 [rL s a d, rL t b e] (.t [qv (zv s a) (nv B d) (zv t b) (nv B e), .i .i64 (qe (nv B d) (zv t b) (nv B e))]) := by
  have h1 := rtwo_spec s t a b d e hd he (by omega) (by omega)
  have h2 := rS_spec t b e hb (by omega)
  unfold qv qe
  by_cases h : nv B d * nv B e = 0
  · rw [if_pos h, if_pos h]
    rw [h, re_0] at h1
    refine mkcQ fol J0s Tryz.func57 a57 [.c 4 true 3, .t 5] ?_
    unfold a57
    simp only [init_eq, initE, qm, qr, qn]
    exact wcQ @bz_Q16
  · rw [if_neg h, if_neg h]
    rw [re_p h] at h1
    have hd0 : nv B d ≠ 0 := fun h0 => h (by rw [h0, Nat.zero_mul])
    have hab : (zv t b * (nv B d : Int)).natAbs = nv B d * nv B b := by rw [Int.natAbs_mul, zv_abs, nat_abs, Nat.mul_comm]
    by_cases hb0 : nv B b = 0
    · have h3 : sgz (zv t b) = 0 := by rw [sgz_nv]; exact hb0
      rw [hab, hb0, Nat.mul_zero, rv_0, re_0]
      rw [h3] at h2
      refine mkcQ fol J0s Tryz.func57 a57 [.c 4 true 3, .t 5] ?_
      unfold a57
      simp only [init_eq, initE, qm, qr, qn]
      exact wcQ @bz_Q16
    · have h3 : ¬ sgz (zv t b) = 0 := by rw [sgz_nv]; exact hb0
      have h4 := rOver_spec s t a b d e m hm ha hb hd he la lb ld le hd0 hb0
      rw [zv_mz _ t b d e hb0 hd0] at h4
      rw [hab, rv_p _ (Nat.mul_ne_zero hd0 hb0), re_p (Nat.mul_ne_zero hd0 hb0)]
      generalize mz (zv s a * (nv B e : Int)) (zv t b * (nv B d : Int)) = z at *
      generalize rz z (nv B d * nv B b) = u at *
      generalize rden z (nv B d * nv B b) = v at *
      generalize sgz (zv t b) = g at *
      refine mkcQ fol J0s Tryz.func57 a57 [.c 4 true 3, .t 5] ?_
      unfold a57
      simp only [init_eq, initE, qm, qr, qn]
      exact wcQ (ai @h3 @bz_Q16)
-- surd/surdref08.Neg
def a59 : AC := .seq (.reg [qr 1 (.bx 27 (.t 0)),
 qr 2 (.al 27 [(.b false), (.l 1 []), (.l 1 [])]),
 qr 3 (.mv (.k (.i .i64 0)))])
 (.seq (.seq (.reg [qr 4 (.ld true 3 (.t 1)),
 qr 5 (.call 11 [(1, (.t 4))]),
 qr 6 (.un .not (.t 5))])
 (.cond (.t 6)
 (.seq (.reg [qr 7 (.bld [(.b false), (.l 1 []), (.l 1 [])] []),
 qn (.st 3 (.t 2) (.t 7)),
 qr 3 (.mv (.k (.i .i64 1)))])
 (.ret))
 (.skip)))
 (.seq (.reg [qr 8 (.ld true 3 (.t 1)),
 qr 9 (.call 117 [(1, (.t 8))]),
 qn (.st 3 (.t 2) (.t 9)),
 qr 3 (.mv (.k (.i .i64 0)))])
 (.ret)))
theorem rNeg_spec (s : Bool) (a d : List Nat) (m : Nat) (hm : m ≤ 100000000) (ha : Wd a) (hd : Wd d) (la : a.length ≤ m) (ld : d.length ≤ m) : AFun Tryz.prog J0 59 [rL s a d] (.t [rv (-(zv s a)) (nv B d), .i .i64 (re (nv B d))]) := by
  have h1 := rOk_spec s a d hd (by omega)
  by_cases h : nv B d = 0
  · rw [h, rv_0, re_0]
    rw [decide_eq_true h] at h1
    refine mkcQ fol J0s Tryz.func59 a59 [.c 2 true 3, .t 3] ?_
    unfold a59
    simp only [init_eq, initE, qm, qr, qn]
    exact wcQ @bz_Q16
  · have h2 := rNot_spec s a d m hm ha hd la ld h
    rw [rv_p _ h, re_p h]
    rw [decide_eq_false h] at h1
    generalize rz (-(zv s a)) (nv B d) = u at *
    generalize rden (-(zv s a)) (nv B d) = v at *
    refine mkcQ fol J0s Tryz.func59 a59 [.c 2 true 3, .t 3] ?_
    unfold a59
    simp only [init_eq, initE, qm, qr, qn]
    exact wcQ @bz_Q16
end Go.Proofs.YtlhadigkmlldeaaGreatDoor

/- Q17 -/
namespace Go.Proofs.YtlhadigkmlldeaaGreatDoor
open Go Go.RowKit Ab
set_option linter.unusedSimpArgs false
set_option linter.unusedVariables false
set_option maxHeartbeats 10000000
theorem bz_Q17 : type_of% (And.intro @W_len (And.intro @D_len (And.intro @Nat.div_one (And.intro @Nat.mul_one (And.intro @tn_nat (And.intro @W_nf (And.intro @D_nf (And.intro @W_nil (And.intro @D_nil (And.intro @wi (And.intro @nf_g (And.intro @Bool.false_and (@W_cell))))))))))))) := And.intro @W_len (And.intro @D_len (And.intro @Nat.div_one (And.intro @Nat.mul_one (And.intro @tn_nat (And.intro @W_nf (And.intro @D_nf (And.intro @W_nil (And.intro @D_nil (And.intro @wi (And.intro @nf_g (And.intro @Bool.false_and (@W_cell))))))))))))

-- surd/mul.one
def a155 : AC := .seq (.reg [qr 0 (.mv (.k .nl))])
 (.seq (.reg [qr 1 (.bsl 70 1 1 [(.i .u64 0)] [(0, (.k (.i .u64 1)))]),
 qm 0 1])
 (.ret))
theorem mone_spec : AFun Tryz.prog J0 155 [] (.l 1 (W (dg B 1))) := by
  have e : W (dg B 1) = [.i .u64 1] := by rw [show dg B 1 = [1] from by decide +kernel]; rfl
  rw [e]
  refine AFun.frozen (e := 70) ?_
  refine mkQ fol J0s Tryz.func155 a155 ?_
  unfold a155
  simp only [init_eq, initE, qm, qr, qn]
  refine spQ @bz_Q17 ?_
  exact rtQ @bz_Q17
-- surd/mul.bound
def a154 : AC := .seq (.reg [qr 4 (.mv (.k (.i .i64 0)))])
 (.seq (.blk 0
 (.seq (.reg [qm 6 0,
 qr 7 (.bin .lss (.t 6) (.k (.i .i64 0))),
 qm 5 7])
 (.cond (.t 5)
 (.seq (.reg [qr 4 (.mv (.k (.i .i64 3)))])
 (.ret))
 (.seq (.reg [qm 9 0,
 qm 10 1,
 qr 11 (.bin .gtr (.t 9) (.t 10)),
 qm 8 11])
 (.cond (.t 8)
 (.seq (.reg [qr 4 (.mv (.k (.i .i64 13)))])
 (.ret))
 (.skip))))))
 (.seq (.reg [qr 4 (.mv (.k (.i .i64 0)))])
 (.ret)))
theorem mbound_spec (n : Int) (h1 : 0 ≤ n) (h2 : n ≤ 10000) : AFun Tryz.prog J0 154 [.i .i64 n, .i .i64 10000] (.i .i64 0) := by
  have g1 : ¬ n < 0 := by omega
  have g2 : ¬ 10000 < n := by omega
  refine mkQ fol J0s Tryz.func154 a154 ?_
  unfold a154
  simp only [init_eq, initE, qm, qr, qn]
  refine spQ (ai @g2 (ai @g1 @bz_Q17)) ?_
  exact rtQ @bz_Q17
-- surd/mul.Pow
def a113 : AC := .seq (.reg [qr 4 (.mv (.k .nl)),
 qr 5 (.mv (.k (.i .i64 0)))])
 (.seq (.seq (.reg [qm 9 1,
 qr 10 (.call 154 [(1, (.t 9)), (1, (.k (.i .i64 10000)))]),
 qm 6 10])
 (.seq (.reg [qm 11 6,
 qr 12 (.bin .neq (.t 11) (.k (.i .i64 0)))])
 (.cond (.t 12)
 (.seq (.reg [qm 13 6,
 qr 4 (.mv (.k .nl)),
 qm 5 13])
 (.ret))
 (.skip))))
 (.seq (.reg [qr 14 (.call 155 []),
 qm 15 0,
 qr 16 (.call 131 [(1, (.t 15))]),
 qm 7 14,
 qm 8 16])
 (.seq (.blk 0
 (.loop
 (.seq (.seq (.reg [qm 17 1,
 qr 18 (.bin .gtr (.t 17) (.k (.i .i64 0)))])
 (.cond (.t 18)
 (.skip)
 (.exit 0)))
 (.seq (.blk 1
 (.seq (.seq (.reg [qm 21 1,
 qr 22 (.bin .rem (.t 21) (.k (.i .i64 2))),
 qr 23 (.bin .eql (.t 22) (.k (.i .i64 1)))])
 (.cond (.t 23)
 (.reg [qm 24 7,
 qm 25 8,
 qr 26 (.call 104 [(1, (.t 24)), (1, (.t 25))]),
 qm 7 26])
 (.skip)))
 (.seq (.reg [qm 27 1,
 qr 28 (.bin .gtr (.t 27) (.k (.i .i64 1)))])
 (.cond (.t 28)
 (.reg [qm 29 8,
 qr 30 (.call 153 [(1, (.t 29))]),
 qm 8 30])
 (.skip)))))
 (.reg [qm 19 1,
 qr 20 (.bin .quo (.t 19) (.k (.i .i64 2))),
 qm 1 20])))))
 (.seq (.reg [qm 31 7,
 qm 4 31,
 qr 5 (.mv (.k (.i .i64 0)))])
 (.ret)))))
theorem mpow_spec (a : List Nat) (n m : Nat) (hm : m * (n + 1) + 1 ≤ 100000000) (h1 : 1 ≤ m) (hn : n ≤ 10000) (ha : Wd a) (la : a.length ≤ m) : AFun Tryz.prog J0 113 [.l 1 (W a), .i .i64 (n : Int)] (.t [.l 1 (W (dg B (nv B a ^ n))), .i .i64 0]) := by
  have hmn : m ≤ m * (n + 1) := Nat.le_mul_of_pos_right m (by omega)
  have p0 := mone_spec
  have b0 := mbound_spec (n : Int) (by omega) (by omega)
  have q0 := (norm_dg a ha (by omega)).frozen
  have hu := nvlt ha la
  generalize nv B a = u at *
  have hb : ∀ e, e ≤ n + 1 → (dg B (u ^ e)).length ≤ m * (n + 1) + 1 := fun e he => Nat.le_trans (dlen (pow_B hu h1)) (by have := Nat.mul_le_mul_left m he; omega)
  have hmul := fun e f (he : e ≤ n + 1) (hf : f ≤ n + 1) => mul_spec (dg B (u ^ e)) (dg B (u ^ f)) (Wd_dg _) (Wd_dg _) (Nat.le_trans (hb e he) hm) (Nat.le_trans (hb f hf) hm)
  have hsq := fun f (hf : f ≤ n + 1) => square_spec (dg B (u ^ f)) (Wd_dg _) (Nat.le_trans (hb f hf) hm)
  simp only [nv_dgB] at hmul hsq
  simp only [← Nat.pow_add] at hmul hsq
  rw [show (1 : Nat) = u ^ 0 from rfl] at p0
  rw [show dg B u = dg B (u ^ 1) from by rw [Nat.pow_one]] at q0
  refine mkQ fol J0s Tryz.func113 a113 ?_
  unfold a113
  simp only [init_eq, initE, qm, qr, qn]
  refine wkQ @bz_Q17 ?_
  refine vm_loopA [] (Nat × Nat × Nat) (fun x => ⟨[(1, .i .i64 (x.1 : Int)), (7, .l 1 (W (dg B (u ^ x.2.1)))), (8, .l 1 (W (dg B (u ^ x.2.2))))], [], 0⟩)
    (fun x => x.2.1 + x.2.2 * x.1 = n ∧ x.2.2 ≤ n + 1 ∧ 1 ≤ x.2.2) (fun x => x.1) (n, 0, 1) ⟨by simp, by simp, by simp⟩ (by exact leQ) (by
    exact ltQ) ?_
  rintro ⟨k, e, f⟩ ⟨hk, hf, hf1⟩ Q' hQ he hr
  simp only [] at hk hf hf1 ⊢
  by_cases k0 : k = 0
  · subst k0
    rw [Nat.mul_zero, Nat.add_zero] at hk
    subst hk
    refine spQ @bz_Q17 ?_
    refine he _ _ ?_
    refine spQ @bz_Q17 ?_
    exact rtQ @bz_Q17
  · have hp : (0 : Int) < (k : Int) := by omega
    have hkn : k ≤ n := by
      have := Nat.mul_le_mul_right k hf1
      omega
    have bk : (k : Int).tmod 2 = ((k % 2 : Nat) : Int) := rfl
    have hen : e + f ≤ n := by
      have := Nat.mul_le_mul_left f (Nat.one_le_iff_ne_zero.2 k0)
      omega
    have hsh : (k : Int).tdiv 2 = ((k / 2 : Nat) : Int) := rfl
    have h20 : ¬ (2 : Int) = 0 := by decide
    have hmu := hmul e f (by omega) (by omega)
    have hs2 := hsq f hf
    have kdm : 2 * (k / 2) + k % 2 = k := Nat.div_add_mod k 2
    have fk : f * k = f * (2 * (k / 2)) + f * (k % 2) := by rw [← Nat.mul_add, kdm]
    have f2 : (f + f) * (k / 2) = f * (2 * (k / 2)) := by rw [← Nat.two_mul, Nat.mul_comm 2 f, Nat.mul_assoc]
    rcases Nat.mod_two_eq_zero_or_one k with hpar | hpar
    · have k1 : (1 : Int) < (k : Int) := by omega
      have hff : f + f ≤ n := by
        have := Nat.mul_le_mul_left f (show 2 ≤ k by omega)
        omega
      rw [hpar] at bk fk
      refine wkQ (ai @h20 (ai @hsh (ai @k1 (ai @bk (ai @hp @bz_Q17))))) ?_
      refine hQ _ (k / 2, e, f + f) ⟨by simp only; omega, by simp only; omega, by simp only; omega⟩ (by simp only; omega) ?_
      exact ltQ
    · rw [hpar] at bk fk
      by_cases k1 : (1 : Int) < (k : Int)
      · have hff : f + f ≤ n := by
          have := Nat.mul_le_mul_left f (show 2 ≤ k by omega)
          omega
        refine wkQ (ai @h20 (ai @hsh (ai @k1 (ai @bk (ai @hp @bz_Q17))))) ?_
        refine hQ _ (k / 2, e + f, f + f) ⟨by simp only; omega, by simp only; omega, by simp only; omega⟩ (by simp only; omega) ?_
        exact ltQ
      · have hk20 : k / 2 = 0 := by omega
        have hf0 : f * (k / 2) = 0 := by rw [hk20, Nat.mul_zero]
        have hk11 : f * k = f := by rw [show k = 1 by omega, Nat.mul_one]
        refine wkQ (ai @h20 (ai @hsh (ai @k1 (ai @bk (ai @hp @bz_Q17))))) ?_
        refine hQ _ (k / 2, e + f, f) ⟨by simp only; omega, by simp only; omega, by simp only; omega⟩ (by simp only; omega) ?_
        exact ltQ
/-- a power: of a number in its own form -/
def pv (z : Int) (d : Nat) (n : Int) : V := if n < 0 then rv (mz ((d ^ (-n).toNat : Nat) : Int) (z ^ (-n).toNat)) (z ^ (-n).toNat).natAbs else rN (rz (z ^ n.toNat) (d ^ n.toNat)) (rden (z ^ n.toNat) (d ^ n.toNat))
def pe (z : Int) (n : Int) : Int := if n < 0 then re (z ^ (-n).toNat).natAbs else 0
/-- a power of anything -/
def pV (z : Int) (d : Nat) (n : Int) : V := if d = 0 ∨ n < -4096 ∨ 4096 < n then .g [.b false, .l 1 [], .l 1 []] else pv (rz z d) (rden z d) n
def pE (z : Int) (d : Nat) (n : Int) : Int := if d = 0 then 1 else if n < -4096 ∨ 4096 < n then 3 else pe (rz z d) n
theorem zpow_lt {z : Int} {m n : Nat} (h : z.natAbs < B ^ m) (h1 : 1 ≤ m) : (z ^ n).natAbs < B ^ (m * n + 1) := by rw [Int.natAbs_pow]; exact pow_B h h1
theorem npow_lt {z m n : Nat} (h : z < B ^ m) (h1 : 1 ≤ m) : z ^ n < B ^ (m * n + 1) := pow_B h h1
theorem RV_pV {z : Int} {d m : Nat} {n : Int} (hz : z.natAbs < B ^ m) (hd : d < B ^ m) (h1 : 1 ≤ m) : RV (pV z d n) (m * n.natAbs + 1) := by
  unfold pV
  split
  · exact ⟨false, [], [], rfl, Wd_nil, Wd_nil, Nat.zero_le _, Nat.zero_le _⟩
  · have hz' : (rz z d).natAbs < B ^ m := by rw [rz_abs]; exact Nat.lt_of_le_of_lt (Nat.div_le_self _ _) hz
    have hd' : rden z d < B ^ m := Nat.lt_of_le_of_lt (Nat.div_le_self _ _) hd
    unfold pv
    split
    · rw [show (-n).toNat = n.natAbs from by omega]
      refine RV_rv ?_ (zpow_lt hz' h1)
      unfold mz
      split
      · rw [Int.natAbs_neg]; exact npow_lt hd' h1
      · exact npow_lt hd' h1
    · rw [show n.toNat = n.natAbs from by omega]
      exact RV_rN (zpow_lt hz' h1) (npow_lt hd' h1)
where
  RV_rN {z : Int} {d m : Nat} (hz : z.natAbs < B ^ m) (hd : d < B ^ m) : RV (rN (rz z d) (rden z d)) m :=
    ⟨_, _, _, rfl, Wd_dg _, Wd_dg _, dlen (by rw [rz_abs]; exact Nat.lt_of_le_of_lt (Nat.div_le_self _ _) hz), dlen (Nat.lt_of_le_of_lt (Nat.div_le_self _ _) hd)⟩
theorem cap (m k K : Nat) (h : m * (K + 1) + 1 ≤ 1000000) (hk : k ≤ K) : m * k + 1 ≤ 1000000 ∧ m * (k + 1) + 1 ≤ 100000000 := by
  have h1 := Nat.mul_le_mul_left m (show k + 1 ≤ K + 1 by omega)
  have h2 := Nat.mul_le_mul_left m (show k ≤ k + 1 by omega)
  omega
-- surd/qq.Pow
def a51 : AC := .seq (.reg [qr 2 (.bx 27 (.t 0)),
 qr 4 (.al 27 [(.b false), (.l 1 []), (.l 1 [])]),
 qr 5 (.mv (.k (.i .i64 0)))])
 (.seq (.reg [qr 16 (.ld true 3 (.t 2)),
 qr 17 (.call 25 [(1, (.t 16))]),
 qm 15 17,
 qr 18 (.ext (.t 15) 0),
 qr 19 (.ext (.t 15) 1),
 qn (.st 3 (.t 2) (.t 18)),
 qm 6 19])
 (.seq (.blk 0
 (.seq (.reg [qm 21 6,
 qr 22 (.bin .neq (.t 21) (.k (.i .i64 0))),
 qm 20 22])
 (.cond (.t 20)
 (.seq (.reg [qr 23 (.bld [(.b false), (.l 1 []), (.l 1 [])] []),
 qm 24 6,
 qn (.st 3 (.t 4) (.t 23)),
 qm 5 24])
 (.ret))
 (.seq (.reg [qm 26 1,
 qr 27 (.bin .lss (.t 26) (.k (.i .i64 (-4096)))),
 qm 28 27,
 ⟨some 29, some (28, false), .mv (.t 1)⟩,
 ⟨some 30, some (28, false), .bin .gtr (.t 29) (.k (.i .i64 4096))⟩,
 qr 31 (.pick (.t 28) (.k (.b true)) (.t 30)),
 qm 25 31])
 (.cond (.t 25)
 (.seq (.reg [qr 32 (.bld [(.b false), (.l 1 []), (.l 1 [])] []),
 qn (.st 3 (.t 4) (.t 32)),
 qr 5 (.mv (.k (.i .i64 3)))])
 (.ret))
 (.seq (.reg [qm 34 1,
 qr 35 (.bin .geq (.t 34) (.k (.i .i64 0))),
 qm 33 35])
 (.cond (.t 33)
 (.seq (.reg [qr 37 (.fad 0 (.t 2)),
 qr 38 (.ld true 2 (.t 37)),
 qm 39 1,
 qr 40 (.call 112 [(1, (.t 38)), (1, (.t 39))]),
 qm 36 40,
 qr 41 (.ext (.t 36) 0),
 qr 42 (.ext (.t 36) 1),
 qr 7 (.al 25 [(.b false), (.l 1 [])]),
 qn (.st 2 (.t 7) (.t 41)),
 qm 8 42])
 (.seq (.reg [qr 44 (.fad 2 (.t 2)),
 qr 45 (.ld false 1 (.t 44)),
 qm 46 1,
 qr 47 (.call 113 [(1, (.t 45)), (1, (.t 46))]),
 qm 43 47,
 qr 48 (.ext (.t 43) 0),
 qr 49 (.ext (.t 43) 1),
 qm 9 48,
 qm 10 49])
 (.seq (.reg [qr 50 (.ld true 2 (.t 7)),
 qm 51 9,
 qr 52 (.call 75 [(1, (.t 50)), (1, (.t 51))]),
 qn (.st 3 (.t 4) (.t 52)),
 qr 5 (.mv (.k (.i .i64 0)))])
 (.ret))))
 (.skip))))))))
 (.seq (.reg [qr 54 (.fad 2 (.t 2)),
 qr 55 (.ld false 1 (.t 54)),
 qm 56 1,
 qr 57 (.un .neg (.t 56)),
 qr 58 (.call 113 [(1, (.t 55)), (1, (.t 57))]),
 qm 53 58,
 qr 59 (.ext (.t 53) 0),
 qr 60 (.ext (.t 53) 1),
 qm 11 59,
 qm 12 60])
 (.seq (.reg [qr 62 (.fad 0 (.t 2)),
 qr 63 (.ld true 2 (.t 62)),
 qm 64 1,
 qr 65 (.un .neg (.t 64)),
 qr 66 (.call 112 [(1, (.t 63)), (1, (.t 65))]),
 qm 61 66,
 qr 67 (.ext (.t 61) 0),
 qr 68 (.ext (.t 61) 1),
 qr 13 (.al 25 [(.b false), (.l 1 [])]),
 qn (.st 2 (.t 13) (.t 67)),
 qm 14 68])
 (.seq (.dreg [qm 69 11,
 qr 70 (.call 89 [(1, (.k (.b false))), (1, (.t 69))]),
 qr 71 (.ld true 2 (.t 13)),
 qr 72 (.call 28 [(1, (.t 70)), (1, (.t 71))]),
 qr 73 (.ext (.t 72) 0),
 qr 74 (.ext (.t 72) 1),
 qn (.st 3 (.t 4) (.t 73)),
 qm 5 74])
 (.ret))))))
theorem qpow_spec (s : Bool) (a d : List Nat) (n : Int) (m K : Nat) (hm : m * (K + 1) + 1 ≤ 1000000) (h1 : 1 ≤ m) (ha : Wd a) (hd : Wd d) (la : a.length ≤ m) (ld : d.length ≤ m) (hn : (n < -4096 ∨ 4096 < n) ∨ n.natAbs ≤ K) :
    AFun Tryz.prog J0 51 [rL s a d, .i .i64 n] (.t [pV (zv s a) (nv B d) n, .i .i64 (pE (zv s a) (nv B d) n)]) := by
  have hmK : m ≤ m * (K + 1) := Nat.le_mul_of_pos_right m (by omega)
  have n1 := qnorm_spec s a d m (by omega) ha hd la ld
  unfold pV pE
  by_cases h : nv B d = 0
  · rw [h] at n1
    rw [rv_0, re_0] at n1
    rw [if_pos (.inl h), if_pos h]
    refine mkcQ fol J0s Tryz.func51 a51 [.c 4 true 3, .t 5] ?_
    unfold a51
    simp only [init_eq, initE, qm, qr, qn]
    exact wcQ @bz_Q17
  · rw [rv_p _ h, re_p h] at n1
    rw [if_neg h]
    have bz : (rz (zv s a) (nv B d)).natAbs < B ^ m := by rw [rz_abs]; exact Nat.lt_of_le_of_lt (Nat.div_le_self _ _) (zv_lt ha la)
    have bd : rden (zv s a) (nv B d) < B ^ m := Nat.lt_of_le_of_lt (Nat.div_le_self _ _) (nvlt hd ld)
    have dp := rden_pos (z := zv s a) h
    generalize rz (zv s a) (nv B d) = z at *
    generalize rden (zv s a) (nv B d) = e at *
    by_cases hr : n < -4096 ∨ 4096 < n
    · rw [if_pos (.inr hr), if_pos hr]
      by_cases g1 : n < -4096
      · refine mkcQ fol J0s Tryz.func51 a51 [.c 4 true 3, .t 5] ?_
        unfold a51
        simp only [init_eq, initE, qm, qr, qn]
        exact wcQ (ai @g1 @bz_Q17)
      · have g2 : 4096 < n := by omega
        refine mkcQ fol J0s Tryz.func51 a51 [.c 4 true 3, .t 5] ?_
        unfold a51
        simp only [init_eq, initE, qm, qr, qn]
        exact wcQ (ai @g2 (ai @g1 @bz_Q17))
    · rw [if_neg (by omega), if_neg hr]
      have hK : n.natAbs ≤ K := by omega
      have g1 : ¬ n < -4096 := by omega
      have g2 : ¬ 4096 < n := by omega
      obtain ⟨c1, c2⟩ := cap m n.natAbs K hm hK
      unfold pv pe
      by_cases g3 : 0 ≤ n
      · rw [if_neg (by omega), if_neg (by omega)]
        obtain ⟨k, rfl⟩ : ∃ k : Nat, n = (k : Int) := ⟨n.toNat, by omega⟩
        rw [show ((k : Int)).toNat = k from rfl]
        rw [show ((k : Int)).natAbs = k from rfl] at *
        have p1 := zpow_spec (decide (z < 0)) (dg B z.natAbs) k m c2 h1 (by omega) (Wd_dg _) (dlen bz)
        have p2 := mpow_spec (dg B e) k m c2 h1 (by omega) (Wd_dg _) (dlen bd)
        rw [zv_N] at p1
        rw [nv_dgB] at p2
        have b1 := zpow_lt (n := k) bz h1
        have b2 := npow_lt (n := k) bd h1
        have e0 : e ^ k ≠ 0 := Nat.pos_iff_ne_zero.1 (Nat.pow_pos (Nat.pos_of_ne_zero dp))
        generalize z ^ k = x at *
        generalize e ^ k = y at *
        have r1 := qred_spec (decide (x < 0)) (dg B x.natAbs) (dg B y) (m * k + 1) (by omega) (Wd_dg _) (Wd_dg _) (dlen b1) (dlen b2) (by rw [nv_dgB]; exact e0)
        rw [zv_N, nv_dgB] at r1
        generalize rz x y = u at *
        generalize rden x y = v at *
        refine mkcQ fol J0s Tryz.func51 a51 [.c 4 true 3, .t 5] ?_
        unfold a51
        simp only [init_eq, initE, qm, qr, qn]
        exact wcQ (ai @g3 (ai @g2 (ai @g1 @bz_Q17)))
      · rw [if_pos (by omega), if_pos (by omega)]
        obtain ⟨k, hk⟩ : ∃ k : Nat, -n = (k : Int) := ⟨(-n).toNat, by omega⟩
        have w1 : IntKind.i64.wrap (0 - n) = (k : Int) := by rw [wi (by omega)]; omega
        rw [show (-n).toNat = k from by omega]
        rw [show n.natAbs = k from by omega] at *
        have p1 := zpow_spec (decide (z < 0)) (dg B z.natAbs) k m c2 h1 (by omega) (Wd_dg _) (dlen bz)
        have p2 := mpow_spec (dg B e) k m c2 h1 (by omega) (Wd_dg _) (dlen bd)
        rw [zv_N] at p1
        rw [nv_dgB] at p2
        have b1 := zpow_lt (n := k) bz h1
        have b2 := npow_lt (n := k) bd h1
        generalize z ^ k = x at *
        generalize e ^ k = y at *
        have z1 := znat_spec false (dg B y) (Wd_dg _) (Nat.le_trans (dlen b2) (by omega))
        rw [zv_f, nv_dgB] at z1
        have r1 := qmake_spec (decide ((y : Int) < 0)) (decide (x < 0)) (dg B (y : Int).natAbs) (dg B x.natAbs) (m * k + 1) (by omega) (Wd_dg _) (Wd_dg _) (dlen b2) (dlen b1)
        rw [zv_N, zv_N, nv_dgB] at r1
        obtain ⟨s', a', d', ev, _⟩ : RV (rv (mz (y : Int) x) x.natAbs) (m * k + 1) := RV_rv (by unfold mz; split; (rw [Int.natAbs_neg]; exact b2); exact b2) b1
        rw [ev] at r1 ⊢
        generalize re x.natAbs = er at *
        generalize (y : Int) = yi at *
        refine mkcQ fol J0s Tryz.func51 a51 [.c 4 true 3, .t 5] ?_
        unfold a51
        simp only [init_eq, initE, qm, qr, qn]
        exact wcQ (ai @w1 (ai @g3 (ai @g2 (ai @g1 @bz_Q17))))
end Go.Proofs.YtlhadigkmlldeaaGreatDoor

/- Q18 -/
namespace Go.Proofs.YtlhadigkmlldeaaGreatDoor
open Go Go.RowKit Ab
set_option linter.unusedSimpArgs false
set_option linter.unusedVariables false
set_option maxHeartbeats 10000000
theorem bz_Q18 : type_of% (And.intro @W_len (And.intro @D_len (And.intro @Nat.div_one (And.intro @Nat.mul_one (And.intro @tn_nat (And.intro @W_nf (And.intro @D_nf (And.intro @W_nil (And.intro @D_nil (And.intro @wi (And.intro @nf_g (And.intro @Bool.false_and (@W_cell))))))))))))) := And.intro @W_len (And.intro @D_len (And.intro @Nat.div_one (And.intro @Nat.mul_one (And.intro @tn_nat (And.intro @W_nf (And.intro @D_nf (And.intro @W_nil (And.intro @D_nil (And.intro @wi (And.intro @nf_g (And.intro @Bool.false_and (@W_cell))))))))))))

theorem zI_powZ (z : Int) (k : Nat) : zI (decide (z < 0) && decide (k % 2 = 1)) (z.natAbs ^ k) = z ^ k := by rw [zI_pow, zI_self]
theorem mz_pow (z : Int) (d k : Nat) (h0 : z ≠ 0) : mz ((d ^ k : Nat) : Int) (z ^ k) = (zI (decide (z < 0)) d) ^ k := by
  have h1 : (0 : Nat) < z.natAbs ^ k := Nat.pow_pos (by omega)
  rw [← zI_pow, ← zI_powZ z k]
  unfold mz
  have h2 := zI_neg (decide (z < 0) && decide (k % 2 = 1)) (z.natAbs ^ k)
  rw [decide_eq_true h1, Bool.and_true] at h2
  generalize (decide (z < 0) && decide (k % 2 = 1)) = s at *
  cases s
  · rw [if_neg (of_decide_eq_false h2)]; rfl
  · rw [if_pos (of_decide_eq_true h2)]; rfl
/-- a number in its own form stays as it is -/
theorem rzN_co {z : Int} {d : Nat} (h : Nat.gcd z.natAbs d = 1) : rz z d = z := by unfold rz; rw [show rG z d = 1 from h]; exact Int.tdiv_one _
theorem rdenN_co {z : Int} {d : Nat} (h : Nat.gcd z.natAbs d = 1) : rden z d = d := by unfold rden; rw [show rG z d = 1 from h]; exact Nat.div_one _
theorem rN_b (z : Int) (d : Nat) : rN z d = .g [.b (decide (z < 0)), .l 1 (W (dg B z.natAbs)), .l 1 (W (dg B d))] := rfl
-- surd/surdref08.Pow
def a61 : AC := .seq (.reg [qr 2 (.bx 27 (.t 0)),
 qr 4 (.al 27 [(.b false), (.l 1 []), (.l 1 [])]),
 qr 5 (.mv (.k (.i .i64 0)))])
 (.seq (.seq (.reg [qr 7 (.ld true 3 (.t 2)),
 qr 8 (.call 11 [(1, (.t 7))]),
 qr 9 (.un .not (.t 8))])
 (.cond (.t 9)
 (.seq (.reg [qr 10 (.bld [(.b false), (.l 1 []), (.l 1 [])] []),
 qn (.st 3 (.t 4) (.t 10)),
 qr 5 (.mv (.k (.i .i64 1)))])
 (.ret))
 (.skip)))
 (.seq (.seq (.reg [qm 11 1,
 qr 12 (.bin .lss (.t 11) (.k (.i .i64 (-4096)))),
 qm 13 12,
 ⟨some 14, some (13, false), .mv (.t 1)⟩,
 ⟨some 15, some (13, false), .bin .gtr (.t 14) (.k (.i .i64 4096))⟩,
 qr 16 (.pick (.t 13) (.k (.b true)) (.t 15))])
 (.cond (.t 16)
 (.seq (.reg [qr 17 (.bld [(.b false), (.l 1 []), (.l 1 [])] []),
 qn (.st 3 (.t 4) (.t 17)),
 qr 5 (.mv (.k (.i .i64 3)))])
 (.ret))
 (.skip)))
 (.seq (.seq (.reg [qm 18 1,
 qr 19 (.bin .lss (.t 18) (.k (.i .i64 0))),
 qm 20 19,
 ⟨some 21, some (20, true), .ld true 3 (.t 2)⟩,
 ⟨some 22, some (20, true), .call 101 [(1, (.t 21))]⟩,
 ⟨some 23, some (20, true), .bin .eql (.t 22) (.k (.i .i64 0))⟩,
 qr 24 (.pick (.t 20) (.t 23) (.k (.b false)))])
 (.cond (.t 24)
 (.seq (.reg [qr 25 (.bld [(.b false), (.l 1 []), (.l 1 [])] []),
 qn (.st 3 (.t 4) (.t 25)),
 qr 5 (.mv (.k (.i .i64 1)))])
 (.ret))
 (.skip)))
 (.seq (.reg [qr 26 (.fad 0 (.t 2)),
 qr 27 (.ld true 2 (.t 26)),
 qr 28 (.fad 2 (.t 2)),
 qr 29 (.ld false 1 (.t 28)),
 qr 30 (.call 83 [(1, (.t 27)), (1, (.t 29))]),
 qn (.st 3 (.t 2) (.t 30))])
 (.seq (.seq (.reg [qm 31 1,
 qr 32 (.bin .lss (.t 31) (.k (.i .i64 0)))])
 (.cond (.t 32)
 (.dreg [qr 33 (.call 19 [(1, (.k (.i .i64 1))), (1, (.k (.i .i64 1)))]),
 qr 34 (.ld true 3 (.t 2)),
 qr 35 (.call 116 [(1, (.t 33)), (1, (.t 34))]),
 qm 36 1,
 qr 37 (.un .neg (.t 36)),
 qn (.st 3 (.t 2) (.t 35)),
 qm 1 37])
 (.skip)))
 (.seq (.reg [qr 38 (.fad 0 (.t 2)),
 qr 39 (.fad 0 (.t 38)),
 qr 40 (.ld false 1 (.t 39)),
 qm 41 40,
 ⟨some 42, some (41, true), .mv (.t 1)⟩,
 ⟨some 43, some (41, true), .bin .rem (.t 42) (.k (.i .i64 2))⟩,
 ⟨some 44, some (41, true), .bin .eql (.t 43) (.k (.i .i64 1))⟩,
 qr 45 (.pick (.t 41) (.t 44) (.k (.b false))),
 qr 46 (.fad 0 (.t 2)),
 qr 47 (.fad 1 (.t 46)),
 qr 48 (.ld false 1 (.t 47)),
 qm 49 1,
 qr 50 (.call 118 [(1, (.t 48)), (1, (.t 49))]),
 qr 51 (.call 95 [(1, (.t 45)), (1, (.t 50))]),
 qr 6 (.al 25 [(.b false), (.l 1 [])]),
 qn (.st 2 (.t 6) (.t 51))])
 (.seq (.dreg [qr 52 (.ld true 2 (.t 6)),
 qr 53 (.fad 2 (.t 2)),
 qr 54 (.ld false 1 (.t 53)),
 qm 55 1,
 qr 56 (.call 118 [(1, (.t 54)), (1, (.t 55))]),
 qr 57 (.call 83 [(1, (.t 52)), (1, (.t 56))]),
 qn (.st 3 (.t 4) (.t 57)),
 qr 5 (.mv (.k (.i .i64 0)))])
 (.ret))))))))
theorem rpow_spec (s : Bool) (a d : List Nat) (n : Int) (m K : Nat) (hm : m * (K + 1) + 1 ≤ 1000000) (h1 : 1 ≤ m) (ha : Wd a) (hd : Wd d) (la : a.length ≤ m) (ld : d.length ≤ m) (hn : (n < -4096 ∨ 4096 < n) ∨ n.natAbs ≤ K) :
    AFun Tryz.prog J0 61 [rL s a d, .i .i64 n] (.t [pV (zv s a) (nv B d) n, .i .i64 (pE (zv s a) (nv B d) n)]) := by
  have hmK : m ≤ m * (K + 1) := Nat.le_mul_of_pos_right m (by omega)
  have k1 := rOk_spec s a d hd (by omega)
  unfold pV pE
  by_cases h : nv B d = 0
  · rw [decide_eq_true h] at k1
    rw [if_pos (.inl h), if_pos h]
    refine mkcQ fol J0s Tryz.func61 a61 [.c 4 true 3, .t 5] ?_
    unfold a61
    simp only [init_eq, initE, qm, qr, qn]
    exact wcQ @bz_Q18
  · rw [decide_eq_false h] at k1
    rw [if_neg h]
    by_cases hr : n < -4096 ∨ 4096 < n
    · rw [if_pos (.inr hr), if_pos hr]
      by_cases g1 : n < -4096
      · refine mkcQ fol J0s Tryz.func61 a61 [.c 4 true 3, .t 5] ?_
        unfold a61
        simp only [init_eq, initE, qm, qr, qn]
        exact wcQ (ai @g1 @bz_Q18)
      · have g2 : 4096 < n := by omega
        refine mkcQ fol J0s Tryz.func61 a61 [.c 4 true 3, .t 5] ?_
        unfold a61
        simp only [init_eq, initE, qm, qr, qn]
        exact wcQ (ai @g2 (ai @g1 @bz_Q18))
    · rw [if_neg (by omega), if_neg hr]
      have hK : n.natAbs ≤ K := by omega
      have g1 : ¬ n < -4096 := by omega
      have g2 : ¬ 4096 < n := by omega
      obtain ⟨c1, c2⟩ := cap m n.natAbs K hm hK
      have k2 := rR_spec s a d m (by omega) ha hd la ld h
      have k3 := rS_spec s a d ha (by omega)
      rw [← rz_sgz h] at k3
      have bz : (rz (zv s a) (nv B d)).natAbs < B ^ m := by rw [rz_abs]; exact Nat.lt_of_le_of_lt (Nat.div_le_self _ _) (zv_lt ha la)
      have bd : rden (zv s a) (nv B d) < B ^ m := Nat.lt_of_le_of_lt (Nat.div_le_self _ _) (nvlt hd ld)
      have dp := rden_pos (z := zv s a) h
      have co := r_co (zv s a) h
      generalize rz (zv s a) (nv B d) = z at *
      generalize rden (zv s a) (nv B d) = e at *
      have hodd : ∀ k : Nat, k ≤ 4096 → IntKind.i64.wrap ((k : Int).tmod 2) = ((k % 2 : Nat) : Int) := fun k hk => wi (by have : (k : Int).tmod 2 = ((k % 2 : Nat) : Int) := rfl; omega)
      have hm2 : ∀ k : Nat, (k : Int).tmod 2 = ((k % 2 : Nat) : Int) := fun k => rfl
      have ho1 : ∀ k : Nat, (((k % 2 : Nat) : Int) = 1) = (k % 2 = 1) := fun k => propext (by omega)
      have h20 : ¬ (2 : Int) = 0 := by decide
      -- what is done to a number in its own form
      have tail : ∀ (z : Int) (e k : Nat), z.natAbs < B ^ m → e < B ^ m → e ≠ 0 → m * k + 1 ≤ 1000000 → m * (k + 1) + 1 ≤ 100000000 → k ≤ 4096 →
          AFun Tryz.prog J0 118 [.l 1 (W (dg B z.natAbs)), .i .i64 (k : Int)] (.l 1 (W (dg B (z.natAbs ^ k)))) ∧
          AFun Tryz.prog J0 118 [.l 1 (W (dg B e)), .i .i64 (k : Int)] (.l 1 (W (dg B (e ^ k)))) ∧
          AFun Tryz.prog J0 95 [.b (decide (z < 0) && decide (k % 2 = 1)), .l 1 (W (dg B (z.natAbs ^ k)))] (zN (z ^ k)) ∧
          AFun Tryz.prog J0 83 [zN (z ^ k), .l 1 (W (dg B (e ^ k)))] (rN (rz (z ^ k) (e ^ k)) (rden (z ^ k) (e ^ k))) := fun z e k bz bd dp c1 c2 hk => by
        have b1 := zpow_lt (n := k) bz h1
        have b2 := npow_lt (n := k) bd h1
        refine ⟨(hpow_spec z.natAbs k m bz (by omega) h1 (by omega)).frozen, (hpow_spec e k m bd (by omega) h1 (by omega)).frozen, ?_, ?_⟩
        · have := hID (decide (z < 0) && decide (k % 2 = 1)) (n := z.natAbs ^ k) (m := m * k + 1) (by rw [← Int.natAbs_pow]; exact b1) (by omega)
          rwa [zI_powZ] at this
        · have := rR_spec (decide (z ^ k < 0)) (dg B (z ^ k).natAbs) (dg B (e ^ k)) (m * k + 1) (by omega) (Wd_dg _) (Wd_dg _) (dlen b1) (dlen b2) (by rw [nv_dgB]; exact Nat.pos_iff_ne_zero.1 (Nat.pow_pos (Nat.pos_of_ne_zero dp)))
          rwa [zv_N, nv_dgB] at this
      unfold pv pe
      by_cases g3 : n < 0
      · rw [if_pos g3, if_pos g3]
        obtain ⟨k, hk⟩ : ∃ k : Nat, -n = (k : Int) := ⟨(-n).toNat, by omega⟩
        have w1 : IntKind.i64.wrap (0 - n) = (k : Int) := by rw [wi (by omega)]; omega
        rw [show (-n).toNat = k from by omega]
        rw [show n.natAbs = k from by omega] at *
        by_cases z0 : z = 0
        · have s0 : sgz z = 0 := by rw [z0]; rfl
          rw [z0, Int.zero_pow (by omega)]
          show AFun _ _ _ _ (.t [rv (mz ((e ^ k : Nat) : Int) 0) 0, .i .i64 (re 0)])
          rw [rv_0, re_0]
          rw [s0] at k3
          clear tail
          refine mkcQ fol J0s Tryz.func61 a61 [.c 4 true 3, .t 5] ?_
          unfold a61
          simp only [init_eq, initE, qm, qr, qn]
          exact wcQ (ai @g3 (ai @g2 (ai @g1 @bz_Q18)))
        · have s0 : ¬ sgz z = 0 := by rw [sgz_zz]; exact z0
          rw [mz_pow z e k z0, Int.natAbs_pow, rv_p _ (Nat.pos_iff_ne_zero.1 (Nat.pow_pos (by omega))), re_p (Nat.pos_iff_ne_zero.1 (Nat.pow_pos (by omega)))]
          have p1 := rP_spec 1 1 (by decide) (by decide) (by decide) (by decide)
          rw [show rz 1 ((1 : Nat)) = 1 from rfl, show rden 1 ((1 : Nat)) = 1 from rfl] at p1
          have hB1 : 1 < B ^ m := by
            have : B ^ 1 ≤ B ^ m := Nat.pow_le_pow_right (by decide) h1
            rw [Nat.pow_one] at this
            exact Nat.lt_of_lt_of_le (by decide) this
          have o1 := rOver_spec (decide ((1 : Int) < 0)) (decide (z < 0)) (dg B (1 : Int).natAbs) (dg B z.natAbs) (dg B 1) (dg B e) m (by omega) (Wd_dg _) (Wd_dg _) (Wd_dg _) (Wd_dg _) (dlen hB1) (dlen bz) (dlen hB1) (dlen bd) (by rw [nv_dgB]; decide) (by rw [nv_dgB]; omega)
          rw [zv_N, nv_dgB, nv_dgB, Int.one_mul, Nat.one_mul, show zv (decide (z < 0)) (dg B e) = zI (decide (z < 0)) e from by unfold zv; rw [nv_dgB]] at o1
          have co2 : Nat.gcd (zI (decide (z < 0)) e).natAbs z.natAbs = 1 := by rw [zI_abs, Nat.gcd_comm]; exact co
          rw [rzN_co co2, rdenN_co co2] at o1
          obtain ⟨t1, t2, t3, t4⟩ := tail (zI (decide (z < 0)) e) z.natAbs k (by rw [zI_abs]; exact bd) bz (by omega) c1 c2 (by omega)
          clear tail
          have hodd := hodd k (by omega)
          have hm2 := hm2 k
          have ho1 := ho1 k
          generalize zI (decide (z < 0)) e = x at *
          generalize sgz z = g at *
          have hx : ∃ b, b = decide (x < 0) := ⟨_, rfl⟩
          obtain ⟨b, hb⟩ := hx
          rw [rN_b, ← hb] at o1
          rw [← hb] at t3
          generalize rz (x ^ k) (z.natAbs ^ k) = u at *
          generalize rden (x ^ k) (z.natAbs ^ k) = v at *
          cases b
          · rw [Bool.false_and] at t3
            refine mkcQ fol J0s Tryz.func61 a61 [.c 4 true 3, .t 5] ?_
            unfold a61
            simp only [init_eq, initE, qm, qr, qn]
            have zc1 := t1
            have zc2 := t2
            have zc3 := t3
            have zc4 := t4
            exact wcQ (ai @w1 (ai @s0 (ai @g3 (ai @g2 (ai @g1 @bz_Q18)))))
          · rw [Bool.true_and] at t3
            refine mkcQ fol J0s Tryz.func61 a61 [.c 4 true 3, .t 5] ?_
            unfold a61
            simp only [init_eq, initE, qm, qr, qn]
            have zc5 := t1
            have zc6 := t2
            have zc7 := t3
            have zc8 := t4
            exact wcQ (ai @h20 (ai @ho1 (ai @hm2 (ai @hodd (ai @w1 (ai @s0 (ai @g3 (ai @g2 (ai @g1 @bz_Q18)))))))))
      · rw [if_neg g3, if_neg g3]
        obtain ⟨k, rfl⟩ : ∃ k : Nat, n = (k : Int) := ⟨n.toNat, by omega⟩
        rw [show ((k : Int)).toNat = k from rfl]
        rw [show ((k : Int)).natAbs = k from rfl] at *
        obtain ⟨t1, t2, t3, t4⟩ := tail z e k bz bd dp c1 c2 (by omega)
        clear tail
        have hodd := hodd k (by omega)
        have hm2 := hm2 k
        have ho1 := ho1 k
        have hx : ∃ b, b = decide (z < 0) := ⟨_, rfl⟩
        obtain ⟨b, hb⟩ := hx
        rw [rN_b, ← hb] at k2
        rw [← hb] at t3
        generalize rz (z ^ k) (e ^ k) = u at *
        generalize rden (z ^ k) (e ^ k) = v at *
        clear k3
        cases b
        · rw [Bool.false_and] at t3
          refine mkcQ fol J0s Tryz.func61 a61 [.c 4 true 3, .t 5] ?_
          unfold a61
          simp only [init_eq, initE, qm, qr, qn]
          have zc9 := t1
          have zc10 := t2
          have zc11 := t3
          have zc12 := t4
          exact wcQ (ai @g3 (ai @g2 (ai @g1 @bz_Q18)))
        · rw [Bool.true_and] at t3
          refine mkcQ fol J0s Tryz.func61 a61 [.c 4 true 3, .t 5] ?_
          unfold a61
          simp only [init_eq, initE, qm, qr, qn]
          have zc13 := t1
          have zc14 := t2
          have zc15 := t3
          have zc16 := t4
          exact wcQ (ai @h20 (ai @ho1 (ai @hm2 (ai @hodd (ai @g3 (ai @g2 (ai @g1 @bz_Q18)))))))
end Go.Proofs.YtlhadigkmlldeaaGreatDoor

/- Q19 -/
namespace Go.Proofs.YtlhadigkmlldeaaGreatDoor
open Go Go.RowKit Ab
set_option linter.unusedSimpArgs false
set_option linter.unusedVariables false
set_option maxHeartbeats 10000000
theorem bz_Q19 : type_of% (And.intro @RC_nf (And.intro @W_len (And.intro @D_len (And.intro @Nat.div_one (And.intro @Nat.mul_one (And.intro @tn_nat (And.intro @W_nf (And.intro @D_nf (And.intro @W_nil (And.intro @D_nil (And.intro @wi (And.intro @nf_g (And.intro @Bool.false_and (@W_cell)))))))))))))) := And.intro @RC_nf (And.intro @W_len (And.intro @D_len (And.intro @Nat.div_one (And.intro @Nat.mul_one (And.intro @tn_nat (And.intro @W_nf (And.intro @D_nf (And.intro @W_nil (And.intro @D_nil (And.intro @wi (And.intro @nf_g (And.intro @Bool.false_and (@W_cell)))))))))))))

abbrev nul3 : Bool × List Nat × List Nat := (false, [], [])
/-- the sum of the first i, in its own form -/
def sumZ (l : List (Bool × List Nat × List Nat)) : Nat → Int × Nat
  | 0 => (0, 1)
  | i + 1 => (rz ((sumZ l i).1 * (nv B (l.getD i nul3).2.2 : Int) + zv (l.getD i nul3).1 (l.getD i nul3).2.1 * ((sumZ l i).2 : Int)) ((sumZ l i).2 * nv B (l.getD i nul3).2.2),
      rden ((sumZ l i).1 * (nv B (l.getD i nul3).2.2 : Int) + zv (l.getD i nul3).1 (l.getD i nul3).2.1 * ((sumZ l i).2 : Int)) ((sumZ l i).2 * nv B (l.getD i nul3).2.2))
/-- what a list of twelve words at most each is -/
def LOk (l : List (Bool × List Nat × List Nat)) : Prop := ∀ p, p ∈ l → Wd p.2.1 ∧ Wd p.2.2 ∧ p.2.1.length ≤ 12 ∧ p.2.2.length ≤ 12
theorem getD_mem {l : List (Bool × List Nat × List Nat)} {i : Nat} (h : i < l.length) : l.getD i nul3 ∈ l := by
  rw [List.getD_eq_getElem?_getD, List.getElem?_eq_getElem h]; exact List.getElem_mem _
theorem ce_0 {l : List (Bool × List Nat × List Nat)} (h : ce l = 0) {i : Nat} (hi : i < l.length) : nv B (l.getD i nul3).2.2 ≠ 0 := fun h0 => by
  unfold ce at h
  rw [if_pos (List.any_eq_true.2 ⟨_, getD_mem hi, by simpa using h0⟩)] at h
  exact absurd h (by decide)
theorem ce_01 (l : List (Bool × List Nat × List Nat)) : ce l = 0 ∨ ce l = 1 := by unfold ce; split; exact .inr rfl; exact .inl rfl
theorem ce_1 {l : List (Bool × List Nat × List Nat)} (h : ce l = 1) : ∃ i, i < l.length ∧ nv B (l.getD i nul3).2.2 = 0 ∧ ∀ u, u < i → nv B (l.getD u nul3).2.2 ≠ 0 := by
  have h1 : ∃ i, i < l.length ∧ nv B (l.getD i nul3).2.2 = 0 := by
    unfold ce at h
    split at h
    · rename_i ha
      obtain ⟨p, hp, h0⟩ := List.any_eq_true.1 ha
      obtain ⟨u, hu, rfl⟩ := List.getElem_of_mem hp
      exact ⟨u, hu, by rw [List.getD_eq_getElem?_getD, List.getElem?_eq_getElem hu]; simpa using h0⟩
    · exact absurd h (by decide)
  obtain ⟨i, hi, h0⟩ := h1
  have key : ∀ n i, i ≤ n → i < l.length → nv B (l.getD i nul3).2.2 = 0 → ∃ i, i < l.length ∧ nv B (l.getD i nul3).2.2 = 0 ∧ ∀ u, u < i → nv B (l.getD u nul3).2.2 ≠ 0 := by
    intro n
    induction n with
    | zero => intro i h1 h2 h3; exact ⟨i, h2, h3, fun u hu => by omega⟩
    | succ n ih =>
      intro i h1 h2 h3
      rcases Classical.em (∃ u, u < i ∧ nv B (l.getD u nul3).2.2 = 0) with ⟨u, hu, h4⟩ | h4
      · exact ih u (by omega) (by omega) h4
      · exact ⟨i, h2, h3, fun u hu h5 => h4 ⟨u, hu, h5⟩⟩
  exact key i i (Nat.le_refl _) hi h0
theorem sum_ok {l : List (Bool × List Nat × List Nat)} (h : LOk l) (hc : ce l = 0) : ∀ i, i ≤ l.length → (sumZ l i).1.natAbs < B ^ (13 * i + 1) ∧ (sumZ l i).2 < B ^ (13 * i + 1) ∧ (sumZ l i).2 ≠ 0
  | 0, _ => ⟨(by decide : (0 : Int).natAbs < B ^ (13 * 0 + 1)), (by decide : 1 < B ^ (13 * 0 + 1)), (by decide : (1 : Nat) ≠ 0)⟩
  | i + 1, hi => by
    obtain ⟨h1, h2, h3⟩ := sum_ok h hc i (by omega)
    have hm := getD_mem (l := l) (i := i) (by omega)
    have h4 := ce_0 hc (i := i) (by omega)
    obtain ⟨wa, wd, la, ld⟩ := h _ hm
    have b1 := nvlt wd ld
    have b2 := zv_lt (s := (l.getD i nul3).1) wa la
    unfold sumZ
    generalize l.getD i nul3 = p at *
    generalize (sumZ l i).1 = z at *
    generalize (sumZ l i).2 = d at *
    have c1 : (z * (nv B p.2.2 : Int)).natAbs < B ^ (13 * i + 13) := by
      rw [Int.natAbs_mul, show 13 * i + 13 = (13 * i + 1) + 12 from by omega, Nat.pow_add]; exact Nat.mul_lt_mul'' h1 b1
    have c2 : (zv p.1 p.2.1 * (d : Int)).natAbs < B ^ (13 * i + 13) := by
      rw [Int.natAbs_mul, show 13 * i + 13 = 12 + (13 * i + 1) from by omega, Nat.pow_add]; exact Nat.mul_lt_mul'' b2 h2
    have c3 : d * nv B p.2.2 < B ^ (13 * i + 13) := by
      rw [show 13 * i + 13 = (13 * i + 1) + 12 from by omega, Nat.pow_add]; exact Nat.mul_lt_mul'' h2 b1
    rw [show 13 * (i + 1) + 1 = 13 * i + 13 + 1 from by omega]
    refine ⟨?_, ?_, rden_pos (Nat.mul_ne_zero h3 h4)⟩
    · simp only [rz_abs]
      exact Nat.lt_of_le_of_lt (Nat.div_le_self _ _) (Nat.lt_of_le_of_lt (Int.natAbs_add_le _ _) (padd c1 c2))
    · exact Nat.lt_of_le_of_lt (Nat.div_le_self _ _) (pup c3 (by omega))
/-- the sum of all -/
def sumV (l : List (Bool × List Nat × List Nat)) : V := if ce l = 1 then .g [.b false, .l 1 [], .l 1 []] else rN (sumZ l l.length).1 (sumZ l l.length).2
theorem RV_sumV {l : List (Bool × List Nat × List Nat)} (h : LOk l) : RV (sumV l) (13 * l.length + 1) := by
  unfold sumV
  split
  · exact ⟨false, [], [], rfl, Wd_nil, Wd_nil, Nat.zero_le _, Nat.zero_le _⟩
  · rename_i hc
    have hc0 : ce l = 0 := (ce_01 l).resolve_right hc
    obtain ⟨h1, h2, h3⟩ := sum_ok h hc0 l.length (Nat.le_refl _)
    exact ⟨_, _, _, rfl, Wd_dg _, Wd_dg _, dlen h1, dlen h2⟩
-- surd/qq.Sum
def a48 : AC := .seq (.reg [qr 2 (.al 27 [(.b false), (.l 1 []), (.l 1 [])]),
 qr 3 (.mv (.k (.i .i64 0)))])
 (.seq (.seq (.reg [qm 8 0,
 qr 9 (.call 80 [(3, (.t 8))]),
 qm 4 9])
 (.seq (.reg [qm 10 4,
 qr 11 (.bin .neq (.t 10) (.k (.i .i64 0)))])
 (.cond (.t 11)
 (.seq (.reg [qr 12 (.bld [(.b false), (.l 1 []), (.l 1 [])] []),
 qm 13 4,
 qn (.st 3 (.t 2) (.t 12)),
 qm 3 13])
 (.ret))
 (.skip))))
 (.seq (.reg [qr 14 (.call 77 [(1, (.k (.i .u64 1)))]),
 qr 15 (.bld [(.b false), (.l 1 []), (.l 1 [])] [(2, 1, (.t 14))]),
 qr 5 (.al 27 [(.b false), (.l 1 []), (.l 1 [])]),
 qn (.st 3 (.t 5) (.t 15))])
 (.seq (.seq (.reg [qm 16 0,
 qr 17 (.len (.t 16)),
 qr 18 (.mv (.k (.i .i64 0)))])
 (.blk 0
 (.loop
 (.seq (.reg [qr 19 (.bin .lss (.t 18) (.t 17))])
 (.seq (.cond (.t 19)
 (.skip)
 (.exit 0))
 (.seq (.blk 1
 (.seq (.reg [qr 20 (.idx 3 (.t 16) (.t 18)),
 qr 21 (.ld true 3 (.t 20)),
 qr 7 (.al 27 [(.b false), (.l 1 []), (.l 1 [])]),
 qn (.st 3 (.t 7) (.t 21))])
 (.reg [qr 23 (.ld true 3 (.t 5)),
 qr 24 (.ld true 3 (.t 7)),
 qr 25 (.call 40 [(1, (.t 23)), (1, (.t 24))]),
 qm 22 25,
 qr 26 (.ext (.t 22) 0),
 qr 27 (.ext (.t 22) 1),
 qn (.st 3 (.t 5) (.t 26))])))
 (.reg [qr 28 (.bin .add (.t 18) (.k (.i .i64 1))),
 qm 18 28])))))))
 (.seq (.reg [qr 29 (.ld true 3 (.t 5)),
 qn (.st 3 (.t 2) (.t 29)),
 qr 3 (.mv (.k (.i .i64 0)))])
 (.ret)))))
theorem qsum_spec (l : List (Bool × List Nat × List Nat)) (ll : l.length ≤ 1000) (h : LOk l) : AFun Tryz.prog J0 48 [.l 3 (RC l)] (.t [sumV l, .i .i64 (ce l)]) := by
  have h1 := qchecks_spec l (by omega) (fun p hp => ⟨(h p hp).2.1, by have := (h p hp).2.2.2; omega⟩)
  unfold sumV
  rcases ce_01 l with hc | hc
  · have ok := sum_ok h hc
    have nz : ∀ i, i < l.length → nv B (l.getD i nul3).2.2 ≠ 0 := fun i hi => ce_0 hc hi
    rw [if_neg (by rw [hc]; decide), hc]
    rw [hc] at h1
    have o1 := (natOf_spec 1 (by decide)).frozen
    have hz := RC_len l
    have hd : l.length * 3 / 3 = l.length := by omega
    have z0 : (sumZ l 0).1 = 0 := rfl
    have d0 : (sumZ l 0).2 = 1 := rfl
    have step : ∀ i, i < l.length → AFun Tryz.prog J0 40 [rN (sumZ l i).1 (sumZ l i).2, rL (l.getD i nul3).1 (l.getD i nul3).2.1 (l.getD i nul3).2.2] (.t [rN (sumZ l (i + 1)).1 (sumZ l (i + 1)).2, .i .i64 0]) := fun i hi => by
      obtain ⟨k1, k2, k3⟩ := ok i (by omega)
      obtain ⟨wa, wd, la, ld⟩ := h _ (getD_mem hi)
      have := qadd_spec (decide ((sumZ l i).1 < 0)) (l.getD i nul3).1 (dg B (sumZ l i).1.natAbs) (l.getD i nul3).2.1 (dg B (sumZ l i).2) (l.getD i nul3).2.2 (13 * i + 13) (by omega) (Wd_dg _) wa (Wd_dg _) wd (dlen (pup k1 (by omega))) (by omega) (dlen (pup k2 (by omega))) (by omega)
      rw [zv_N, nv_dgB, rv_p _ (Nat.mul_ne_zero k3 (nz i hi)), re_p (Nat.mul_ne_zero k3 (nz i hi))] at this
      exact this
    clear ok
    generalize hzs : (fun i => (sumZ l i).1) = zs at *
    generalize hds : (fun i => (sumZ l i).2) = ds at *
    have ez : ∀ i, (sumZ l i).1 = zs i := fun i => by rw [← hzs]
    have ed : ∀ i, (sumZ l i).2 = ds i := fun i => by rw [← hds]
    simp only [ez, ed] at z0 d0 step ⊢
    clear ez ed hzs hds
    refine mkcQ fol J0s Tryz.func48 a48 [.c 2 true 3, .t 3] ?_
    unfold a48
    simp only [init_eq, initE, qm, qr, qn]
    refine wkQ (ai @hd (ai @hz @bz_Q19)) ?_
    refine vm_loopA [] Nat (fun i => ⟨[(2, .pt 0 0), (5, .pt 1 0), (16, .l 3 (RC l)), (17, .i .i64 (l.length : Int)), (18, .i .i64 (i : Int))],
        [(0, some ⟨27, 3, [.b false, .l 1 [], .l 1 []], true, true⟩),
         (1, some ⟨27, 3, [.b (decide (zs i < 0)), .l 1 (W (dg B (zs i).natAbs)), .l 1 (W (dg B (ds i)))], true, true⟩)], 2⟩)
      (fun i => i ≤ l.length) (fun i => l.length - i) 0 (Nat.zero_le _) (by exact leQ) (by
      rw [z0, d0]
      exact ltQ) ?_
    intro i hi Q' hQ he hr
    by_cases h2 : (i : Int) < (l.length : Int)
    · have row := RC_row l i (by omega)
      have hs := step i (by omega)
      clear step
      generalize l.getD i nul3 = x at *
      refine wkQ (ai @row (ai @hz (ai @h2 @bz_Q19))) ?_
      refine hQ _ (i + 1) (by omega) (by omega) ?_
      exact ltQ
    · obtain rfl : i = l.length := by omega
      refine spQ (ai @h2 @bz_Q19) ?_
      refine he _ _ ?_
      refine spQ @bz_Q19 ?_
      exact rcQ @bz_Q19
  · rw [if_pos hc, hc]
    rw [hc] at h1
    refine mkcQ fol J0s Tryz.func48 a48 [.c 2 true 3, .t 3] ?_
    unfold a48
    simp only [init_eq, initE, qm, qr, qn]
    exact wcQ @bz_Q19
-- surd/surdref08.Sum
def a62 : AC := .seq (.reg [qr 2 (.al 27 [(.b false), (.l 1 []), (.l 1 [])]),
 qr 3 (.mv (.k (.i .i64 0)))])
 (.seq (.seq (.reg [qr 4 (.mv (.k (.i .i64 0)))])
 (.blk 0
 (.loop
 (.seq (.seq (.reg [qm 7 4,
 qm 8 0,
 qr 9 (.len (.t 8)),
 qr 10 (.bin .lss (.t 7) (.t 9))])
 (.cond (.t 10)
 (.skip)
 (.exit 0)))
 (.seq (.blk 1
 (.seq (.reg [qm 13 0,
 qm 14 4,
 qr 15 (.idx 3 (.t 13) (.t 14)),
 qr 16 (.ld true 3 (.t 15)),
 qr 17 (.call 11 [(1, (.t 16))]),
 qr 18 (.un .not (.t 17))])
 (.cond (.t 18)
 (.seq (.reg [qr 19 (.bld [(.b false), (.l 1 []), (.l 1 [])] []),
 qn (.st 3 (.t 2) (.t 19)),
 qr 3 (.mv (.k (.i .i64 1)))])
 (.ret))
 (.skip))))
 (.reg [qm 11 4,
 qr 12 (.bin .add (.t 11) (.k (.i .i64 1))),
 qm 4 12]))))))
 (.seq (.reg [qr 20 (.call 19 [(1, (.k (.i .i64 0))), (1, (.k (.i .i64 1)))]),
 qr 5 (.al 27 [(.b false), (.l 1 []), (.l 1 [])]),
 qn (.st 3 (.t 5) (.t 20))])
 (.seq (.seq (.reg [qr 6 (.mv (.k (.i .i64 0)))])
 (.blk 2
 (.loop
 (.seq (.seq (.reg [qm 21 6,
 qm 22 0,
 qr 23 (.len (.t 22)),
 qr 24 (.bin .lss (.t 21) (.t 23))])
 (.cond (.t 24)
 (.skip)
 (.exit 2)))
 (.seq (.blk 3
 (.dreg [qr 27 (.ld true 3 (.t 5)),
 qm 28 0,
 qm 29 6,
 qr 30 (.idx 3 (.t 28) (.t 29)),
 qr 31 (.ld true 3 (.t 30)),
 qr 32 (.call 114 [(1, (.t 27)), (1, (.t 31))]),
 qn (.st 3 (.t 5) (.t 32))]))
 (.reg [qm 25 6,
 qr 26 (.bin .add (.t 25) (.k (.i .i64 1))),
 qm 6 26]))))))
 (.seq (.reg [qr 33 (.ld true 3 (.t 5)),
 qn (.st 3 (.t 2) (.t 33)),
 qr 3 (.mv (.k (.i .i64 0)))])
 (.ret)))))
theorem rsum_spec (l : List (Bool × List Nat × List Nat)) (ll : l.length ≤ 1000) (h : LOk l) : AFun Tryz.prog J0 62 [.l 3 (RC l)] (.t [sumV l, .i .i64 (ce l)]) := by
  have hz := RC_len l
  have hd : l.length * 3 / 3 = l.length := by omega
  have hok : ∀ i, i < l.length → AFun Tryz.prog J0 11 [rL (l.getD i nul3).1 (l.getD i nul3).2.1 (l.getD i nul3).2.2] (.b (!decide (nv B (l.getD i nul3).2.2 = 0))) := fun i hi => by
    obtain ⟨wa, wd, la, ld⟩ := h _ (getD_mem hi)
    exact rOk_spec _ _ _ wd (by omega)
  unfold sumV
  rcases ce_01 l with hc | hc
  · have ok := sum_ok h hc
    have nz : ∀ i, i < l.length → nv B (l.getD i nul3).2.2 ≠ 0 := fun i hi => ce_0 hc hi
    rw [if_neg (by rw [hc]; decide), hc]
    have z0 : (sumZ l 0).1 = 0 := rfl
    have d0 : (sumZ l 0).2 = 1 := rfl
    have step : ∀ i, i < l.length → AFun Tryz.prog J0 114 [rN (sumZ l i).1 (sumZ l i).2, rL (l.getD i nul3).1 (l.getD i nul3).2.1 (l.getD i nul3).2.2] (rN (sumZ l (i + 1)).1 (sumZ l (i + 1)).2) := fun i hi => by
      obtain ⟨k1, k2, k3⟩ := ok i (by omega)
      obtain ⟨wa, wd, la, ld⟩ := h _ (getD_mem hi)
      have := rPlus_spec (decide ((sumZ l i).1 < 0)) (l.getD i nul3).1 (dg B (sumZ l i).1.natAbs) (l.getD i nul3).2.1 (dg B (sumZ l i).2) (l.getD i nul3).2.2 (13 * i + 13) (by omega) (Wd_dg _) wa (Wd_dg _) wd (dlen (pup k1 (by omega))) (by omega) (dlen (pup k2 (by omega))) (by omega) (by rw [nv_dgB]; exact Nat.mul_ne_zero k3 (nz i hi))
      rw [zv_N, nv_dgB] at this
      exact this
    have p1 := rP_spec 0 1 (by decide) (by decide) (by decide) (by decide)
    rw [show rz 0 ((1 : Nat)) = 0 from rfl, show rden 0 ((1 : Nat)) = 1 from rfl] at p1
    clear ok
    generalize hzs : (fun i => (sumZ l i).1) = zs at *
    generalize hds : (fun i => (sumZ l i).2) = ds at *
    have ez : ∀ i, (sumZ l i).1 = zs i := fun i => by rw [← hzs]
    have ed : ∀ i, (sumZ l i).2 = ds i := fun i => by rw [← hds]
    simp only [ez, ed] at z0 d0 step ⊢
    clear ez ed hzs hds
    refine mkcQ fol J0s Tryz.func62 a62 [.c 2 true 3, .t 3] ?_
    unfold a62
    simp only [init_eq, initE, qm, qr, qn]
    refine spQ (ai @hd (ai @hz @bz_Q19)) ?_
    refine vm_loopA [] Nat (fun i => ⟨[(0, .l 3 (RC l)), (2, .pt 0 0), (4, .i .i64 (i : Int))], [(0, some ⟨27, 3, [.b false, .l 1 [], .l 1 []], true, true⟩)], 1⟩)
      (fun i => i ≤ l.length) (fun i => l.length - i) 0 (Nat.zero_le _) (by exact leQ) (by
      exact ltQ) ?_
    intro i hi Q' hQ he hr
    by_cases h2 : (i : Int) < (l.length : Int)
    · have row := RC_row l i (by omega)
      have hs := hok i (by omega)
      rw [decide_eq_false (nz i (by omega))] at hs
      clear step hok nz
      generalize l.getD i nul3 = x at *
      refine wkQ (ai @row (ai @hd (ai @hz (ai @h2 @bz_Q19)))) ?_
      refine hQ _ (i + 1) (by omega) (by omega) ?_
      exact ltQ
    · obtain rfl : i = l.length := by omega
      refine spQ (ai @hd (ai @hz (ai @h2 @bz_Q19))) ?_
      refine he _ _ ?_
      refine wkQ @bz_Q19 ?_
      refine vm_loopA [] Nat (fun i => ⟨[(0, .l 3 (RC l)), (2, .pt 0 0), (5, .pt 1 0), (6, .i .i64 (i : Int))],
          [(0, some ⟨27, 3, [.b false, .l 1 [], .l 1 []], true, true⟩),
           (1, some ⟨27, 3, [.b (decide (zs i < 0)), .l 1 (W (dg B (zs i).natAbs)), .l 1 (W (dg B (ds i)))], true, true⟩)], 2⟩)
        (fun i => i ≤ l.length) (fun i => l.length - i) 0 (Nat.zero_le _) (by exact leQ) (by
        rw [z0, d0]
        exact ltQ) ?_
      intro i hi Q2 hQ2 he2 hr2
      by_cases h3 : (i : Int) < (l.length : Int)
      · have row := RC_row l i (by omega)
        have hs := step i (by omega)
        clear step hok nz
        generalize l.getD i nul3 = x at *
        refine wkQ (ai @row (ai @hd (ai @hz (ai @h3 @bz_Q19)))) ?_
        refine hQ2 _ (i + 1) (by omega) (by omega) ?_
        exact ltQ
      · obtain rfl : i = l.length := by omega
        refine spQ (ai @hd (ai @hz (ai @h3 @bz_Q19))) ?_
        refine he2 _ _ ?_
        refine spQ @bz_Q19 ?_
        exact rcQ @bz_Q19
  · rw [if_pos hc, hc]
    obtain ⟨j, hj, hj0, hjl⟩ := ce_1 hc
    refine mkcQ fol J0s Tryz.func62 a62 [.c 2 true 3, .t 3] ?_
    unfold a62
    simp only [init_eq, initE, qm, qr, qn]
    refine spQ (ai @hd (ai @hz @bz_Q19)) ?_
    refine vm_loopA [] Nat (fun i => ⟨[(0, .l 3 (RC l)), (2, .pt 0 0), (4, .i .i64 (i : Int))], [(0, some ⟨27, 3, [.b false, .l 1 [], .l 1 []], true, true⟩)], 1⟩)
      (fun i => i ≤ j) (fun i => l.length - i) 0 (Nat.zero_le _) (by exact leQ) (by
      exact ltQ) ?_
    intro i hi Q' hQ he hr
    have h2 : (i : Int) < (l.length : Int) := by omega
    have row := RC_row l i (by omega)
    have hs := hok i (by omega)
    by_cases hij : i = j
    · subst hij
      rw [decide_eq_true hj0] at hs
      clear hok hjl hj0
      generalize l.getD i nul3 = x at *
      refine wkQ (ai @row (ai @hd (ai @hz (ai @h2 @bz_Q19)))) ?_
      refine hr _ ?_
      refine spQ @bz_Q19 ?_
      exact rcQ @bz_Q19
    · rw [decide_eq_false (hjl i (by omega))] at hs
      clear hok hjl
      generalize l.getD i nul3 = x at *
      refine wkQ (ai @row (ai @hd (ai @hz (ai @h2 @bz_Q19)))) ?_
      refine hQ _ (i + 1) (by omega) (by omega) ?_
      exact ltQ
/-- an exponent that is small, or out of range -/
def pw (n : Int) : Int := if 120 < n ∧ n ≤ 4096 ∨ n < -120 ∧ -4096 ≤ n then n.tmod 120 else n
-- surd/surdlaw08.power
def a60 : AC := .seq (.reg [qr 2 (.mv (.k (.i .i64 0)))])
 (.seq (.seq (.reg [qm 3 0,
 qr 4 (.bin .gtr (.t 3) (.k (.i .i64 120))),
 qm 5 4,
 ⟨some 6, some (5, true), .mv (.t 0)⟩,
 ⟨some 7, some (5, true), .bin .leq (.t 6) (.k (.i .i64 4096))⟩,
 qr 8 (.pick (.t 5) (.t 7) (.k (.b false))),
 qm 9 8,
 ⟨some 10, some (9, false), .mv (.t 0)⟩,
 ⟨some 11, some (9, false), .bin .lss (.t 10) (.k (.i .i64 (-120)))⟩,
 ⟨some 12, some (9, false), .mv (.t 11)⟩,
 ⟨some 13, some (12, true), .mv (.t 0)⟩,
 ⟨some 14, some (12, true), .bin .geq (.t 13) (.k (.i .i64 (-4096)))⟩,
 ⟨some 15, some (9, false), .pick (.t 12) (.t 14) (.k (.b false))⟩,
 qr 16 (.pick (.t 9) (.k (.b true)) (.t 15))])
 (.cond (.t 16)
 (.seq (.reg [qm 17 0,
 qr 18 (.bin .rem (.t 17) (.k (.i .i64 120))),
 qm 2 18])
 (.ret))
 (.skip)))
 (.seq (.reg [qm 19 0,
 qm 2 19])
 (.ret)))
theorem lpower_spec (n : Int) (h1 : -9223372036854775808 ≤ n) (h2 : n < 9223372036854775808) : AFun Tryz.prog J0 60 [.i .i64 n] (.i .i64 (pw n)) := by
  have hm : (n.tmod 120).natAbs ≤ 120 := by rw [Int.natAbs_tmod]; exact Nat.le_of_lt (Nat.mod_lt _ (by decide))
  have w : IntKind.i64.wrap (n.tmod 120) = n.tmod 120 := wi (by omega)
  by_cases a1 : 120 < n
  · by_cases a2 : n ≤ 4096
    · rw [show pw n = n.tmod 120 from if_pos (.inl ⟨a1, a2⟩)]
      refine mkQ fol J0s Tryz.func60 a60 ?_
      unfold a60
      simp only [init_eq, initE, qm, qr, qn]
      refine spQ (ai @w (ai @a2 (ai @a1 @bz_Q19))) ?_
      exact rtQ @bz_Q19
    · rw [show pw n = n from if_neg (by omega)]
      have a3 : ¬ n < -120 := by omega
      refine mkQ fol J0s Tryz.func60 a60 ?_
      unfold a60
      simp only [init_eq, initE, qm, qr, qn]
      refine spQ (ai @a3 (ai @a2 (ai @a1 @bz_Q19))) ?_
      exact rtQ @bz_Q19
  · by_cases a3 : n < -120
    · by_cases a4 : -4096 ≤ n
      · rw [show pw n = n.tmod 120 from if_pos (.inr ⟨a3, a4⟩)]
        refine mkQ fol J0s Tryz.func60 a60 ?_
        unfold a60
        simp only [init_eq, initE, qm, qr, qn]
        refine spQ (ai @w (ai @a4 (ai @a3 (ai @a1 @bz_Q19)))) ?_
        exact rtQ @bz_Q19
      · rw [show pw n = n from if_neg (by omega)]
        refine mkQ fol J0s Tryz.func60 a60 ?_
        unfold a60
        simp only [init_eq, initE, qm, qr, qn]
        refine spQ (ai @a4 (ai @a3 (ai @a1 @bz_Q19))) ?_
        exact rtQ @bz_Q19
    · rw [show pw n = n from if_neg (by omega)]
      refine mkQ fol J0s Tryz.func60 a60 ?_
      unfold a60
      simp only [init_eq, initE, qm, qr, qn]
      refine spQ (ai @a3 (ai @a1 @bz_Q19)) ?_
      exact rtQ @bz_Q19
theorem pw_small (n : Int) : (pw n < -4096 ∨ 4096 < pw n) ∨ (pw n).natAbs ≤ 120 := by
  unfold pw
  split
  · right
    rw [Int.natAbs_tmod]; exact Nat.le_of_lt (Nat.mod_lt _ (by decide))
  · omega
end Go.Proofs.YtlhadigkmlldeaaGreatDoor
