/-
  The texts Q9, Q10, Q11, Q12, Q13.
-/
import Derived.Test.YtgejbndgakgfnaaGreatDoorP1
import Derived.Test.YtgejbndgakgfnaaGreatDoorGG
import Derived.Test.YtgejbndgakgfnaaGreatDoorDG
import Derived.Test.YtgejbndgakgfnaaGreatDoorRTA
import Derived.Test.YtgejbndgakgfnaaGreatDoorQB
namespace Go.Proofs.YtgejbndgakgfnaaGreatDoor
open Go Go.RowKit Ab
set_option linter.unusedSimpArgs false
set_option linter.unusedVariables false
set_option maxHeartbeats 10000000
end Go.Proofs.YtgejbndgakgfnaaGreatDoor
namespace Go.Proofs.YtgejbndgakgfnaaGreatDoor
open Go Go.RowKit Ab
set_option linter.unusedSimpArgs false
set_option linter.unusedVariables false
set_option maxHeartbeats 10000000
def a32 : AC := .seq (.reg [qr 1 (.bx 27 (.t 0)),
 qr 2 (.mv (.k (.s []))),
 qr 3 (.mv (.k (.i .i64 0)))])
 (.seq (.reg [qr 7 (.ld true 3 (.t 1)),
 qr 8 (.call 10 [(1, (.t 7))]),
 qm 6 8,
 qr 9 (.ext (.t 6) 0),
 qr 10 (.ext (.t 6) 1),
 qn (.st 3 (.t 1) (.t 9)),
 qm 4 10])
 (.seq (.seq (.reg [qm 11 4,
 qr 12 (.bin .neq (.t 11) (.k (.i .i64 0)))])
 (.cond (.t 12)
 (.seq (.reg [qm 13 4,
 qr 2 (.mv (.k (.s []))),
 qm 3 13])
 (.ret))
 (.skip)))
 (.seq (.reg [qr 14 (.fad 0 (.t 1)),
 qr 15 (.ld true 2 (.t 14)),
 qr 16 (.call 51 [(1, (.t 15))]),
 qm 5 16])
 (.seq (.seq (.reg [qr 17 (.fad 2 (.t 1)),
 qr 18 (.ld false 1 (.t 17)),
 qr 19 (.call 41 [(1, (.t 18))]),
 qr 20 (.bin .gtr (.t 19) (.k (.i .i64 1)))])
 (.cond (.t 20)
 (.reg [qm 21 5,
 qr 22 (.fad 2 (.t 1)),
 qr 23 (.ld false 1 (.t 22)),
 qr 24 (.call 52 [(1, (.t 23))]),
 qr 25 (.bin .add (.k (.s [47])) (.t 24)),
 qr 26 (.bin .add (.t 21) (.t 25)),
 qm 5 26])
 (.skip)))
 (.seq (.reg [qm 27 5,
 qm 2 27,
 qr 3 (.mv (.k (.i .i64 0)))])
 (.ret))))))
end Go.Proofs.YtgejbndgakgfnaaGreatDoor
namespace Go.Proofs.YtgejbndgakgfnaaGreatDoor
open Go Go.RowKit Ab
set_option linter.unusedSimpArgs false
set_option linter.unusedVariables false
set_option maxHeartbeats 10000000
theorem bz_Q11 : type_of% (And.intro @W_len (And.intro @D_len (And.intro @Nat.div_one (And.intro @Nat.mul_one (And.intro @tn_nat (And.intro @W_nf (And.intro @D_nf (And.intro @W_nil (And.intro @D_nil (And.intro @wi (And.intro @nf_g (And.intro @Bool.false_and (@W_cell))))))))))))) := And.intro @W_len (And.intro @D_len (And.intro @Nat.div_one (And.intro @Nat.mul_one (And.intro @tn_nat (And.intro @W_nf (And.intro @D_nf (And.intro @W_nil (And.intro @D_nil (And.intro @wi (And.intro @nf_g (And.intro @Bool.false_and (@W_cell))))))))))))
def a11 : AC := .seq (.reg [qr 2 (.bx 27 (.t 0)),
 qr 3 (.bx 27 (.t 1)),
 qr 4 (.al 27 [(.b false), (.l 1 []), (.l 1 [])]),
 qr 5 (.mv (.k (.i .i64 0)))])
 (.seq (.seq (.reg [qr 7 (.ld true 3 (.t 2)),
 qr 8 (.ld true 3 (.t 3)),
 qr 9 (.bsl 27 3 2 [(.b false), (.l 1 []), (.l 1 []), (.b false), (.l 1 []), (.l 1 [])] [(0, (.t 7)), (1, (.t 8))]),
 qr 10 (.call 19 [(3, (.t 9))]),
 qm 6 10])
 (.seq (.reg [qm 11 6,
 qr 12 (.bin .neq (.t 11) (.k (.i .i64 0)))])
 (.cond (.t 12)
 (.seq (.reg [qr 13 (.bld [(.b false), (.l 1 []), (.l 1 [])] []),
 qm 14 6,
 qn (.st 3 (.t 4) (.t 13)),
 qm 5 14])
 (.ret))
 (.skip))))
 (.seq (.dreg [qr 15 (.fad 0 (.t 2)),
 qr 16 (.ld true 2 (.t 15)),
 qr 17 (.fad 2 (.t 3)),
 qr 18 (.ld false 1 (.t 17)),
 qr 19 (.call 26 [(1, (.t 16)), (1, (.t 18))]),
 qr 20 (.fad 0 (.t 3)),
 qr 21 (.ld true 2 (.t 20)),
 qr 22 (.fad 2 (.t 2)),
 qr 23 (.ld false 1 (.t 22)),
 qr 24 (.call 26 [(1, (.t 21)), (1, (.t 23))]),
 qr 25 (.call 25 [(1, (.t 19)), (1, (.t 24))]),
 qr 26 (.fad 2 (.t 2)),
 qr 27 (.ld false 1 (.t 26)),
 qr 28 (.fad 2 (.t 3)),
 qr 29 (.ld false 1 (.t 28)),
 qr 30 (.call 27 [(1, (.t 27)), (1, (.t 29))]),
 qr 31 (.call 24 [(1, (.t 25)), (1, (.t 30))]),
 qn (.st 3 (.t 4) (.t 31)),
 qr 5 (.mv (.k (.i .i64 0)))])
 (.ret)))
theorem qadd_spec (s t : Bool) (a b d e : List Nat) (m : Nat) (hm : m ≤ 10000000) (ha : Wd a) (hb : Wd b) (hd : Wd d) (he : Wd e) (la : a.length ≤ m) (lb : b.length ≤ m) (ld : d.length ≤ m) (le : e.length ≤ m) :
    AFun Tryz.prog J0 11 [rL s a d, rL t b e] (.t [rv (zv s a * (nv B e : Int) + zv t b * (nv B d : Int)) (nv B d * nv B e), .i .i64 (re (nv B d * nv B e))]) := by
  have h1 := qchecks2 s t a b d e hd he (by omega) (by omega)
  by_cases h : nv B d * nv B e = 0
  · rw [h, rv_0, re_0]
    rw [h, re_0] at h1
    refine mkcQ fol J0s Tryz.func11 a11 [.c 4 true 3, .t 5] ?_
    unfold a11
    simp only [init_eq, initE, qm, qr, qn]
    exact wcQ @bz_Q11
  · rw [rv_p _ h, re_p h]
    rw [re_p h] at h1
    have h2 := qtimes_spec s a e ha he (by omega) (by omega)
    have h3 := qtimes_spec t b d hb hd (by omega) (by omega)
    have b1 : (zv s a * (nv B e : Int)).natAbs < B ^ (m + m) := by rw [Int.natAbs_mul, Nat.pow_add]; exact Nat.mul_lt_mul'' (zv_lt ha la) (nvlt he le)
    have b2 : (zv t b * (nv B d : Int)).natAbs < B ^ (m + m) := by rw [Int.natAbs_mul, Nat.pow_add]; exact Nat.mul_lt_mul'' (zv_lt hb lb) (nvlt hd ld)
    have b3 : nv B d * nv B e < B ^ (m + m) := by rw [Nat.pow_add]; exact Nat.mul_lt_mul'' (nvlt hd ld) (nvlt he le)
    have h5 := mul_spec d e hd he (by omega) (by omega)
    generalize zv s a * (nv B e : Int) = x at *
    generalize zv t b * (nv B d : Int) = y at *
    generalize nv B d * nv B e = w at *
    have h4 := zaddN b1 b2 (by omega)
    have b4 : (x + y).natAbs < B ^ (m + m + 1) := Nat.lt_of_le_of_lt (Int.natAbs_add_le _ _) (padd b1 b2)
    have h6 := qred_spec (decide (x + y < 0)) (dg B (x + y).natAbs) (dg B w) (m + m + 1) (by omega) (Wd_dg _) (Wd_dg _) (dlen b4) (dlen (pup b3 (by omega))) (by rw [nv_dgB]; exact h)
    rw [zv_N, nv_dgB] at h6
    generalize rz (x + y) w = u at *
    generalize rden (x + y) w = v at *
    generalize x + y = xy at *
    refine mkcQ fol J0s Tryz.func11 a11 [.c 4 true 3, .t 5] ?_
    unfold a11
    simp only [init_eq, initE, qm, qr, qn]
    exact wcQ @bz_Q11
def a12 : AC := .seq (.reg [qr 2 (.bx 27 (.t 0)),
 qr 3 (.bx 27 (.t 1)),
 qr 4 (.al 27 [(.b false), (.l 1 []), (.l 1 [])]),
 qr 5 (.mv (.k (.i .i64 0)))])
 (.seq (.reg [qr 6 (.fad 0 (.t 3)),
 qr 7 (.ld true 2 (.t 6)),
 qr 8 (.call 28 [(1, (.t 7))]),
 qr 9 (.fad 0 (.t 3)),
 qn (.st 2 (.t 9) (.t 8))])
 (.seq (.reg [qr 10 (.ld true 3 (.t 2)),
 qr 11 (.ld true 3 (.t 3)),
 qr 12 (.call 11 [(1, (.t 10)), (1, (.t 11))]),
 qr 13 (.ext (.t 12) 0),
 qr 14 (.ext (.t 12) 1),
 qn (.st 3 (.t 4) (.t 13)),
 qm 5 14])
 (.ret)))
theorem qsub_spec (s t : Bool) (a b d e : List Nat) (m : Nat) (hm : m ≤ 10000000) (ha : Wd a) (hb : Wd b) (hd : Wd d) (he : Wd e) (la : a.length ≤ m) (lb : b.length ≤ m) (ld : d.length ≤ m) (le : e.length ≤ m) :
    AFun Tryz.prog J0 12 [rL s a d, rL t b e] (.t [rv (zv s a * (nv B e : Int) - zv t b * (nv B d : Int)) (nv B d * nv B e), .i .i64 (re (nv B d * nv B e))]) := by
  have h1 := zneg_spec t b hb (by omega)
  have bb : (-(zv t b)).natAbs < B ^ m := by rw [Int.natAbs_neg]; exact zv_lt hb lb
  have h2 := qadd_spec s (decide (-(zv t b) < 0)) a (dg B (-(zv t b)).natAbs) d e m hm ha (Wd_dg _) hd he la (dlen bb) ld le
  have b1 : (zv s a * (nv B e : Int) - zv t b * (nv B d : Int)).natAbs < B ^ (m + m + 1) := by
    refine Nat.lt_of_le_of_lt (Int.natAbs_sub_le _ _) (padd ?_ ?_)
    · rw [Int.natAbs_mul, Nat.pow_add]; exact Nat.mul_lt_mul'' (zv_lt ha la) (nvlt he le)
    · rw [Int.natAbs_mul, Nat.pow_add]; exact Nat.mul_lt_mul'' (zv_lt hb lb) (nvlt hd ld)
  have b3 : nv B d * nv B e < B ^ (m + m + 1) := pup (by rw [Nat.pow_add]; exact Nat.mul_lt_mul'' (nvlt hd ld) (nvlt he le) : nv B d * nv B e < B ^ (m + m)) (by omega)
  rw [zv_N, Int.neg_mul, ← Int.sub_eq_add_neg] at h2
  obtain ⟨s', a', d', ev, _⟩ := RV_rv b1 b3
  rw [ev] at h2 ⊢
  generalize -(zv t b) = nb at *
  generalize re (nv B d * nv B e) = er at *
  refine mkcQ fol J0s Tryz.func12 a12 [.c 4 true 3, .t 5] ?_
  unfold a12
  simp only [init_eq, initE, qm, qr, qn]
  exact wcQ @bz_Q11
def a13 : AC := .seq (.reg [qr 2 (.bx 27 (.t 0)),
 qr 3 (.bx 27 (.t 1)),
 qr 4 (.al 27 [(.b false), (.l 1 []), (.l 1 [])]),
 qr 5 (.mv (.k (.i .i64 0)))])
 (.seq (.seq (.reg [qr 7 (.ld true 3 (.t 2)),
 qr 8 (.ld true 3 (.t 3)),
 qr 9 (.bsl 27 3 2 [(.b false), (.l 1 []), (.l 1 []), (.b false), (.l 1 []), (.l 1 [])] [(0, (.t 7)), (1, (.t 8))]),
 qr 10 (.call 19 [(3, (.t 9))]),
 qm 6 10])
 (.seq (.reg [qm 11 6,
 qr 12 (.bin .neq (.t 11) (.k (.i .i64 0)))])
 (.cond (.t 12)
 (.seq (.reg [qr 13 (.bld [(.b false), (.l 1 []), (.l 1 [])] []),
 qm 14 6,
 qn (.st 3 (.t 4) (.t 13)),
 qm 5 14])
 (.ret))
 (.skip))))
 (.seq (.dreg [qr 15 (.fad 0 (.t 2)),
 qr 16 (.ld true 2 (.t 15)),
 qr 17 (.fad 0 (.t 3)),
 qr 18 (.ld true 2 (.t 17)),
 qr 19 (.call 29 [(1, (.t 16)), (1, (.t 18))]),
 qr 20 (.fad 2 (.t 2)),
 qr 21 (.ld false 1 (.t 20)),
 qr 22 (.fad 2 (.t 3)),
 qr 23 (.ld false 1 (.t 22)),
 qr 24 (.call 27 [(1, (.t 21)), (1, (.t 23))]),
 qr 25 (.call 24 [(1, (.t 19)), (1, (.t 24))]),
 qn (.st 3 (.t 4) (.t 25)),
 qr 5 (.mv (.k (.i .i64 0)))])
 (.ret)))
theorem qmul_spec (s t : Bool) (a b d e : List Nat) (m : Nat) (hm : m ≤ 10000000) (ha : Wd a) (hb : Wd b) (hd : Wd d) (he : Wd e) (la : a.length ≤ m) (lb : b.length ≤ m) (ld : d.length ≤ m) (le : e.length ≤ m) :
    AFun Tryz.prog J0 13 [rL s a d, rL t b e] (.t [rv (zv s a * zv t b) (nv B d * nv B e), .i .i64 (re (nv B d * nv B e))]) := by
  have h1 := qchecks2 s t a b d e hd he (by omega) (by omega)
  by_cases h : nv B d * nv B e = 0
  · rw [h, rv_0, re_0]
    rw [h, re_0] at h1
    refine mkcQ fol J0s Tryz.func13 a13 [.c 4 true 3, .t 5] ?_
    unfold a13
    simp only [init_eq, initE, qm, qr, qn]
    exact wcQ @bz_Q11
  · rw [rv_p _ h, re_p h]
    rw [re_p h] at h1
    have h2 := zmul_spec s t a b ha hb (by omega) (by omega)
    have h5 := mul_spec d e hd he (by omega) (by omega)
    have b1 : (zv s a * zv t b).natAbs < B ^ (m + m) := by rw [Int.natAbs_mul, Nat.pow_add]; exact Nat.mul_lt_mul'' (zv_lt ha la) (zv_lt hb lb)
    have b3 : nv B d * nv B e < B ^ (m + m) := by rw [Nat.pow_add]; exact Nat.mul_lt_mul'' (nvlt hd ld) (nvlt he le)
    generalize zv s a * zv t b = x at *
    generalize nv B d * nv B e = w at *
    have h6 := qred_spec (decide (x < 0)) (dg B x.natAbs) (dg B w) (m + m) (by omega) (Wd_dg _) (Wd_dg _) (dlen b1) (dlen b3) (by rw [nv_dgB]; exact h)
    rw [zv_N, nv_dgB] at h6
    generalize rz x w = u at *
    generalize rden x w = v at *
    refine mkcQ fol J0s Tryz.func13 a13 [.c 4 true 3, .t 5] ?_
    unfold a13
    simp only [init_eq, initE, qm, qr, qn]
    exact wcQ @bz_Q11
def a34 : AC := .seq (.reg [qr 2 (.bx 27 (.t 0)),
 qr 3 (.bx 27 (.t 1)),
 qr 4 (.al 27 [(.b false), (.l 1 []), (.l 1 [])]),
 qr 5 (.mv (.k (.i .i64 0)))])
 (.seq (.seq (.reg [qr 7 (.ld true 3 (.t 2)),
 qr 8 (.ld true 3 (.t 3)),
 qr 9 (.bsl 27 3 2 [(.b false), (.l 1 []), (.l 1 []), (.b false), (.l 1 []), (.l 1 [])] [(0, (.t 7)), (1, (.t 8))]),
 qr 10 (.call 19 [(3, (.t 9))]),
 qm 6 10])
 (.seq (.reg [qm 11 6,
 qr 12 (.bin .neq (.t 11) (.k (.i .i64 0)))])
 (.cond (.t 12)
 (.seq (.reg [qr 13 (.bld [(.b false), (.l 1 []), (.l 1 [])] []),
 qm 14 6,
 qn (.st 3 (.t 4) (.t 13)),
 qm 5 14])
 (.ret))
 (.skip))))
 (.seq (.dreg [qr 15 (.fad 0 (.t 2)),
 qr 16 (.ld true 2 (.t 15)),
 qr 17 (.fad 2 (.t 3)),
 qr 18 (.ld false 1 (.t 17)),
 qr 19 (.call 26 [(1, (.t 16)), (1, (.t 18))]),
 qr 20 (.fad 0 (.t 3)),
 qr 21 (.ld true 2 (.t 20)),
 qr 22 (.fad 2 (.t 2)),
 qr 23 (.ld false 1 (.t 22)),
 qr 24 (.call 26 [(1, (.t 21)), (1, (.t 23))]),
 qr 25 (.call 15 [(1, (.t 19)), (1, (.t 24))]),
 qr 26 (.ext (.t 25) 0),
 qr 27 (.ext (.t 25) 1),
 qn (.st 3 (.t 4) (.t 26)),
 qm 5 27])
 (.ret)))
theorem qquo_spec (s t : Bool) (a b d e : List Nat) (m : Nat) (hm : m ≤ 10000000) (ha : Wd a) (hb : Wd b) (hd : Wd d) (he : Wd e) (la : a.length ≤ m) (lb : b.length ≤ m) (ld : d.length ≤ m) (le : e.length ≤ m) (h : nv B d * nv B e ≠ 0) :
    AFun Tryz.prog J0 34 [rL s a d, rL t b e] (.t [rv (mz (zv s a * (nv B e : Int)) (zv t b * (nv B d : Int))) (zv t b * (nv B d : Int)).natAbs, .i .i64 (re (zv t b * (nv B d : Int)).natAbs)]) := by
  have h1 := qchecks2 s t a b d e hd he (by omega) (by omega)
  rw [re_p h] at h1
  have h2 := qtimes_spec s a e ha he (by omega) (by omega)
  have h3 := qtimes_spec t b d hb hd (by omega) (by omega)
  have b1 : (zv s a * (nv B e : Int)).natAbs < B ^ (m + m) := by rw [Int.natAbs_mul, Nat.pow_add]; exact Nat.mul_lt_mul'' (zv_lt ha la) (nvlt he le)
  have b2 : (zv t b * (nv B d : Int)).natAbs < B ^ (m + m) := by rw [Int.natAbs_mul, Nat.pow_add]; exact Nat.mul_lt_mul'' (zv_lt hb lb) (nvlt hd ld)
  generalize zv s a * (nv B e : Int) = x at *
  generalize zv t b * (nv B d : Int) = y at *
  have h4 := qmake_spec (decide (x < 0)) (decide (y < 0)) (dg B x.natAbs) (dg B y.natAbs) (m + m) (by omega) (Wd_dg _) (Wd_dg _) (dlen b1) (dlen b2)
  rw [zv_N, zv_N, nv_dgB] at h4
  obtain ⟨s', a', d', ev, _⟩ : RV (rv (mz x y) y.natAbs) (m + m) := RV_rv (by unfold mz; split; (rw [Int.natAbs_neg]; exact b1); exact b1) b2
  rw [ev] at h4 ⊢
  generalize re y.natAbs = er at *
  refine mkcQ fol J0s Tryz.func34 a34 [.c 4 true 3, .t 5] ?_
  unfold a34
  simp only [init_eq, initE, qm, qr, qn]
  exact wcQ @bz_Q11
end Go.Proofs.YtgejbndgakgfnaaGreatDoor
namespace Go.Proofs.YtgejbndgakgfnaaGreatDoor
open Go Go.RowKit Ab
set_option linter.unusedSimpArgs false
set_option linter.unusedVariables false
set_option maxHeartbeats 10000000
theorem bz_Q12 : type_of% (And.intro @W_len (And.intro @D_len (And.intro @Nat.div_one (And.intro @Nat.mul_one (And.intro @tn_nat (And.intro @W_nf (And.intro @D_nf (And.intro @W_nil (And.intro @D_nil (And.intro @wi (And.intro @nf_g (And.intro @Bool.false_and (@W_cell))))))))))))) := And.intro @W_len (And.intro @D_len (And.intro @Nat.div_one (And.intro @Nat.mul_one (And.intro @tn_nat (And.intro @W_nf (And.intro @D_nf (And.intro @W_nil (And.intro @D_nil (And.intro @wi (And.intro @nf_g (And.intro @Bool.false_and (@W_cell))))))))))))
def a75 : AC := .seq (.reg [qr 2 (.bx 27 (.t 0)),
 qr 4 (.al 25 [(.b false), (.l 1 [])]),
 qr 5 (.mv (.k (.i .i64 0)))])
 (.seq (.seq (.reg [qr 9 (.ld true 3 (.t 2)),
 qr 10 (.call 23 [(1, (.t 9))]),
 qm 6 10])
 (.seq (.reg [qm 11 6,
 qr 12 (.bin .neq (.t 11) (.k (.i .i64 0)))])
 (.cond (.t 12)
 (.seq (.reg [qr 13 (.bld [(.b false), (.l 1 [])] []),
 qm 14 6,
 qn (.st 2 (.t 4) (.t 13)),
 qm 5 14])
 (.ret))
 (.skip))))
 (.seq (.seq (.reg [qm 15 1,
 qr 16 (.bin .lss (.t 15) (.k (.i .i64 (-1048576)))),
 qm 17 16,
 ⟨some 18, some (17, false), .mv (.t 1)⟩,
 ⟨some 19, some (17, false), .bin .gtr (.t 18) (.k (.i .i64 1048576))⟩,
 qr 20 (.pick (.t 17) (.k (.b true)) (.t 19))])
 (.cond (.t 20)
 (.seq (.reg [qr 21 (.bld [(.b false), (.l 1 [])] []),
 qn (.st 2 (.t 4) (.t 21)),
 qr 5 (.mv (.k (.i .i64 3)))])
 (.ret))
 (.skip)))
 (.seq (.dreg [qr 22 (.fad 0 (.t 2)),
 qr 23 (.ld true 2 (.t 22)),
 qr 24 (.fad 2 (.t 2)),
 qr 25 (.ld false 1 (.t 24)),
 qr 26 (.call 45 [(1, (.k (.b false))), (1, (.t 25))]),
 qr 7 (.al 25 [(.b false), (.l 1 [])]),
 qr 8 (.al 25 [(.b false), (.l 1 [])]),
 qn (.st 2 (.t 7) (.t 23)),
 qn (.st 2 (.t 8) (.t 26))])
 (.seq (.seq (.reg [qm 27 1,
 qr 28 (.bin .lss (.t 27) (.k (.i .i64 0)))])
 (.cond (.t 28)
 (.reg [qr 30 (.ld true 2 (.t 8)),
 qm 31 1,
 qr 32 (.un .neg (.t 31)),
 qr 33 (.call 96 [(1, (.t 30)), (1, (.t 32))]),
 qm 29 33,
 qr 34 (.ext (.t 29) 0),
 qr 35 (.ext (.t 29) 1),
 qn (.st 2 (.t 8) (.t 34))])
 (.reg [qr 37 (.ld true 2 (.t 7)),
 qm 38 1,
 qr 39 (.call 96 [(1, (.t 37)), (1, (.t 38))]),
 qm 36 39,
 qr 40 (.ext (.t 36) 0),
 qr 41 (.ext (.t 36) 1),
 qn (.st 2 (.t 7) (.t 40))])))
 (.seq (.reg [qr 42 (.ld true 2 (.t 7)),
 qr 43 (.ld true 2 (.t 8)),
 qr 44 (.call 97 [(1, (.t 42)), (1, (.t 43))]),
 qr 45 (.ext (.t 44) 0),
 qr 46 (.ext (.t 44) 1),
 qn (.st 2 (.t 4) (.t 45)),
 qm 5 46])
 (.ret))))))
theorem qfloor_up (s : Bool) (a d : List Nat) (k m : Nat) (hk : k ≤ 1048576) (hm : m ≤ 10000000) (hm1 : 16384 ≤ m) (ha : Wd a) (hd : Wd d) (la : a.length ≤ m) (ld : d.length ≤ m) (h0 : nv B d ≠ 0) : AFun Tryz.prog J0 75 [rL s a d, .i .i64 (k : Int)] (.t [zN ((zv s a * 2 ^ k).fdiv (nv B d : Int)), .i .i64 0]) := by
  have h1 := qcheck_spec s a d hd (by omega)
  rw [if_neg h0] at h1
  have h2 := znat_spec false d hd (by omega)
  rw [zv_f] at h2
  have h3 := zshl_spec s a (k : Int) ha (by omega)
  rw [show zlV (zv s a) (k : Int) = zv s a * 2 ^ k from if_neg (by omega), show zlE (k : Int) = 0 from if_neg (by omega)] at h3
  have hb : (zv s a * 2 ^ k).natAbs < B ^ (m + 16384) := by
    rw [Int.natAbs_mul, Int.natAbs_pow]
    exact shl_len (zv_lt ha la) hk
  generalize zv s a * 2 ^ k = z at *
  have h4 := zfloor_spec (decide (z < 0)) (decide ((nv B d : Int) < 0)) (dg B z.natAbs) (dg B ((nv B d : Int)).natAbs) (Wd_dg _) (Wd_dg _) (Nat.le_trans (dlen hb) (by omega)) (Nat.le_trans (dlen (nvlt hd ld)) (by omega))
  rw [zv_N, zv_N, show ze (nv B d : Int) = 0 from if_neg (by omega)] at h4
  have k1 : ¬ (k : Int) < -1048576 := by omega
  have k2 : ¬ (1048576 : Int) < (k : Int) := by omega
  have k3 : ¬ (k : Int) < 0 := by omega
  generalize z.fdiv (nv B d : Int) = q at *
  generalize (nv B d : Int) = dd at *
  refine mkcQ fol J0s Tryz.func75 a75 [.c 4 true 2, .t 5] ?_
  unfold a75
  simp only [init_eq, initE, qm, qr, qn]
  exact wcQ (ai @k3 (ai @k2 (ai @k1 @bz_Q12)))
def a74 : AC := .seq (.reg [qr 2 (.bx 27 (.t 0)),
 qr 4 (.al 25 [(.b false), (.l 1 [])]),
 qr 5 (.mv (.k (.i .i64 0)))])
 (.seq (.reg [qr 8 (.fad 0 (.t 2)),
 qr 9 (.ld true 2 (.t 8)),
 qr 10 (.call 28 [(1, (.t 9))]),
 qr 11 (.fad 0 (.t 2)),
 qn (.st 2 (.t 11) (.t 10))])
 (.seq (.reg [qr 13 (.ld true 3 (.t 2)),
 qm 14 1,
 qr 15 (.call 75 [(1, (.t 13)), (1, (.t 14))]),
 qm 12 15,
 qr 16 (.ext (.t 12) 0),
 qr 17 (.ext (.t 12) 1),
 qr 6 (.al 25 [(.b false), (.l 1 [])]),
 qn (.st 2 (.t 6) (.t 16)),
 qm 7 17])
 (.seq (.seq (.reg [qm 18 7,
 qr 19 (.bin .neq (.t 18) (.k (.i .i64 0)))])
 (.cond (.t 19)
 (.seq (.reg [qr 20 (.bld [(.b false), (.l 1 [])] []),
 qm 21 7,
 qn (.st 2 (.t 4) (.t 20)),
 qm 5 21])
 (.ret))
 (.skip)))
 (.seq (.reg [qr 22 (.ld true 2 (.t 6)),
 qr 23 (.call 28 [(1, (.t 22))]),
 qn (.st 2 (.t 4) (.t 23)),
 qr 5 (.mv (.k (.i .i64 0)))])
 (.ret)))))
theorem qceil_up (s : Bool) (a d : List Nat) (k m : Nat) (hk : k ≤ 1048576) (hm : m ≤ 10000000) (hm1 : 16384 ≤ m) (ha : Wd a) (hd : Wd d) (la : a.length ≤ m) (ld : d.length ≤ m) (h0 : nv B d ≠ 0) : AFun Tryz.prog J0 74 [rL s a d, .i .i64 (k : Int)] (.t [zN (-((-(zv s a) * 2 ^ k).fdiv (nv B d : Int))), .i .i64 0]) := by
  have h1 := zneg_spec s a ha (by omega)
  have bb : (-(zv s a)).natAbs < B ^ m := by rw [Int.natAbs_neg]; exact zv_lt ha la
  have h2 := qfloor_up (decide (-(zv s a) < 0)) (dg B (-(zv s a)).natAbs) d k m hk hm hm1 (Wd_dg _) hd (dlen bb) ld h0
  rw [zv_N] at h2
  have hq : ((-(zv s a) * 2 ^ k).fdiv (nv B d : Int)).natAbs < B ^ (m + 16384 + 1) := by
    have hb : (-(zv s a) * 2 ^ k).natAbs < B ^ (m + 16384) := by
      rw [Int.natAbs_mul, Int.natAbs_pow]
      exact shl_len bb hk
    generalize -(zv s a) * 2 ^ k = z at *
    have hd0 : (0 : Int) < (nv B d : Int) := by omega
    have e1 := Int.fdiv_eq_ediv_of_nonneg z (Int.le_of_lt hd0)
    rw [e1]
    exact Nat.lt_of_le_of_lt (Int.natAbs_ediv_le_natAbs z _) (pup hb (by omega))
  generalize (-(zv s a) * 2 ^ k).fdiv (nv B d : Int) = q at *
  have h3 := zneg_spec (decide (q < 0)) (dg B q.natAbs) (Wd_dg _) (Nat.le_trans (dlen hq) (by omega))
  rw [zv_N] at h3
  generalize -(zv s a) = nb at *
  refine mkcQ fol J0s Tryz.func74 a74 [.c 4 true 2, .t 5] ?_
  unfold a74
  simp only [init_eq, initE, qm, qr, qn]
  exact wcQ @bz_Q12
end Go.Proofs.YtgejbndgakgfnaaGreatDoor
namespace Go.Proofs.YtgejbndgakgfnaaGreatDoor
open Go Go.RowKit Ab
set_option linter.unusedSimpArgs false
set_option linter.unusedVariables false
set_option maxHeartbeats 10000000
end Go.Proofs.YtgejbndgakgfnaaGreatDoor
