/-
  The texts Q9, Q10, Q11, Q12, Q13.
-/
import Derived.Test.YtbkpaeejjepnpaaGreatP1
import Derived.Test.YtbkpaeejjepnpaaGreatGG
import Derived.Test.YtbkpaeejjepnpaaGreatGC
import Derived.Test.YtbkpaeejjepnpaaGreatQB
namespace Go.Proofs.YtbkpaeejjepnpaaGreat
open Go Go.RowKit Ab
set_option linter.unusedSimpArgs false
set_option linter.unusedVariables false
set_option maxHeartbeats 10000000
end Go.Proofs.YtbkpaeejjepnpaaGreat
namespace Go.Proofs.YtbkpaeejjepnpaaGreat
open Go Go.RowKit Ab
set_option linter.unusedSimpArgs false
set_option linter.unusedVariables false
set_option maxHeartbeats 10000000
end Go.Proofs.YtbkpaeejjepnpaaGreat
namespace Go.Proofs.YtbkpaeejjepnpaaGreat
open Go Go.RowKit Ab
set_option linter.unusedSimpArgs false
set_option linter.unusedVariables false
set_option maxHeartbeats 10000000
theorem bz_Q11 : type_of% (And.intro @W_len (And.intro @D_len (And.intro @Nat.div_one (And.intro @Nat.mul_one (And.intro @tn_nat (And.intro @W_nf (And.intro @D_nf (And.intro @W_nil (And.intro @D_nil (And.intro @wi (And.intro @nf_g (And.intro @Bool.false_and (@W_cell))))))))))))) := And.intro @W_len (And.intro @D_len (And.intro @Nat.div_one (And.intro @Nat.mul_one (And.intro @tn_nat (And.intro @W_nf (And.intro @D_nf (And.intro @W_nil (And.intro @D_nil (And.intro @wi (And.intro @nf_g (And.intro @Bool.false_and (@W_cell))))))))))))
def a50 : AC := .seq (.reg [qr 2 (.bx 31 (.t 0)),
 qr 3 (.bx 31 (.t 1)),
 qr 4 (.al 31 [(.b false), (.l 1 []), (.l 1 [])]),
 qr 5 (.mv (.k (.i .i64 0)))])
 (.seq (.seq (.reg [qr 7 (.ld true 3 (.t 2)),
 qr 8 (.ld true 3 (.t 3)),
 qr 9 (.bsl 31 3 2 [(.b false), (.l 1 []), (.l 1 []), (.b false), (.l 1 []), (.l 1 [])] [(0, (.t 7)), (1, (.t 8))]),
 qr 10 (.call 56 [(3, (.t 9))]),
 qm 6 10])
 (.seq (.reg [qm 11 6,
 qr 12 (.bin .neq (.t 11) (.k (.i .i64 0)))])
 (.cond (.t 12)
 (.seq (.reg [qr 13 (.bld [(.b false), (.l 1 []), (.l 1 [])] []),
 qm 14 6,
 qn (.st 3 (.t 4) (.t 13)),
 qm 5 14])
 (.ret))
 (.skip))))
 (.seq (.dreg [qr 15 (.fad 0 (.t 2)),
 qr 16 (.ld true 2 (.t 15)),
 qr 17 (.fad 2 (.t 3)),
 qr 18 (.ld false 1 (.t 17)),
 qr 19 (.call 58 [(1, (.t 16)), (1, (.t 18))]),
 qr 20 (.fad 0 (.t 3)),
 qr 21 (.ld true 2 (.t 20)),
 qr 22 (.fad 2 (.t 2)),
 qr 23 (.ld false 1 (.t 22)),
 qr 24 (.call 58 [(1, (.t 21)), (1, (.t 23))]),
 qr 25 (.call 67 [(1, (.t 19)), (1, (.t 24))]),
 qr 26 (.fad 2 (.t 2)),
 qr 27 (.ld false 1 (.t 26)),
 qr 28 (.fad 2 (.t 3)),
 qr 29 (.ld false 1 (.t 28)),
 qr 30 (.call 66 [(1, (.t 27)), (1, (.t 29))]),
 qr 31 (.call 68 [(1, (.t 25)), (1, (.t 30))]),
 qn (.st 3 (.t 4) (.t 31)),
 qr 5 (.mv (.k (.i .i64 0)))])
 (.ret)))
theorem qadd_spec (s t : Bool) (a b d e : List Nat) (m : Nat) (hm : m ≤ 49000000) (ha : Wd a) (hb : Wd b) (hd : Wd d) (he : Wd e) (la : a.length ≤ m) (lb : b.length ≤ m) (ld : d.length ≤ m) (le : e.length ≤ m) :
    AFun Tryz.prog J0 50 [rL s a d, rL t b e] (.t [rv (zv s a * (nv B e : Int) + zv t b * (nv B d : Int)) (nv B d * nv B e), .i .i64 (re (nv B d * nv B e))]) := by
  have h1 := qchecks2 s t a b d e hd he (by omega) (by omega)
  by_cases h : nv B d * nv B e = 0
  · rw [h, rv_0, re_0]
    rw [h, re_0] at h1
    refine mkcQ fol J0s Tryz.func50 a50 [.c 4 true 3, .t 5] ?_
    unfold a50
    simp only [init_eq, initE, qm, qr, qn]
    exact wcQ @bz_Q11
  · rw [rv_p _ h, re_p h]
    rw [re_p h] at h1
    have h2 := qtimes_spec s a e ha he (by omega) (by omega)
    have h3 := qtimes_spec t b d hb hd (by omega) (by omega)
    have b1 : (zv s a * (nv B e : Int)).natAbs < B ^ (m + m) := by rw [Int.natAbs_mul, Nat.pow_add]; exact Nat.mul_lt_mul'' (zv_lt ha la) (nvlt he le)
    have b2 : (zv t b * (nv B d : Int)).natAbs < B ^ (m + m) := by rw [Int.natAbs_mul, Nat.pow_add]; exact Nat.mul_lt_mul'' (zv_lt hb lb) (nvlt hd ld)
    have b3 : nv B d * nv B e < B ^ (m + m) := by rw [Nat.pow_add]; exact Nat.mul_lt_mul'' (nvlt hd ld) (nvlt he le)
    have h5 := mul_spec d e hd he (by omega) (by omega)
    generalize zv s a * (nv B e : Int) = x at *
    generalize zv t b * (nv B d : Int) = y at *
    generalize nv B d * nv B e = w at *
    have h4 := zaddN b1 b2 (by omega)
    have b4 : (x + y).natAbs < B ^ (m + m + 1) := Nat.lt_of_le_of_lt (Int.natAbs_add_le _ _) (padd b1 b2)
    have h6 := qred_spec (decide (x + y < 0)) (dg B (x + y).natAbs) (dg B w) (m + m + 1) (by omega) (Wd_dg _) (Wd_dg _) (dlen b4) (dlen (pup b3 (by omega))) (by rw [nv_dgB]; exact h)
    rw [zv_N, nv_dgB] at h6
    generalize rz (x + y) w = u at *
    generalize rden (x + y) w = v at *
    generalize x + y = xy at *
    refine mkcQ fol J0s Tryz.func50 a50 [.c 4 true 3, .t 5] ?_
    unfold a50
    simp only [init_eq, initE, qm, qr, qn]
    exact wcQ @bz_Q11
def a49 : AC := .seq (.reg [qr 2 (.bx 31 (.t 0)),
 qr 3 (.bx 31 (.t 1)),
 qr 4 (.al 31 [(.b false), (.l 1 []), (.l 1 [])]),
 qr 5 (.mv (.k (.i .i64 0)))])
 (.seq (.reg [qr 6 (.fad 0 (.t 3)),
 qr 7 (.ld true 2 (.t 6)),
 qr 8 (.call 74 [(1, (.t 7))]),
 qr 9 (.fad 0 (.t 3)),
 qn (.st 2 (.t 9) (.t 8))])
 (.seq (.reg [qr 10 (.ld true 3 (.t 2)),
 qr 11 (.ld true 3 (.t 3)),
 qr 12 (.call 50 [(1, (.t 10)), (1, (.t 11))]),
 qr 13 (.ext (.t 12) 0),
 qr 14 (.ext (.t 12) 1),
 qn (.st 3 (.t 4) (.t 13)),
 qm 5 14])
 (.ret)))
theorem qsub_spec (s t : Bool) (a b d e : List Nat) (m : Nat) (hm : m ≤ 49000000) (ha : Wd a) (hb : Wd b) (hd : Wd d) (he : Wd e) (la : a.length ≤ m) (lb : b.length ≤ m) (ld : d.length ≤ m) (le : e.length ≤ m) :
    AFun Tryz.prog J0 49 [rL s a d, rL t b e] (.t [rv (zv s a * (nv B e : Int) - zv t b * (nv B d : Int)) (nv B d * nv B e), .i .i64 (re (nv B d * nv B e))]) := by
  have h1 := zneg_spec t b hb (by omega)
  have bb : (-(zv t b)).natAbs < B ^ m := by rw [Int.natAbs_neg]; exact zv_lt hb lb
  have h2 := qadd_spec s (decide (-(zv t b) < 0)) a (dg B (-(zv t b)).natAbs) d e m hm ha (Wd_dg _) hd he la (dlen bb) ld le
  have b1 : (zv s a * (nv B e : Int) - zv t b * (nv B d : Int)).natAbs < B ^ (m + m + 1) := by
    refine Nat.lt_of_le_of_lt (Int.natAbs_sub_le _ _) (padd ?_ ?_)
    · rw [Int.natAbs_mul, Nat.pow_add]; exact Nat.mul_lt_mul'' (zv_lt ha la) (nvlt he le)
    · rw [Int.natAbs_mul, Nat.pow_add]; exact Nat.mul_lt_mul'' (zv_lt hb lb) (nvlt hd ld)
  have b3 : nv B d * nv B e < B ^ (m + m + 1) := pup (by rw [Nat.pow_add]; exact Nat.mul_lt_mul'' (nvlt hd ld) (nvlt he le) : nv B d * nv B e < B ^ (m + m)) (by omega)
  rw [zv_N, Int.neg_mul, ← Int.sub_eq_add_neg] at h2
  obtain ⟨s', a', d', ev, _⟩ := RV_rv b1 b3
  rw [ev] at h2 ⊢
  generalize -(zv t b) = nb at *
  generalize re (nv B d * nv B e) = er at *
  refine mkcQ fol J0s Tryz.func49 a49 [.c 4 true 3, .t 5] ?_
  unfold a49
  simp only [init_eq, initE, qm, qr, qn]
  exact wcQ @bz_Q11
def a44 : AC := .seq (.reg [qr 2 (.bx 31 (.t 0)),
 qr 3 (.bx 31 (.t 1)),
 qr 4 (.al 31 [(.b false), (.l 1 []), (.l 1 [])]),
 qr 5 (.mv (.k (.i .i64 0)))])
 (.seq (.seq (.reg [qr 7 (.ld true 3 (.t 2)),
 qr 8 (.ld true 3 (.t 3)),
 qr 9 (.bsl 31 3 2 [(.b false), (.l 1 []), (.l 1 []), (.b false), (.l 1 []), (.l 1 [])] [(0, (.t 7)), (1, (.t 8))]),
 qr 10 (.call 56 [(3, (.t 9))]),
 qm 6 10])
 (.seq (.reg [qm 11 6,
 qr 12 (.bin .neq (.t 11) (.k (.i .i64 0)))])
 (.cond (.t 12)
 (.seq (.reg [qr 13 (.bld [(.b false), (.l 1 []), (.l 1 [])] []),
 qm 14 6,
 qn (.st 3 (.t 4) (.t 13)),
 qm 5 14])
 (.ret))
 (.skip))))
 (.seq (.dreg [qr 15 (.fad 0 (.t 2)),
 qr 16 (.ld true 2 (.t 15)),
 qr 17 (.fad 0 (.t 3)),
 qr 18 (.ld true 2 (.t 17)),
 qr 19 (.call 34 [(1, (.t 16)), (1, (.t 18))]),
 qr 20 (.fad 2 (.t 2)),
 qr 21 (.ld false 1 (.t 20)),
 qr 22 (.fad 2 (.t 3)),
 qr 23 (.ld false 1 (.t 22)),
 qr 24 (.call 66 [(1, (.t 21)), (1, (.t 23))]),
 qr 25 (.call 68 [(1, (.t 19)), (1, (.t 24))]),
 qn (.st 3 (.t 4) (.t 25)),
 qr 5 (.mv (.k (.i .i64 0)))])
 (.ret)))
theorem qmul_spec (s t : Bool) (a b d e : List Nat) (m : Nat) (hm : m ≤ 49000000) (ha : Wd a) (hb : Wd b) (hd : Wd d) (he : Wd e) (la : a.length ≤ m) (lb : b.length ≤ m) (ld : d.length ≤ m) (le : e.length ≤ m) :
    AFun Tryz.prog J0 44 [rL s a d, rL t b e] (.t [rv (zv s a * zv t b) (nv B d * nv B e), .i .i64 (re (nv B d * nv B e))]) := by
  have h1 := qchecks2 s t a b d e hd he (by omega) (by omega)
  by_cases h : nv B d * nv B e = 0
  · rw [h, rv_0, re_0]
    rw [h, re_0] at h1
    refine mkcQ fol J0s Tryz.func44 a44 [.c 4 true 3, .t 5] ?_
    unfold a44
    simp only [init_eq, initE, qm, qr, qn]
    exact wcQ @bz_Q11
  · rw [rv_p _ h, re_p h]
    rw [re_p h] at h1
    have h2 := zmul_spec s t a b ha hb (by omega) (by omega)
    have h5 := mul_spec d e hd he (by omega) (by omega)
    have b1 : (zv s a * zv t b).natAbs < B ^ (m + m) := by rw [Int.natAbs_mul, Nat.pow_add]; exact Nat.mul_lt_mul'' (zv_lt ha la) (zv_lt hb lb)
    have b3 : nv B d * nv B e < B ^ (m + m) := by rw [Nat.pow_add]; exact Nat.mul_lt_mul'' (nvlt hd ld) (nvlt he le)
    generalize zv s a * zv t b = x at *
    generalize nv B d * nv B e = w at *
    have h6 := qred_spec (decide (x < 0)) (dg B x.natAbs) (dg B w) (m + m) (by omega) (Wd_dg _) (Wd_dg _) (dlen b1) (dlen b3) (by rw [nv_dgB]; exact h)
    rw [zv_N, nv_dgB] at h6
    generalize rz x w = u at *
    generalize rden x w = v at *
    refine mkcQ fol J0s Tryz.func44 a44 [.c 4 true 3, .t 5] ?_
    unfold a44
    simp only [init_eq, initE, qm, qr, qn]
    exact wcQ @bz_Q11
def a48 : AC := .seq (.reg [qr 2 (.bx 31 (.t 0)),
 qr 3 (.bx 31 (.t 1)),
 qr 4 (.al 31 [(.b false), (.l 1 []), (.l 1 [])]),
 qr 5 (.mv (.k (.i .i64 0)))])
 (.seq (.seq (.reg [qr 7 (.ld true 3 (.t 2)),
 qr 8 (.ld true 3 (.t 3)),
 qr 9 (.bsl 31 3 2 [(.b false), (.l 1 []), (.l 1 []), (.b false), (.l 1 []), (.l 1 [])] [(0, (.t 7)), (1, (.t 8))]),
 qr 10 (.call 56 [(3, (.t 9))]),
 qm 6 10])
 (.seq (.reg [qm 11 6,
 qr 12 (.bin .neq (.t 11) (.k (.i .i64 0)))])
 (.cond (.t 12)
 (.seq (.reg [qr 13 (.bld [(.b false), (.l 1 []), (.l 1 [])] []),
 qm 14 6,
 qn (.st 3 (.t 4) (.t 13)),
 qm 5 14])
 (.ret))
 (.skip))))
 (.seq (.dreg [qr 15 (.fad 0 (.t 2)),
 qr 16 (.ld true 2 (.t 15)),
 qr 17 (.fad 2 (.t 3)),
 qr 18 (.ld false 1 (.t 17)),
 qr 19 (.call 58 [(1, (.t 16)), (1, (.t 18))]),
 qr 20 (.fad 0 (.t 3)),
 qr 21 (.ld true 2 (.t 20)),
 qr 22 (.fad 2 (.t 2)),
 qr 23 (.ld false 1 (.t 22)),
 qr 24 (.call 58 [(1, (.t 21)), (1, (.t 23))]),
 qr 25 (.call 51 [(1, (.t 19)), (1, (.t 24))]),
 qr 26 (.ext (.t 25) 0),
 qr 27 (.ext (.t 25) 1),
 qn (.st 3 (.t 4) (.t 26)),
 qm 5 27])
 (.ret)))
theorem qquo_spec (s t : Bool) (a b d e : List Nat) (m : Nat) (hm : m ≤ 49000000) (ha : Wd a) (hb : Wd b) (hd : Wd d) (he : Wd e) (la : a.length ≤ m) (lb : b.length ≤ m) (ld : d.length ≤ m) (le : e.length ≤ m) (h : nv B d * nv B e ≠ 0) :
    AFun Tryz.prog J0 48 [rL s a d, rL t b e] (.t [rv (mz (zv s a * (nv B e : Int)) (zv t b * (nv B d : Int))) (zv t b * (nv B d : Int)).natAbs, .i .i64 (re (zv t b * (nv B d : Int)).natAbs)]) := by
  have h1 := qchecks2 s t a b d e hd he (by omega) (by omega)
  rw [re_p h] at h1
  have h2 := qtimes_spec s a e ha he (by omega) (by omega)
  have h3 := qtimes_spec t b d hb hd (by omega) (by omega)
  have b1 : (zv s a * (nv B e : Int)).natAbs < B ^ (m + m) := by rw [Int.natAbs_mul, Nat.pow_add]; exact Nat.mul_lt_mul'' (zv_lt ha la) (nvlt he le)
  have b2 : (zv t b * (nv B d : Int)).natAbs < B ^ (m + m) := by rw [Int.natAbs_mul, Nat.pow_add]; exact Nat.mul_lt_mul'' (zv_lt hb lb) (nvlt hd ld)
  generalize zv s a * (nv B e : Int) = x at *
  generalize zv t b * (nv B d : Int) = y at *
  have h4 := qmake_spec (decide (x < 0)) (decide (y < 0)) (dg B x.natAbs) (dg B y.natAbs) (m + m) (by omega) (Wd_dg _) (Wd_dg _) (dlen b1) (dlen b2)
  rw [zv_N, zv_N, nv_dgB] at h4
  obtain ⟨s', a', d', ev, _⟩ : RV (rv (mz x y) y.natAbs) (m + m) := RV_rv (by unfold mz; split; (rw [Int.natAbs_neg]; exact b1); exact b1) b2
  rw [ev] at h4 ⊢
  generalize re y.natAbs = er at *
  refine mkcQ fol J0s Tryz.func48 a48 [.c 4 true 3, .t 5] ?_
  unfold a48
  simp only [init_eq, initE, qm, qr, qn]
  exact wcQ @bz_Q11
def a77 : AC := .seq (.reg [qr 1 (.bx 31 (.t 0)),
 qr 2 (.al 31 [(.b false), (.l 1 []), (.l 1 [])]),
 qr 3 (.mv (.k (.i .i64 0)))])
 (.seq (.reg [qr 4 (.fad 0 (.t 1)),
 qr 5 (.ld true 2 (.t 4)),
 qr 6 (.call 74 [(1, (.t 5))]),
 qr 7 (.fad 0 (.t 1)),
 qn (.st 2 (.t 7) (.t 6))])
 (.seq (.reg [qr 8 (.ld true 3 (.t 1)),
 qr 9 (.call 39 [(1, (.t 8))]),
 qr 10 (.ext (.t 9) 0),
 qr 11 (.ext (.t 9) 1),
 qn (.st 3 (.t 2) (.t 10)),
 qm 3 11])
 (.ret)))
theorem qneg_spec (s : Bool) (a d : List Nat) (m : Nat) (hm : m ≤ 100000000) (ha : Wd a) (hd : Wd d) (la : a.length ≤ m) (ld : d.length ≤ m) : AFun Tryz.prog J0 77 [rL s a d] (.t [rv (-(zv s a)) (nv B d), .i .i64 (re (nv B d))]) := by
  have h1 := zneg_spec s a ha (by omega)
  have bb : (-(zv s a)).natAbs < B ^ m := by rw [Int.natAbs_neg]; exact zv_lt ha la
  have h2 := qnorm_spec (decide (-(zv s a) < 0)) (dg B (-(zv s a)).natAbs) d m hm (Wd_dg _) hd (dlen bb) ld
  rw [zv_N] at h2
  obtain ⟨s', a', d', ev, _⟩ := RV_rv bb (nvlt hd ld)
  rw [ev] at h2 ⊢
  generalize -(zv s a) = nb at *
  generalize re (nv B d) = er at *
  refine mkcQ fol J0s Tryz.func77 a77 [.c 2 true 3, .t 3] ?_
  unfold a77
  simp only [init_eq, initE, qm, qr, qn]
  exact wcQ @bz_Q11
end Go.Proofs.YtbkpaeejjepnpaaGreat
namespace Go.Proofs.YtbkpaeejjepnpaaGreat
open Go Go.RowKit Ab
set_option linter.unusedSimpArgs false
set_option linter.unusedVariables false
set_option maxHeartbeats 10000000
end Go.Proofs.YtbkpaeejjepnpaaGreat
namespace Go.Proofs.YtbkpaeejjepnpaaGreat
open Go Go.RowKit Ab
set_option linter.unusedSimpArgs false
set_option linter.unusedVariables false
set_option maxHeartbeats 10000000
end Go.Proofs.YtbkpaeejjepnpaaGreat
