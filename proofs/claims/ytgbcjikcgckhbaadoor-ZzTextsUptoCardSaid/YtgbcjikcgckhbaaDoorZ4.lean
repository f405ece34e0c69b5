/-
  surdref07: forms, sums, products.
-/
import Derived.Test.YtgbcjikcgckhbaaDoorZ2
import Derived.Test.YtgbcjikcgckhbaaDoorZ3
import Derived.Test.YtgbcjikcgckhbaaDoorRef5b
namespace Go.Proofs.YtgbcjikcgckhbaaDoor
open Go Go.RowKit Ab
set_option linter.unusedSimpArgs false
set_option linter.unusedVariables false
set_option maxHeartbeats 10000000
theorem bz_Z4 : type_of% (And.intro @Bool.false_and (And.intro @wi (And.intro @tn_nat (And.intro @Nat.div_one (And.intro @Nat.mul_one (And.intro @W_len (And.intro @W_nf (And.intro @W_cell (And.intro @W_nil (And.intro @W_get (@nf_g))))))))))) := And.intro @Bool.false_and (And.intro @wi (And.intro @tn_nat (And.intro @Nat.div_one (And.intro @Nat.mul_one (And.intro @W_len (And.intro @W_nf (And.intro @W_cell (And.intro @W_nil (And.intro @W_get (@nf_g))))))))))
def a17 : AC := .seq (.reg [qr 4 (.al 25 [(.b false), (.l 1 [])])])
 (.seq (.reg [qm 5 1,
 qr 6 (.call 33 [(1, (.t 5))]),
 qm 1 6])
 (.seq (.reg [qm 7 0,
 qm 8 7,
 ⟨some 9, some (8, true), .mv (.t 1)⟩,
 ⟨some 10, some (8, true), .len (.t 9)⟩,
 ⟨some 11, some (8, true), .bin .gtr (.t 10) (.k (.i .i64 0))⟩,
 qr 12 (.pick (.t 8) (.t 11) (.k (.b false))),
 qm 13 1,
 qr 14 (.bld [(.b false), (.l 1 [])] [(0, 1, (.t 12)), (1, 1, (.t 13))]),
 qn (.st 2 (.t 4) (.t 14))])
 (.ret)))
theorem rmake_spec (s : Bool) (a : List Nat) (ha : Wd a) (la : a.length ≤ 1000000000) : AFun Tryd.prog J0 17 [.b s, .l 1 (W a)] (zN (zv s a)) := by
  have h1 := (rnorm_spec a ha (by omega)).frozen
  have e := zN_I s (nv B a)
  unfold zv
  rw [e]
  generalize nv B a = n at *
  refine mkcQ fol J0s Tryd.func17 a17 [.c 4 true 2] ?_
  unfold a17
  simp only [init_eq, initE, qm, qr, qn]
  cases s
  · have zc1 := h1
    exact wcQ (ai @lnilA @bz_Z4)
  · by_cases h : 0 < n
    · have e : decide (0 < n) = true := decide_eq_true h
      rw [e]
      exact wcQ (ai @h (ai @dg_pos (ai @lnilA @bz_Z4)))
    · have e : decide (0 < n) = false := decide_eq_false h
      rw [e]
      exact wcQ (ai @h (ai @dg_pos (ai @lnilA @bz_Z4)))
theorem rmakeD (s : Bool) {n m : Nat} (h : n < B ^ m) (hm : m ≤ 1000000000) : AFun Tryd.prog J0 17 [.b s, .l 1 (W (dg B n))] (zN (zI s n)) := by
  have := rmake_spec s (dg B n) (Wd_dg _) (Nat.le_trans (dlen h) hm)
  rwa [zv, nv_dgB] at this
def a10 : AC := .seq (.reg [qr 1 (.bx 25 (.t 0)),
 qr 2 (.al 25 [(.b false), (.l 1 [])])])
 (.seq (.reg [qr 3 (.fad 0 (.t 1)),
 qr 4 (.ld false 1 (.t 3)),
 qr 5 (.fad 1 (.t 1)),
 qr 6 (.ld false 1 (.t 5)),
 qr 7 (.call 17 [(1, (.t 4)), (1, (.t 6))]),
 qn (.st 2 (.t 2) (.t 7))])
 (.ret))
theorem rznorm_spec (s : Bool) (a : List Nat) (ha : Wd a) (la : a.length ≤ 1000000000) : AFun Tryd.prog J0 10 [zL s a] (zN (zv s a)) := by
  have h1 := rmake_spec s a ha la
  refine mkcQ fol J0s Tryd.func10 a10 [.c 2 true 2] ?_
  unfold a10
  simp only [init_eq, initE, qm, qr, qn]
  exact wcQ (ai @lnilA @bz_Z4)
def a9 : AC := .seq (.reg [qr 2 (.bx 25 (.t 0)),
 qr 3 (.bx 25 (.t 1)),
 qr 4 (.mv (.k (.b false)))])
 (.seq (.reg [qr 5 (.fad 0 (.t 2)),
 qr 6 (.ld false 1 (.t 5)),
 qr 7 (.fad 0 (.t 3)),
 qr 8 (.ld false 1 (.t 7)),
 qr 9 (.eqb false (.t 6) (.t 8)),
 qm 10 9,
 ⟨some 11, some (10, true), .fad 1 (.t 2)⟩,
 ⟨some 12, some (10, true), .ld false 1 (.t 11)⟩,
 ⟨some 13, some (10, true), .fad 1 (.t 3)⟩,
 ⟨some 14, some (10, true), .ld false 1 (.t 13)⟩,
 ⟨some 15, some (10, true), .call 22 [(1, (.t 12)), (1, (.t 14))]⟩,
 qr 16 (.pick (.t 10) (.t 15) (.k (.b false))),
 qm 4 16])
 (.ret))
theorem zsame_spec (s t : Bool) (a b : List Nat) (la : a.length ≤ 1000000000) (lb : b.length ≤ 1000000000) : AFun Tryd.prog J0 9 [zL s a, zL t b] (.b ((s == t) && decide (a = b))) := by
  have h1 := same_spec a b (by omega) (by omega)
  refine mkQ fol J0s Tryd.func9 a9 ?_
  unfold a9
  simp only [init_eq, initE, qm, qr, qn]
  by_cases h : s = t
  · have hb' : (s == t) = true := by rw [h]; cases t <;> rfl
    rw [hb', Bool.true_and]
    exact wdQ (ai @hb' (ai @lnilA @bz_Z4))
  · have hb' : (s == t) = false := by cases s <;> cases t <;> first | rfl | exact absurd rfl h
    rw [hb', Bool.false_and]
    refine spQ (ai @hb' (ai @lnilA @bz_Z4)) ?_
    exact rtQ (ai @lnilA @bz_Z4)
theorem zsame_true {x y : Int} (h : x = y) {m : Nat} (hx : x.natAbs < B ^ m) (hm : m ≤ 1000000000) : AFun Tryd.prog J0 9 [zN x, zN y] (.b true) := by
  subst h
  have := zsame_spec (decide (x < 0)) (decide (x < 0)) (dg B x.natAbs) (dg B x.natAbs) (Nat.le_trans (dlen hx) hm) (Nat.le_trans (dlen hx) hm)
  rwa [show ((decide (x < 0) == decide (x < 0)) && decide (dg B x.natAbs = dg B x.natAbs)) = true from by simp] at this
def a12 : AC := .seq (.reg [qr 2 (.al 25 [(.b false), (.l 1 [])])])
 (.seq (.seq (.reg [qm 3 0,
 qr 4 (.bin .lss (.t 3) (.k (.i .i64 0)))])
 (.cond (.t 4)
 (.seq (.reg [qm 5 0,
 qr 6 (.bin .add (.t 5) (.k (.i .i64 1))),
 qr 7 (.un .neg (.t 6)),
 qr 8 (.cvt .u64 (.t 7)),
 qr 9 (.bin .add (.t 8) (.k (.i .u64 1))),
 qr 10 (.bsl 38 1 1 [(.i .u64 0)] [(0, (.t 9))]),
 qr 11 (.call 17 [(1, (.k (.b true))), (1, (.t 10))]),
 qn (.st 2 (.t 2) (.t 11))])
 (.ret))
 (.skip)))
 (.seq (.reg [qm 12 0,
 qr 13 (.cvt .u64 (.t 12)),
 qr 14 (.bsl 38 1 1 [(.i .u64 0)] [(0, (.t 13))]),
 qr 15 (.call 17 [(1, (.k (.b false))), (1, (.t 14))]),
 qn (.st 2 (.t 2) (.t 15))])
 (.ret)))
theorem rzof_spec (n : Int) (h1 : -9223372036854775808 ≤ n) (h2 : n < 9223372036854775808) : AFun Tryd.prog J0 12 [.i .i64 n] (zN n) := by
  have hm := rmake_spec (decide (n < 0)) [n.natAbs] (Wd1 (by omega)) (by simp)
  rw [show zv (decide (n < 0)) [n.natAbs] = n from by unfold zv; rw [nv_one, zI_self]] at hm
  by_cases h : n < 0
  · have e1 : decide (n < 0) = true := decide_eq_true h
    rw [show zN n = .g [.b true, .l 1 (W (dg B n.natAbs))] from by show V.g [.b (decide (n < 0)), _] = _; rw [e1]] at hm ⊢
    rw [e1] at hm
    refine mkcQ fol J0s Tryd.func12 a12 [.c 2 true 2] ?_
    unfold a12
    simp only [init_eq, initE, qm, qr, qn]
    have w1 : IntKind.i64.wrap (n + 1) = n + 1 := wi (by omega)
    have w2 : IntKind.i64.wrap (0 - (n + 1)) = 0 - (n + 1) := wi (by omega)
    have w3 : IntKind.u64.wrap (0 - (n + 1)) = 0 - (n + 1) := by rw [IntKind.wrap_u64]; omega
    have w4 : IntKind.u64.wrap (0 - (n + 1) + 1) = ((n.natAbs : Nat) : Int) := by rw [IntKind.wrap_u64]; omega
    exact wcQ (ai @e1 (ai @W1 (ai @w4 (ai @w3 (ai @w2 (ai @w1 (ai @h (ai @lnilA @bz_Z4))))))))
  · have e1 : decide (n < 0) = false := decide_eq_false h
    rw [show zN n = .g [.b false, .l 1 (W (dg B n.natAbs))] from by show V.g [.b (decide (n < 0)), _] = _; rw [e1]] at hm ⊢
    rw [e1] at hm
    refine mkcQ fol J0s Tryd.func12 a12 [.c 2 true 2] ?_
    unfold a12
    simp only [init_eq, initE, qm, qr, qn]
    have w3 : IntKind.u64.wrap n = ((n.natAbs : Nat) : Int) := by rw [IntKind.wrap_u64]; omega
    exact wcQ (ai @e1 (ai @W1 (ai @w3 (ai @h (ai @lnilA @bz_Z4)))))
theorem beq_neg (x y : Int) : ((decide (x < 0) == decide (y < 0)) = true) ↔ (decide (x < 0) = decide (y < 0)) := by simp
theorem cz_sub (x y : Int) : sgz (x - y) = cz x y := by unfold sgz cz; split <;> split <;> (try split) <;> (try split) <;> omega
end Go.Proofs.YtgbcjikcgckhbaaDoor
