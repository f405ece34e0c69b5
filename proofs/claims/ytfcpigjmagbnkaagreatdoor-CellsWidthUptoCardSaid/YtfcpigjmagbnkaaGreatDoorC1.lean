/-
  Cells of the dyadic grids, by the program: checks, ends, how two lie.
-/
import Derived.Test.YtfcpigjmagbnkaaGreatDoorQ23
import Derived.Test.YtfcpigjmagbnkaaGreatDoorZ10
namespace Go.Proofs.YtfcpigjmagbnkaaGreatDoor
open Go Go.RowKit Ab
set_option linter.unusedSimpArgs false
set_option linter.unusedVariables false
set_option maxHeartbeats 10000000
theorem bz_C1 : type_of% (And.intro @W_len (And.intro @D_len (And.intro @Nat.div_one (And.intro @Nat.mul_one (And.intro @tn_nat (And.intro @W_nf (And.intro @D_nf (And.intro @W_nil (And.intro @D_nil (And.intro @wi (And.intro @nf_g (And.intro @Bool.false_and (@W_cell))))))))))))) := And.intro @W_len (And.intro @D_len (And.intro @Nat.div_one (And.intro @Nat.mul_one (And.intro @tn_nat (And.intro @W_nf (And.intro @D_nf (And.intro @W_nil (And.intro @D_nil (And.intro @wi (And.intro @nf_g (And.intro @Bool.false_and (@W_cell))))))))))))
abbrev cL (s : Bool) (a : List Nat) (k : Int) (p : Bool) : V := .g [.b s, .l 1 (W a), .i .i64 k, .b p]
abbrev cN (z : Int) (k : Int) (p : Bool) : V := .g [.b (decide (z < 0)), .l 1 (W (dg B z.natAbs)), .i .i64 k, .b p]
def ckE (k : Int) : Int := if k < 0 then 3 else if 1048576 < k then 13 else 0
theorem ckE_n {k : Int} (h : k < 0) : ckE k = 3 := if_pos h
theorem ckE_b {k : Int} (h : 1048576 < k) : ckE k = 13 := by unfold ckE; rw [if_neg (by omega), if_pos h]
theorem ckE_0 {k : Int} (h1 : 0 ≤ k) (h2 : k ≤ 1048576) : ckE k = 0 := by unfold ckE; rw [if_neg (by omega), if_neg (by omega)]
def a42 : AC := .seq (.reg [qr 1 (.bx 37 (.t 0)),
 qr 2 (.mv (.k (.i .i64 0)))])
 (.seq (.blk 0
 (.seq (.reg [qr 4 (.fad 2 (.t 1)),
 qr 5 (.ld false 1 (.t 4)),
 qr 6 (.bin .lss (.t 5) (.k (.i .i64 0))),
 qm 3 6])
 (.cond (.t 3)
 (.seq (.reg [qr 2 (.mv (.k (.i .i64 3)))])
 (.ret))
 (.seq (.reg [qr 8 (.fad 2 (.t 1)),
 qr 9 (.ld false 1 (.t 8)),
 qr 10 (.bin .gtr (.t 9) (.k (.i .i64 1048576))),
 qm 7 10])
 (.cond (.t 7)
 (.seq (.reg [qr 2 (.mv (.k (.i .i64 13)))])
 (.ret))
 (.skip))))))
 (.seq (.reg [qr 2 (.mv (.k (.i .i64 0)))])
 (.ret)))
theorem ccheck_spec (s : Bool) (a : List Nat) (k : Int) (p : Bool) : AFun Tryz.prog J0 42 [cL s a k p] (.i .i64 (ckE k)) := by
  by_cases h1 : k < 0
  · rw [ckE_n h1]
    refine mkQ fol J0s Tryz.func42 a42 ?_
    unfold a42
    simp only [init_eq, initE, qm, qr, qn]
    exact pdQ (ai @h1 @bz_C1)
  · by_cases h2 : 1048576 < k
    · rw [ckE_b h2]
      refine mkQ fol J0s Tryz.func42 a42 ?_
      unfold a42
      simp only [init_eq, initE, qm, qr, qn]
      exact pdQ (ai @h2 (ai @h1 @bz_C1))
    · rw [ckE_0 (by omega) (by omega)]
      refine mkQ fol J0s Tryz.func42 a42 ?_
      unfold a42
      simp only [init_eq, initE, qm, qr, qn]
      exact pdQ (ai @h2 (ai @h1 @bz_C1))
def hiN (z : Int) (p : Bool) : Int := if p then z else z + 1
theorem hiN_abs {z : Int} {p : Bool} {m : Nat} (h : z.natAbs < B ^ m) : (hiN z p).natAbs < B ^ (m + 1) := by
  have h1 : (hiN z p).natAbs ≤ z.natAbs + 1 := by
    unfold hiN
    split
    · omega
    · exact Int.natAbs_add_le z 1
  have h2 : B ^ m < B ^ (m + 1) := Nat.pow_lt_pow_right B2 (Nat.lt_succ_self m)
  omega
def a52 : AC := .seq (.reg [qr 2 (.bx 25 (.t 0)),
 qr 4 (.al 25 [(.b false), (.l 1 [])])])
 (.seq (.reg [qr 8 (.ld true 2 (.t 2)),
 qm 9 1,
 qr 10 (.call 87 [(1, (.t 8)), (1, (.t 9))]),
 qm 7 10,
 qr 11 (.ext (.t 7) 0),
 qr 12 (.ext (.t 7) 1),
 qr 5 (.al 25 [(.b false), (.l 1 [])]),
 qn (.st 2 (.t 5) (.t 11)),
 qm 6 12])
 (.seq (.reg [qr 13 (.ld true 2 (.t 5)),
 qn (.st 2 (.t 4) (.t 13))])
 (.ret)))
theorem craise_spec (s : Bool) (a : List Nat) (n : Nat) (hn : n ≤ 1048576) (ha : Wd a) (la : a.length ≤ 1000000000) : AFun Tryz.prog J0 52 [zL s a, .i .i64 (n : Int)] (zN (zv s a * 2 ^ n)) := by
  have h1 := zshl_spec s a (n : Int) ha la
  rw [show zlV (zv s a) (n : Int) = zv s a * 2 ^ n from if_neg (by omega), show zlE (n : Int) = 0 from if_neg (by omega)] at h1
  generalize zv s a * 2 ^ n = z at *
  refine mkcQ fol J0s Tryz.func52 a52 [.c 4 true 2] ?_
  unfold a52
  simp only [init_eq, initE, qm, qr, qn]
  exact wcQ @bz_C1
theorem pow2_B (n : Nat) {m : Nat} (h : n / 64 + 1 ≤ m) : 2 ^ n < B ^ m := pup (two_lt n) h
theorem shlz {z : Int} {m n : Nat} (h : z.natAbs < B ^ m) (hn : n ≤ 1048576) : (z * 2 ^ n).natAbs < B ^ (m + 16384) := by
  rw [Int.natAbs_mul, Int.natAbs_pow]
  exact shl_len h hn
def a43 : AC := .seq (.reg [qr 2 (.bx 37 (.t 0)),
 qr 4 (.al 25 [(.b false), (.l 1 [])]),
 qr 5 (.al 25 [(.b false), (.l 1 [])])])
 (.seq (.reg [qr 7 (.fad 0 (.t 2)),
 qr 8 (.ld true 2 (.t 7)),
 qm 9 1,
 qr 10 (.fad 2 (.t 2)),
 qr 11 (.ld false 1 (.t 10)),
 qr 12 (.bin .sub (.t 9) (.t 11)),
 qr 13 (.call 52 [(1, (.t 8)), (1, (.t 12))]),
 qr 6 (.al 25 [(.b false), (.l 1 [])]),
 qn (.st 2 (.t 6) (.t 13))])
 (.seq (.seq (.reg [qr 14 (.fad 3 (.t 2)),
 qr 15 (.ld false 1 (.t 14))])
 (.cond (.t 15)
 (.seq (.dregx [(6, 4), (6, 16)] [qr 16 (.ld true 2 (.t 6)),
 qr 17 (.ld true 2 (.t 6)),
 qn (.st 2 (.t 4) (.t 16)),
 qn (.st 2 (.t 5) (.t 17))])
 (.ret))
 (.skip)))
 (.seq (.dreg [qr 18 (.ld true 2 (.t 6)),
 qr 19 (.fad 0 (.t 2)),
 qr 20 (.ld true 2 (.t 19)),
 qr 21 (.call 75 [(1, (.k (.i .i64 1)))]),
 qr 22 (.call 74 [(1, (.t 20)), (1, (.t 21))]),
 qm 23 1,
 qr 24 (.fad 2 (.t 2)),
 qr 25 (.ld false 1 (.t 24)),
 qr 26 (.bin .sub (.t 23) (.t 25)),
 qr 27 (.call 52 [(1, (.t 22)), (1, (.t 26))]),
 qn (.st 2 (.t 4) (.t 18)),
 qn (.st 2 (.t 5) (.t 27))])
 (.ret))))
theorem cspan_spec (s : Bool) (a : List Nat) (k e : Nat) (p : Bool) (hk : k ≤ e) (he : e ≤ 1048576) (ha : Wd a) (la : a.length ≤ 100000000) : AFun Tryz.prog J0 43 [cL s a (k : Int) p, .i .i64 (e : Int)] (.t [zN (zv s a * 2 ^ (e - k)), zN (hiN (zv s a) p * 2 ^ (e - k))]) := by
  have w1 : IntKind.i64.wrap ((e : Int) - (k : Int)) = ((e - k : Nat) : Int) := by rw [wi (by omega)]; omega
  have h1 := craise_spec s a (e - k) (by omega) ha (by omega)
  cases p with
  | true =>
    show AFun Tryz.prog J0 43 [cL s a (k : Int) true, .i .i64 (e : Int)] (.t [zN (zv s a * 2 ^ (e - k)), zN (zv s a * 2 ^ (e - k))])
    generalize zv s a * 2 ^ (e - k) = z at *
    generalize ((e - k : Nat) : Int) = n at *
    refine mkcQ fol J0s Tryz.func43 a43 [.c 4 true 2, .c 5 true 2] ?_
    unfold a43
    simp only [init_eq, initE, qm, qr, qn]
    exact wcQ (ai @w1 @bz_C1)
  | false =>
    show AFun Tryz.prog J0 43 [cL s a (k : Int) false, .i .i64 (e : Int)] (.t [zN (zv s a * 2 ^ (e - k)), zN ((zv s a + 1) * 2 ^ (e - k))])
    have o1 := zofn_spec 1 (by decide) (by decide)
    have h2 := zadd_spec s (decide ((1 : Int) < 0)) a (dg B (1 : Int).natAbs) ha (Wd_dg _) (by omega) (Nat.le_trans (dlen (k := 1) (by decide)) (by decide))
    rw [zv_N] at h2
    obtain ⟨M, hM⟩ : ∃ M : Nat, M = 100000000 := ⟨_, rfl⟩
    have hb : (zv s a + 1).natAbs < B ^ (M + 1) := hiN_abs (p := false) (zv_lt ha (by omega))
    generalize zv s a + 1 = y at *
    have h3 := craise_spec (decide (y < 0)) (dg B y.natAbs) (e - k) (by omega) (Wd_dg _) (Nat.le_trans (dlen hb) (by omega))
    rw [zv_N] at h3
    generalize zv s a * 2 ^ (e - k) = z at *
    generalize y * 2 ^ (e - k) = w at *
    generalize ((e - k : Nat) : Int) = n at *
    refine mkcQ fol J0s Tryz.func43 a43 [.c 4 true 2, .c 5 true 2] ?_
    unfold a43
    simp only [init_eq, initE, qm, qr, qn]
    exact wcQ (ai @w1 @bz_C1)
abbrev loQ (z : Int) (k : Nat) : Rat := mkRat z (2 ^ k)
theorem two_ne (k : Nat) : 2 ^ k ≠ 0 := Nat.pos_iff_ne_zero.1 (Nat.two_pow_pos k)
theorem cend {z : Int} {k m : Nat} (hz : z.natAbs < B ^ m) (hk : k ≤ 1048576) (hm : 20000 ≤ m) (hm1 : m ≤ 2500000) : AFun Tryz.prog J0 44 [zN (z * 2 ^ (k - k)), .i .i64 (-(k : Int))] (.t [rN (loQ z k).num (loQ z k).den, .i .i64 0]) ∧ Rr (rN (loQ z k).num (loQ z k).den) (loQ z k) m := by
  rw [Nat.sub_self, Int.pow_zero, Int.mul_one]
  have h := qdy_spec (decide (z < 0)) (dg B z.natAbs) (-(k : Int)) m (by omega) (by omega) (Wd_dg _) (dlen hz)
  rw [zv_N] at h
  obtain ⟨e1, e2, e3⟩ := rv_q (z := z) (d := 2 ^ k) (m := m) (p := loQ z k) (two_ne k) rfl hz (pow2_B k (by omega))
  rw [rv_p _ (two_ne k)] at e1
  have hV : dyV z (-(k : Int)) = rN (rz z (2 ^ k)) (rden z (2 ^ k)) := by
    unfold dyV
    rw [if_neg (by omega)]
    rcases Nat.eq_zero_or_pos k with h0 | h0
    · subst h0
      rw [if_neg (by decide), show (-((0 : Nat) : Int)).toNat = 0 from rfl, Int.pow_zero, Int.mul_one, Nat.pow_zero]
    · rw [if_pos (by omega), show (-(-(k : Int))).toNat = k from by omega]
  rw [hV, e1, show dyE (-(k : Int)) = 0 from if_neg (by omega)] at h
  exact ⟨h, e3⟩
structure CIn (a : List Nat) (k : Int) (m n : Nat) : Prop where
  w : Wd a
  l : a.length ≤ m
  k : k = (n : Int)
  n : n ≤ 1048576
def a11 : AC := .seq (.reg [qr 1 (.bx 37 (.t 0)),
 qr 2 (.al 27 [(.b false), (.l 1 []), (.l 1 [])]),
 qr 3 (.al 27 [(.b false), (.l 1 []), (.l 1 [])]),
 qr 4 (.mv (.k (.i .i64 0)))])
 (.seq (.seq (.reg [qr 12 (.ld true 4 (.t 1)),
 qr 13 (.call 42 [(1, (.t 12))]),
 qm 5 13])
 (.seq (.reg [qm 14 5,
 qr 15 (.bin .neq (.t 14) (.k (.i .i64 0)))])
 (.cond (.t 15)
 (.seq (.reg [qr 16 (.bld [(.b false), (.l 1 []), (.l 1 [])] []),
 qr 17 (.bld [(.b false), (.l 1 []), (.l 1 [])] []),
 qm 18 5,
 qn (.st 3 (.t 2) (.t 16)),
 qn (.st 3 (.t 3) (.t 17)),
 qm 4 18])
 (.ret))
 (.skip))))
 (.seq (.reg [qr 20 (.ld true 4 (.t 1)),
 qr 21 (.fad 2 (.t 1)),
 qr 22 (.ld false 1 (.t 21)),
 qr 23 (.call 43 [(1, (.t 20)), (1, (.t 22))]),
 qm 19 23,
 qr 24 (.ext (.t 19) 0),
 qr 25 (.ext (.t 19) 1),
 qr 6 (.al 25 [(.b false), (.l 1 [])]),
 qr 7 (.al 25 [(.b false), (.l 1 [])]),
 qn (.st 2 (.t 6) (.t 24)),
 qn (.st 2 (.t 7) (.t 25))])
 (.seq (.reg [qr 27 (.ld true 2 (.t 6)),
 qr 28 (.fad 2 (.t 1)),
 qr 29 (.ld false 1 (.t 28)),
 qr 30 (.un .neg (.t 29)),
 qr 31 (.call 44 [(1, (.t 27)), (1, (.t 30))]),
 qm 26 31,
 qr 32 (.ext (.t 26) 0),
 qr 33 (.ext (.t 26) 1),
 qr 8 (.al 27 [(.b false), (.l 1 []), (.l 1 [])]),
 qn (.st 3 (.t 8) (.t 32)),
 qm 9 33])
 (.seq (.reg [qr 35 (.ld true 2 (.t 7)),
 qr 36 (.fad 2 (.t 1)),
 qr 37 (.ld false 1 (.t 36)),
 qr 38 (.un .neg (.t 37)),
 qr 39 (.call 44 [(1, (.t 35)), (1, (.t 38))]),
 qm 34 39,
 qr 40 (.ext (.t 34) 0),
 qr 41 (.ext (.t 34) 1),
 qr 10 (.al 27 [(.b false), (.l 1 []), (.l 1 [])]),
 qn (.st 3 (.t 10) (.t 40)),
 qm 11 41])
 (.seq (.dregx [(10, 2), (10, 42)] [qr 42 (.ld true 3 (.t 8)),
 qr 43 (.ld true 3 (.t 10)),
 qn (.st 3 (.t 2) (.t 42)),
 qn (.st 3 (.t 3) (.t 43)),
 qr 4 (.mv (.k (.i .i64 0)))])
 (.ret))))))
theorem cends_spec (s : Bool) (a : List Nat) (k m : Nat) (p : Bool) (hk : k ≤ 1048576) (ha : Wd a) (la : a.length ≤ m) (hm : 20000 ≤ m) (hm1 : m ≤ 2000000) :
    AFun Tryz.prog J0 11 [cL s a (k : Int) p] (.t [rN (loQ (zv s a) k).num (loQ (zv s a) k).den, rN (loQ (hiN (zv s a) p) k).num (loQ (hiN (zv s a) p) k).den, .i .i64 0]) ∧ Rr (rN (loQ (zv s a) k).num (loQ (zv s a) k).den) (loQ (zv s a) k) (m + 1) ∧ Rr (rN (loQ (hiN (zv s a) p) k).num (loQ (hiN (zv s a) p) k).den) (loQ (hiN (zv s a) p) k) (m + 1) := by
  have h1 := ccheck_spec s a (k : Int) p
  rw [ckE_0 (by omega) (by omega)] at h1
  have h2 := cspan_spec s a k k p (Nat.le_refl _) hk ha (by omega)
  have b1 := zv_lt (s := s) ha la
  obtain ⟨h3, g3⟩ := cend (k := k) (m := m + 1) (pup b1 (Nat.le_succ m)) hk (by omega) (by omega)
  obtain ⟨h4, g4⟩ := cend (k := k) (hiN_abs (p := p) b1) hk (by omega) (by omega)
  refine ⟨?_, g3, g4⟩
  have w1 : IntKind.i64.wrap (0 - (k : Int)) = -(k : Int) := by rw [wi (by omega)]; omega
  generalize zv s a * 2 ^ (k - k) = x at *
  generalize hiN (zv s a) p * 2 ^ (k - k) = y at *
  generalize (loQ (zv s a) k).num = n1 at *
  generalize (loQ (zv s a) k).den = d1 at *
  generalize (loQ (hiN (zv s a) p) k).num = n2 at *
  generalize (loQ (hiN (zv s a) p) k).den = d2 at *
  generalize -(k : Int) = kk at *
  generalize (k : Int) = k' at *
  refine mkcQ fol J0s Tryz.func11 a11 [.c 2 true 3, .c 3 true 3, .t 4] ?_
  unfold a11
  simp only [init_eq, initE, qm, qr, qn]
  have zc1 := h4
  exact wcQ (ai @w1 @bz_C1)
theorem cq_val (p q : Rat) : cq p q = -1 ∨ cq p q = 0 ∨ cq p q = 1 := by unfold cq; split; exact .inl rfl; split; exact .inr (.inl rfl); exact .inr (.inr rfl)
end Go.Proofs.YtfcpigjmagbnkaaGreatDoor
