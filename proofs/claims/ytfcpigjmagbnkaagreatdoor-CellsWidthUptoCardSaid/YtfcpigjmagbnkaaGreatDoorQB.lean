/-
  The texts Q5, Q6, Q7, Q8.
-/
import Derived.Test.YtfcpigjmagbnkaaGreatDoorQA
import Derived.Test.YtfcpigjmagbnkaaGreatDoorZ10
namespace Go.Proofs.YtfcpigjmagbnkaaGreatDoor
open Go Go.RowKit Ab
set_option linter.unusedSimpArgs false
set_option linter.unusedVariables false
set_option maxHeartbeats 10000000
theorem bz_Q5 : type_of% (And.intro @W_len (And.intro @D_len (And.intro @Nat.div_one (And.intro @Nat.mul_one (And.intro @tn_nat (And.intro @W_nf (And.intro @D_nf (And.intro @W_nil (And.intro @D_nil (And.intro @wi (And.intro @nf_g (And.intro @Bool.false_and (@W_cell))))))))))))) := And.intro @W_len (And.intro @D_len (And.intro @Nat.div_one (And.intro @Nat.mul_one (And.intro @tn_nat (And.intro @W_nf (And.intro @D_nf (And.intro @W_nil (And.intro @D_nil (And.intro @wi (And.intro @nf_g (And.intro @Bool.false_and (@W_cell))))))))))))
theorem int_w1 {n : Int} (h1 : -9223372036854775808 ≤ n) (h2 : n < 9223372036854775808) : n.natAbs < B ^ 1 := by rw [Nat.pow_one]; show _ < 18446744073709551616; omega
theorem two_lt (n : Nat) : 2 ^ n < B ^ (n / 64 + 1) := by
  rw [B64, ← Nat.pow_mul]
  exact Nat.pow_lt_pow_right (by decide) (by omega)
def a36 : AC := .seq (.reg [qr 4 (.al 27 [(.b false), (.l 1 []), (.l 1 [])])])
 (.seq (.reg [qm 5 0,
 qr 6 (.call 37 [(1, (.t 5))]),
 qm 7 1,
 qr 8 (.call 77 [(1, (.t 7))]),
 qr 9 (.call 60 [(1, (.t 6)), (1, (.t 8))]),
 qn (.st 3 (.t 4) (.t 9))])
 (.ret))
theorem rP_spec (n : Int) (k : Nat) (h1 : -9223372036854775808 < n) (h2 : n < 9223372036854775808) (hk : k < 9223372036854775808) (hk0 : k ≠ 0) : AFun Tryz.prog J0 36 [.i .i64 n, .i .i64 (k : Int)] (rN (rz n k) (rden n k)) := by
  have z1 := hZ_spec n h1 h2
  have w1 := (hword_spec k hk).frozen
  have r1 := rR_spec (decide (n < 0)) (dg B n.natAbs) (dg B k) 1 (by decide) (Wd_dg _) (Wd_dg _) (dlen (int_w1 (by omega) h2)) (dlen (by rw [Nat.pow_one]; show _ < 18446744073709551616; omega)) (by rw [nv_dgB]; exact hk0)
  rw [zv_N, nv_dgB] at r1
  generalize rz n k = x at *
  generalize rden n k = y at *
  refine mkcQ fol J0s Tryz.func36 a36 [.c 4 true 3] ?_
  unfold a36
  simp only [init_eq, initE, qm, qr, qn]
  exact wcQ @bz_Q5
def dyV (z : Int) (e : Int) : V := if e < -1048576 ∨ 1048576 < e then .g [.b false, .l 1 [], .l 1 []] else if e < 0 then rN (rz z (2 ^ (-e).toNat)) (rden z (2 ^ (-e).toNat)) else rN (rz (z * 2 ^ e.toNat) 1) (rden (z * 2 ^ e.toNat) 1)
def dyE (e : Int) : Int := if e < -1048576 ∨ 1048576 < e then 3 else 0
def a86 : AC := .seq (.reg [qr 2 (.mv (.k .nl))])
 (.seq (.reg [qr 6 (.call 88 [(1, (.k (.i .u64 1)))]),
 qm 7 0,
 qr 8 (.call 123 [(1, (.t 6)), (1, (.t 7))]),
 qm 5 8,
 qr 9 (.ext (.t 5) 0),
 qr 10 (.ext (.t 5) 1),
 qm 3 9,
 qm 4 10])
 (.seq (.reg [qm 11 3,
 qm 2 11])
 (.ret)))
theorem qtwo_spec (n : Nat) (hn : n ≤ 1048576) : AFun Tryz.prog J0 86 [.i .i64 (n : Int)] (.l 1 (W (dg B (2 ^ n)))) := by
  have h1 := (natOf_spec 1 (by decide)).frozen
  have h2 := shl_spec (dg B 1) (n : Int) (Wd_dg _) (Nat.le_trans (dlen (k := 1) (by decide)) (by decide))
  rw [shlR_ok hn, nv_dgB, Nat.one_mul] at h2
  refine mkQ fol J0s Tryz.func86 a86 ?_
  unfold a86
  simp only [init_eq, initE, qm, qr, qn]
  exact wdQ @bz_Q5
def a44 : AC := .seq (.reg [qr 2 (.bx 25 (.t 0)),
 qr 4 (.al 27 [(.b false), (.l 1 []), (.l 1 [])]),
 qr 5 (.mv (.k (.i .i64 0)))])
 (.seq (.seq (.reg [qm 8 1,
 qr 9 (.bin .lss (.t 8) (.k (.i .i64 (-1048576)))),
 qm 10 9,
 ⟨some 11, some (10, false), .mv (.t 1)⟩,
 ⟨some 12, some (10, false), .bin .gtr (.t 11) (.k (.i .i64 1048576))⟩,
 qr 13 (.pick (.t 10) (.k (.b true)) (.t 12))])
 (.cond (.t 13)
 (.seq (.reg [qr 14 (.bld [(.b false), (.l 1 []), (.l 1 [])] []),
 qn (.st 3 (.t 4) (.t 14)),
 qr 5 (.mv (.k (.i .i64 3)))])
 (.ret))
 (.skip)))
 (.seq (.seq (.reg [qm 15 1,
 qr 16 (.bin .lss (.t 15) (.k (.i .i64 0)))])
 (.cond (.t 16)
 (.seq (.dreg [qr 17 (.ld true 2 (.t 2)),
 qm 18 1,
 qr 19 (.un .neg (.t 18)),
 qr 20 (.call 86 [(1, (.t 19))]),
 qr 21 (.call 85 [(1, (.t 17)), (1, (.t 20))]),
 qn (.st 3 (.t 4) (.t 21)),
 qr 5 (.mv (.k (.i .i64 0)))])
 (.ret))
 (.skip)))
 (.seq (.reg [qr 23 (.ld true 2 (.t 2)),
 qm 24 1,
 qr 25 (.call 87 [(1, (.t 23)), (1, (.t 24))]),
 qm 22 25,
 qr 26 (.ext (.t 22) 0),
 qr 27 (.ext (.t 22) 1),
 qr 6 (.al 25 [(.b false), (.l 1 [])]),
 qn (.st 2 (.t 6) (.t 26)),
 qm 7 27])
 (.seq (.dreg [qr 28 (.ld true 2 (.t 6)),
 qr 29 (.call 88 [(1, (.k (.i .u64 1)))]),
 qr 30 (.call 85 [(1, (.t 28)), (1, (.t 29))]),
 qm 31 7,
 qn (.st 3 (.t 4) (.t 30)),
 qm 5 31])
 (.ret)))))
theorem qdy_spec (s : Bool) (a : List Nat) (e : Int) (m : Nat) (hm : m ≤ 10000000) (hm1 : 16385 ≤ m) (ha : Wd a) (la : a.length ≤ m) : AFun Tryz.prog J0 44 [zL s a, .i .i64 e] (.t [dyV (zv s a) e, .i .i64 (dyE e)]) := by
  by_cases h1 : e < -1048576
  · rw [show dyV (zv s a) e = .g [.b false, .l 1 [], .l 1 []] from if_pos (.inl h1), show dyE e = 3 from if_pos (.inl h1)]
    refine mkcQ fol J0s Tryz.func44 a44 [.c 4 true 3, .t 5] ?_
    unfold a44
    simp only [init_eq, initE, qm, qr, qn]
    exact pcQ (ai @h1 @bz_Q5)
  · by_cases h2 : 1048576 < e
    · rw [show dyV (zv s a) e = .g [.b false, .l 1 [], .l 1 []] from if_pos (.inr h2), show dyE e = 3 from if_pos (.inr h2)]
      refine mkcQ fol J0s Tryz.func44 a44 [.c 4 true 3, .t 5] ?_
      unfold a44
      simp only [init_eq, initE, qm, qr, qn]
      exact pcQ (ai @h2 (ai @h1 @bz_Q5))
    · rw [show dyE e = 0 from if_neg (by omega)]
      unfold dyV
      rw [if_neg (by omega)]
      by_cases h3 : e < 0
      · rw [if_pos h3]
        obtain ⟨n, hn⟩ : ∃ n : Nat, -e = (n : Int) := ⟨(-e).toNat, by omega⟩
        have w1 : IntKind.i64.wrap (0 - e) = (n : Int) := by rw [wi (by omega)]; omega
        rw [show (-e).toNat = n from by omega]
        have t1 := qtwo_spec n (by omega)
        have r1 := qred_spec s a (dg B (2 ^ n)) m (by omega) ha (Wd_dg _) la (Nat.le_trans (dlen (two_lt n)) (by omega)) (by rw [nv_dgB]; exact Nat.pos_iff_ne_zero.1 (Nat.two_pow_pos n))
        rw [nv_dgB] at r1
        generalize rz (zv s a) (2 ^ n) = x at *
        generalize rden (zv s a) (2 ^ n) = y at *
        generalize dg B (2 ^ n) = t at *
        refine mkcQ fol J0s Tryz.func44 a44 [.c 4 true 3, .t 5] ?_
        unfold a44
        simp only [init_eq, initE, qm, qr, qn]
        exact wcQ (ai @w1 (ai @h3 (ai @h2 (ai @h1 @bz_Q5))))
      · rw [if_neg h3]
        have s1 := zshl_spec s a e ha (by omega)
        rw [show zlV (zv s a) e = zv s a * 2 ^ e.toNat from if_neg (by omega), show zlE e = 0 from if_neg (by omega)] at s1
        have hb : (zv s a * 2 ^ e.toNat).natAbs < B ^ (m + 16384) := by
          rw [Int.natAbs_mul, Int.natAbs_pow]
          exact shl_len (zv_lt ha la) (by omega)
        generalize zv s a * 2 ^ e.toNat = z at *
        have o1 := (natOf_spec 1 (by decide)).frozen
        have r1 := qred_spec (decide (z < 0)) (dg B z.natAbs) (dg B 1) (m + 16384) (by omega) (Wd_dg _) (Wd_dg _) (dlen hb) (Nat.le_trans (dlen (k := 1) (by decide)) (by omega)) (by rw [nv_dgB]; decide)
        rw [zv_N, nv_dgB] at r1
        generalize rz z 1 = x at *
        generalize rden z 1 = y at *
        refine mkcQ fol J0s Tryz.func44 a44 [.c 4 true 3, .t 5] ?_
        unfold a44
        simp only [init_eq, initE, qm, qr, qn]
        exact wcQ (ai @h3 (ai @h2 (ai @h1 @bz_Q5)))
end Go.Proofs.YtfcpigjmagbnkaaGreatDoor
namespace Go.Proofs.YtfcpigjmagbnkaaGreatDoor
open Go Go.RowKit Ab
set_option linter.unusedSimpArgs false
set_option linter.unusedVariables false
set_option maxHeartbeats 10000000
end Go.Proofs.YtfcpigjmagbnkaaGreatDoor
namespace Go.Proofs.YtfcpigjmagbnkaaGreatDoor
open Go Go.RowKit Ab
set_option linter.unusedSimpArgs false
set_option linter.unusedVariables false
set_option maxHeartbeats 10000000
end Go.Proofs.YtfcpigjmagbnkaaGreatDoor
namespace Go.Proofs.YtfcpigjmagbnkaaGreatDoor
open Go Go.RowKit Ab
set_option linter.unusedSimpArgs false
set_option linter.unusedVariables false
set_option maxHeartbeats 10000000
end Go.Proofs.YtfcpigjmagbnkaaGreatDoor
