/-
  DivDigits: the law's walk.
-/
import Derived.Test.YtkpnbgdnaicmdaaDU4
import Derived.Test.YtkpnbgdnaicmdaaDD1
import Derived.Test.YtkpnbgdnaicmdaaLKn
namespace Go.Proofs.Ytkpnbgdnaicmdaa
open Go Go.RowKit Ab
set_option linter.unusedSimpArgs false
set_option linter.unusedVariables false
set_option maxHeartbeats 10000000
theorem bz_LDigits : type_of% (And.intro @wi (And.intro @tn_nat (And.intro @Nat.div_one (And.intro @Nat.mul_one (And.intro @W_len (And.intro @W_nf (And.intro @W_cell (And.intro @W_nil (@W_get))))))))) := And.intro @wi (And.intro @tn_nat (And.intro @Nat.div_one (And.intro @Nat.mul_one (And.intro @W_len (And.intro @W_nf (And.intro @W_cell (And.intro @W_nil (@W_get))))))))
def a7 : AC := .seq (.reg [qr 4 (.mv (.k (.b false)))])
 (.seq (.reg [qm 5 0,
 qm 6 1,
 qr 7 (.call 10 [(1, (.t 5)), (1, (.t 6))]),
 qm 4 7])
 (.ret))
theorem wordsD_true {a b : List Nat} (h : a = b) (la : a.length ≤ 1099511627776) : AFun Try.prog J0 7 [.l 1 (W a), .l 1 (W b)] (.b true) := by
  have hs := same_true h la
  refine mkQ fol J0s Try.func7 a7 ?_
  unfold a7
  simp only [init_eq, initE, qm, qr, qn]
  exact wdQ (ai @lconsA (ai @lnilA @bz_LDigits))
def a3 : AC := .seq (.reg [qr 6 (.mv (.k (.b false)))])
 (.seq (.seq (.reg [qr 17 (.call 4 []),
 qr 18 (.un .not (.t 17))])
 (.cond (.t 18)
 (.seq (.reg [qr 6 (.mv (.k (.b false)))])
 (.ret))
 (.skip)))
 (.seq (.reg [qm 20 0,
 qm 21 2,
 qr 22 (.call 5 [(1, (.t 20)), (1, (.t 21))]),
 qm 19 22,
 qr 23 (.ext (.t 19) 0),
 qr 24 (.ext (.t 19) 1),
 qm 7 23,
 qm 8 24])
 (.seq (.reg [qm 26 0,
 qm 27 2,
 qr 28 (.call 6 [(1, (.t 26)), (1, (.t 27))]),
 qm 25 28,
 qr 29 (.ext (.t 25) 0),
 qr 30 (.ext (.t 25) 1),
 qm 9 29,
 qm 10 30])
 (.seq (.seq (.reg [qm 31 7,
 qm 32 9,
 qr 33 (.call 7 [(1, (.t 31)), (1, (.t 32))]),
 qr 34 (.un .not (.t 33)),
 qm 35 34,
 ⟨some 36, some (35, false), .mv (.t 8)⟩,
 ⟨some 37, some (35, false), .mv (.t 10)⟩,
 ⟨some 38, some (35, false), .bin .neq (.t 36) (.t 37)⟩,
 qr 39 (.pick (.t 35) (.k (.b true)) (.t 38))])
 (.cond (.t 39)
 (.seq (.reg [qr 6 (.mv (.k (.b false)))])
 (.ret))
 (.skip)))
 (.seq (.reg [qm 41 1,
 qm 42 2,
 qr 43 (.call 8 [(1, (.t 41)), (1, (.t 42))]),
 qm 40 43,
 qr 44 (.ext (.t 40) 0),
 qr 45 (.ext (.t 40) 1),
 qm 11 44,
 qm 12 45])
 (.seq (.reg [qm 47 1,
 qm 48 2,
 qr 49 (.call 9 [(1, (.t 47)), (1, (.t 48))]),
 qm 46 49,
 qr 50 (.ext (.t 46) 0),
 qr 51 (.ext (.t 46) 1),
 qm 13 50,
 qm 14 51])
 (.seq (.seq (.reg [qm 52 11,
 qm 53 13,
 qr 54 (.call 10 [(1, (.t 52)), (1, (.t 53))]),
 qr 55 (.un .not (.t 54)),
 qm 56 55,
 ⟨some 57, some (56, false), .mv (.t 12)⟩,
 ⟨some 58, some (56, false), .mv (.t 14)⟩,
 ⟨some 59, some (56, false), .bin .neq (.t 57) (.t 58)⟩,
 qr 60 (.pick (.t 56) (.k (.b true)) (.t 59))])
 (.cond (.t 60)
 (.seq (.reg [qr 6 (.mv (.k (.b false)))])
 (.ret))
 (.skip)))
 (.seq (.seq (.reg [qm 61 10,
 qr 62 (.bin .eql (.t 61) (.k (.i .i64 0)))])
 (.cond (.t 62)
 (.seq (.reg [qm 64 9,
 qm 65 2,
 qr 66 (.call 9 [(1, (.t 64)), (1, (.t 65))]),
 qm 63 66,
 qr 67 (.ext (.t 63) 0),
 qr 68 (.ext (.t 63) 1),
 qm 15 67,
 qm 16 68])
 (.seq (.reg [qm 69 16,
 qr 70 (.bin .neq (.t 69) (.k (.i .i64 0))),
 qm 71 70,
 ⟨some 72, some (71, false), .mv (.t 15)⟩,
 ⟨some 73, some (71, false), .mv (.t 0)⟩,
 ⟨some 74, some (71, false), .call 11 [(1, (.t 73))]⟩,
 ⟨some 75, some (71, false), .call 10 [(1, (.t 72)), (1, (.t 74))]⟩,
 ⟨some 76, some (71, false), .un .not (.t 75)⟩,
 qr 77 (.pick (.t 71) (.k (.b true)) (.t 76))])
 (.cond (.t 77)
 (.seq (.reg [qr 6 (.mv (.k (.b false)))])
 (.ret))
 (.skip))))
 (.skip)))
 (.seq (.reg [qr 6 (.mv (.k (.b true)))])
 (.ret))))))))))
theorem divDigits_spec (a l : List Nat) (b m : Nat) (hm : m ≤ 2000000) (ha : Wd a) (hl : Wd l) (hb : b < 18446744073709551616) (la : a.length ≤ m) (ll : l.length ≤ m) : AFun Try.prog J0 3 [.l 1 (W a), .l 1 (W l), .i .u64 (b : Int)] (.b true) := by
  have hA := nvlt ha la
  have h1 := rdigs_spec a b ha hb (by omega)
  have h2 := digs_spec a b ha hb (by omega)
  have h4 := rundigs_spec l b hl hb (by omega)
  have h5 := undigits_raw l b hl hb (by omega)
  have hn := rnorm_spec a ha (by omega)
  have ln := dlen hA
  have lu : (unD l b).length ≤ m := by
    unfold unD; split
    · rename_i h
      refine dg_len B2 (Nat.lt_of_lt_of_le (nv_lt (b := b) (fun x hx => by simpa using List.all_eq_true.1 h.2 x hx)) ?_)
      exact Nat.le_trans (Nat.pow_le_pow_left (Nat.le_of_lt hb) _) (Nat.pow_le_pow_right B0 ll)
    · exact Nat.zero_le _
  have s2 := same_true (rfl : unD l b = unD l b) (by omega)
  have s3 := same_true (rfl : dg B (nv B a) = dg B (nv B a)) (by omega)
  generalize unD l b = u at *
  generalize unE l b = ue at *
  by_cases hb2 : 2 ≤ b
  · rw [show dgD (nv B a) b = dg b (nv B a) from if_neg (by omega), show dgE b = 0 from if_neg (by omega)] at h1 h2
    have ld : (dg b (nv B a)).length ≤ 64 * m := dg_len hb2 (Nat.lt_of_lt_of_le hA (by rw [B64, ← Nat.pow_mul]; exact Nat.pow_le_pow_left hb2 _))
    have hLt := dg_Lt (b := b) (by omega) (nv B a)
    have s1 := wordsD_true (rfl : dg b (nv B a) = dg b (nv B a)) (by omega)
    have h6 := undigits_raw (dg b (nv B a)) b (fun x hx => Nat.lt_trans (hLt x hx) hb) hb (by omega)
    rw [(unD_pos hb2 hLt).1, (unD_pos hb2 hLt).2, nv_dg hb2] at h6
    generalize dg b (nv B a) = d at *
    generalize dg B (nv B a) = v at *
    refine mkQ fol J0s Try.func3 a3 ?_
    unfold a3
    simp only [init_eq, initE, qm, qr, qn]
    have zc1 := known_spec
    exact wdQ (ai @lconsA (ai @lnilA @bz_LDigits))
  · rw [show dgD (nv B a) b = [] from if_pos (by omega), show dgE b = 3 from if_pos (by omega)] at h1 h2
    have s1 := wordsD_true (rfl : ([] : List Nat) = []) (by simp)
    refine mkQ fol J0s Try.func3 a3 ?_
    unfold a3
    simp only [init_eq, initE, qm, qr, qn]
    have zc2 := known_spec
    exact wdQ (ai @lconsA (ai @lnilA @bz_LDigits))
end Go.Proofs.Ytkpnbgdnaicmdaa
