/-
  zz, surdref07: powers, shifts.
-/
import Derived.Test.YtgejbndgakgfnaaGreatDoorZ2
import Derived.Test.YtgejbndgakgfnaaGreatDoorGG
import Derived.Test.YtgejbndgakgfnaaGreatDoorGE
import Derived.Test.YtgejbndgakgfnaaGreatDoorGC
import Derived.Test.YtgejbndgakgfnaaGreatDoorNM8
import Derived.Test.YtgejbndgakgfnaaGreatDoorGD
import Derived.Test.YtgejbndgakgfnaaGreatDoorZb
namespace Go.Proofs.YtgejbndgakgfnaaGreatDoor
open Go Go.RowKit Ab
set_option linter.unusedSimpArgs false
set_option linter.unusedVariables false
set_option maxHeartbeats 10000000
theorem bz_Z10 : type_of% (And.intro @Bool.false_and (And.intro @wi (And.intro @tn_nat (And.intro @Nat.div_one (And.intro @Nat.mul_one (And.intro @W_len (And.intro @W_nf (And.intro @W_cell (And.intro @W_nil (And.intro @W_get (@nf_g))))))))))) := And.intro @Bool.false_and (And.intro @wi (And.intro @tn_nat (And.intro @Nat.div_one (And.intro @Nat.mul_one (And.intro @W_len (And.intro @W_nf (And.intro @W_cell (And.intro @W_nil (And.intro @W_get (@nf_g))))))))))
theorem shlR_ok {v n : Nat} (h : n ≤ 1048576) : shlR v (n : Int) = (dg B (v * 2 ^ n), 0) := by unfold shlR; rw [if_neg (by omega)]; rfl
theorem zI_mul2 (s : Bool) (u n : Nat) : zI s (u * 2 ^ n) = zI s u * 2 ^ n := by
  unfold zI; cases s <;> simp [Int.natCast_mul, Int.neg_mul]
def zlV (x : Int) (n : Int) : Int := if n < 0 ∨ 1048576 < n then 0 else x * 2 ^ n.toNat
def zlE (n : Int) : Int := if n < 0 ∨ 1048576 < n then 3 else 0
theorem shl_len' {u m n e : Nat} (hu : u < B ^ m) (hn : n ≤ 64 * e) : u * 2 ^ n < B ^ (m + e) := by
  have h2n : 2 ^ n ≤ B ^ e := by
    rw [B64, ← Nat.pow_mul]; exact Nat.pow_le_pow_right (by decide) hn
  rw [Nat.pow_add]
  exact Nat.lt_of_lt_of_le (Nat.mul_lt_mul_of_pos_right hu (Nat.two_pow_pos n)) (Nat.mul_le_mul_left _ h2n)
theorem shl_len {u m : Nat} {n : Nat} (hu : u < B ^ m) (hn : n ≤ 1048576) : u * 2 ^ n < B ^ (m + 16384) := shl_len' hu (by omega)
def a96 : AC := .seq (.reg [qr 2 (.bx 25 (.t 0)),
 qr 4 (.al 25 [(.b false), (.l 1 [])]),
 qr 5 (.mv (.k (.i .i64 0)))])
 (.seq (.seq (.reg [qm 8 1,
 qr 9 (.bin .lss (.t 8) (.k (.i .i64 0))),
 qm 10 9,
 ⟨some 11, some (10, false), .mv (.t 1)⟩,
 ⟨some 12, some (10, false), .bin .gtr (.t 11) (.k (.i .i64 1048576))⟩,
 qr 13 (.pick (.t 10) (.k (.b true)) (.t 12))])
 (.cond (.t 13)
 (.seq (.reg [qr 14 (.bld [(.b false), (.l 1 [])] []),
 qn (.st 2 (.t 4) (.t 14)),
 qr 5 (.mv (.k (.i .i64 3)))])
 (.ret))
 (.skip)))
 (.seq (.reg [qr 16 (.fad 1 (.t 2)),
 qr 17 (.ld false 1 (.t 16)),
 qm 18 1,
 qr 19 (.call 100 [(1, (.t 17)), (1, (.t 18))]),
 qm 15 19,
 qr 20 (.ext (.t 15) 0),
 qr 21 (.ext (.t 15) 1),
 qm 6 20,
 qm 7 21])
 (.seq (.seq (.reg [qm 22 7,
 qr 23 (.bin .neq (.t 22) (.k (.i .i64 0)))])
 (.cond (.t 23)
 (.seq (.reg [qr 24 (.bld [(.b false), (.l 1 [])] []),
 qn (.st 2 (.t 4) (.t 24)),
 qr 5 (.mv (.k (.i .i64 3)))])
 (.ret))
 (.skip)))
 (.seq (.reg [qr 25 (.fad 0 (.t 2)),
 qr 26 (.ld false 1 (.t 25)),
 qm 27 6,
 qr 28 (.call 39 [(1, (.t 26)), (1, (.t 27))]),
 qn (.st 2 (.t 4) (.t 28)),
 qr 5 (.mv (.k (.i .i64 0)))])
 (.ret)))))
theorem zshl_spec (s : Bool) (a : List Nat) (n : Int) (ha : Wd a) (la : a.length ≤ 1000000000) : AFun Tryz.prog J0 96 [zL s a, .i .i64 n] (.t [zN (zlV (zv s a) n), .i .i64 (zlE n)]) := by
  have h := shl_spec a n ha (by omega)
  rw [show zv s a = zI s (nv B a) from rfl]
  by_cases h1 : n < 0
  · rw [show zlV (zI s (nv B a)) n = 0 from if_pos (.inl h1), show zlE n = 3 from if_pos (.inl h1)]
    refine mkcQ fol J0s Tryz.func96 a96 [.c 4 true 2, .t 5] ?_
    unfold a96
    simp only [init_eq, initE, qm, qr, qn]
    exact pcQ (ai @zN_0 (ai @h1 (ai @lnilA @bz_Z10)))
  · by_cases h2 : 1048576 < n
    · rw [show zlV (zI s (nv B a)) n = 0 from if_pos (.inr h2), show zlE n = 3 from if_pos (.inr h2)]
      refine mkcQ fol J0s Tryz.func96 a96 [.c 4 true 2, .t 5] ?_
      unfold a96
      simp only [init_eq, initE, qm, qr, qn]
      exact pcQ (ai @zN_0 (ai @h2 (ai @h1 (ai @lnilA @bz_Z10))))
    · obtain ⟨k, rfl⟩ : ∃ k : Nat, n = (k : Int) := ⟨n.toNat, by omega⟩
      rw [shlR_ok (by omega)] at h
      have hof := zof_spec s (nv B a * 2 ^ k)
      rw [zI_mul2] at hof
      rw [show zlV (zI s (nv B a)) (k : Int) = zI s (nv B a) * 2 ^ k from if_neg (by omega), show zlE (k : Int) = 0 from if_neg (by omega)]
      generalize zI s (nv B a) * 2 ^ k = z at *
      refine mkcQ fol J0s Tryz.func96 a96 [.c 4 true 2, .t 5] ?_
      unfold a96
      simp only [init_eq, initE, qm, qr, qn]
      exact wcQ (ai @h2 (ai @h1 (ai @lnilA @bz_Z10)))
end Go.Proofs.YtgejbndgakgfnaaGreatDoor
