/-
  The texts Q16, Q17, Q18, Q19.
-/
import Derived.Test.YtgejbndgakgfnaaGreatDoorQD
namespace Go.Proofs.YtgejbndgakgfnaaGreatDoor
open Go Go.RowKit Ab
set_option linter.unusedSimpArgs false
set_option linter.unusedVariables false
set_option maxHeartbeats 10000000
theorem mul_lt {x y : Int} {m : Nat} (hx : x.natAbs < B ^ m) (hy : y.natAbs < B ^ m) : (x * y).natAbs < B ^ (m + m) := by
  rw [Int.natAbs_mul, Nat.pow_add]; exact Nat.mul_lt_mul'' hx hy
theorem mulN_lt {x y m : Nat} (hx : x < B ^ m) (hy : y < B ^ m) : x * y < B ^ (m + m) := by
  rw [Nat.pow_add]; exact Nat.mul_lt_mul'' hx hy
end Go.Proofs.YtgejbndgakgfnaaGreatDoor
namespace Go.Proofs.YtgejbndgakgfnaaGreatDoor
open Go Go.RowKit Ab
set_option linter.unusedSimpArgs false
set_option linter.unusedVariables false
set_option maxHeartbeats 10000000
def pe (z : Int) (n : Int) : Int := if n < 0 then re (z ^ (-n).toNat).natAbs else 0
theorem cap (m k K : Nat) (h : m * (K + 1) + 1 ≤ 1000000) (hk : k ≤ K) : m * k + 1 ≤ 1000000 ∧ m * (k + 1) + 1 ≤ 100000000 := by
  have h1 := Nat.mul_le_mul_left m (show k + 1 ≤ K + 1 by omega)
  have h2 := Nat.mul_le_mul_left m (show k ≤ k + 1 by omega)
  omega
end Go.Proofs.YtgejbndgakgfnaaGreatDoor
namespace Go.Proofs.YtgejbndgakgfnaaGreatDoor
open Go Go.RowKit Ab
set_option linter.unusedSimpArgs false
set_option linter.unusedVariables false
set_option maxHeartbeats 10000000
theorem rzN_co {z : Int} {d : Nat} (h : Nat.gcd z.natAbs d = 1) : rz z d = z := by unfold rz; rw [show rG z d = 1 from h]; exact Int.tdiv_one _
theorem rdenN_co {z : Int} {d : Nat} (h : Nat.gcd z.natAbs d = 1) : rden z d = d := by unfold rden; rw [show rG z d = 1 from h]; exact Nat.div_one _
end Go.Proofs.YtgejbndgakgfnaaGreatDoor
namespace Go.Proofs.YtgejbndgakgfnaaGreatDoor
open Go Go.RowKit Ab
set_option linter.unusedSimpArgs false
set_option linter.unusedVariables false
set_option maxHeartbeats 10000000
abbrev nul3 : Bool × List Nat × List Nat := (false, [], [])
theorem getD_mem {l : List (Bool × List Nat × List Nat)} {i : Nat} (h : i < l.length) : l.getD i nul3 ∈ l := by
  rw [List.getD_eq_getElem?_getD, List.getElem?_eq_getElem h]; exact List.getElem_mem _
theorem ce_0 {l : List (Bool × List Nat × List Nat)} (h : ce l = 0) {i : Nat} (hi : i < l.length) : nv B (l.getD i nul3).2.2 ≠ 0 := fun h0 => by
  unfold ce at h
  rw [if_pos (List.any_eq_true.2 ⟨_, getD_mem hi, by simpa using h0⟩)] at h
  exact absurd h (by decide)
theorem ce_01 (l : List (Bool × List Nat × List Nat)) : ce l = 0 ∨ ce l = 1 := by unfold ce; split; exact .inr rfl; exact .inl rfl
def a8 : AC := .seq (.reg [qr 2 (.al 27 [(.b false), (.l 1 []), (.l 1 [])]),
 qr 3 (.mv (.k (.i .i64 0)))])
 (.seq (.seq (.reg [qm 8 0,
 qr 9 (.call 19 [(3, (.t 8))]),
 qm 4 9])
 (.seq (.reg [qm 10 4,
 qr 11 (.bin .neq (.t 10) (.k (.i .i64 0)))])
 (.cond (.t 11)
 (.seq (.reg [qr 12 (.bld [(.b false), (.l 1 []), (.l 1 [])] []),
 qm 13 4,
 qn (.st 3 (.t 2) (.t 12)),
 qm 3 13])
 (.ret))
 (.skip))))
 (.seq (.reg [qr 14 (.call 20 [(1, (.k (.i .u64 1)))]),
 qr 15 (.bld [(.b false), (.l 1 []), (.l 1 [])] [(2, 1, (.t 14))]),
 qr 5 (.al 27 [(.b false), (.l 1 []), (.l 1 [])]),
 qn (.st 3 (.t 5) (.t 15))])
 (.seq (.seq (.reg [qm 16 0,
 qr 17 (.len (.t 16)),
 qr 18 (.mv (.k (.i .i64 0)))])
 (.blk 0
 (.loop
 (.seq (.reg [qr 19 (.bin .lss (.t 18) (.t 17))])
 (.seq (.cond (.t 19)
 (.skip)
 (.exit 0))
 (.seq (.blk 1
 (.seq (.reg [qr 20 (.idx 3 (.t 16) (.t 18)),
 qr 21 (.ld true 3 (.t 20)),
 qr 7 (.al 27 [(.b false), (.l 1 []), (.l 1 [])]),
 qn (.st 3 (.t 7) (.t 21))])
 (.reg [qr 23 (.ld true 3 (.t 5)),
 qr 24 (.ld true 3 (.t 7)),
 qr 25 (.call 11 [(1, (.t 23)), (1, (.t 24))]),
 qm 22 25,
 qr 26 (.ext (.t 22) 0),
 qr 27 (.ext (.t 22) 1),
 qn (.st 3 (.t 5) (.t 26))])))
 (.reg [qr 28 (.bin .add (.t 18) (.k (.i .i64 1))),
 qm 18 28])))))))
 (.seq (.reg [qr 29 (.ld true 3 (.t 5)),
 qn (.st 3 (.t 2) (.t 29)),
 qr 3 (.mv (.k (.i .i64 0)))])
 (.ret)))))
end Go.Proofs.YtgejbndgakgfnaaGreatDoor
