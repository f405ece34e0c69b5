/-
  Rows of integers.
-/
import Derived.Test.YteaiegppmbcibaaZ1
namespace Go.Proofs.Yteaiegppmbcibaa
open Go Go.RowKit Ab
set_option linter.unusedSimpArgs false
set_option linter.unusedVariables false
set_option maxHeartbeats 10000000
def ZC : List (Bool × List Nat) → List V
  | [] => []
  | p :: r => .b p.1 :: .l 1 (W p.2) :: ZC r
theorem ZC_len : ∀ l, (ZC l).length = l.length * 2
  | [] => rfl
  | p :: r => by simp only [ZC, List.length_cons, ZC_len r]; omega
theorem ZC_row : ∀ (l : List (Bool × List Nat)) (i : Nat), i < l.length → ((ZC l).drop (i * 2)).take 2 = [.b (l.getD i (false, [])).1, .l 1 (W (l.getD i (false, [])).2)] ∧ (ZC l).getD (i * 2 + 1) .un = .l 1 (W (l.getD i (false, [])).2)
  | [], i, h => by simp at h
  | p :: r, 0, h => ⟨rfl, rfl⟩
  | p :: r, i + 1, h => by
    have := ZC_row r i (by simpa using h)
    rw [show (i + 1) * 2 = (i * 2 + 1) + 1 from by omega]
    exact this
def zvp (p : Bool × List Nat) : Int := zv p.1 p.2
def nfp (c : Int) : Bool × List Nat := (decide (c < 0), dg B c.natAbs)
theorem zvp_nfp (c : Int) : zvp (nfp c) = c := zv_N c
theorem ZC_app : ∀ (l r : List (Bool × List Nat)), ZC (l ++ r) = ZC l ++ ZC r
  | [], r => rfl
  | p :: l, r => by simp only [List.cons_append, ZC, ZC_app l r]
theorem ZC_app1 (l : List (Bool × List Nat)) (c : Int) : ZC l ++ [.b (decide (c < 0)), .l 1 (W (dg B c.natAbs))] = ZC (l ++ [nfp c]) := by rw [ZC_app]; rfl
theorem ZC_nil : ZC [] = [] := rfl
theorem ZC_cell : ∀ l, (ZC l).all V.cell = true
  | [] => rfl
  | p :: r => by simp only [ZC, List.all_cons, V.cell, ZC_cell r, Bool.and_true]
end Go.Proofs.Yteaiegppmbcibaa
