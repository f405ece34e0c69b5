/-
  CellsGrid: the law's walk.
-/
import Derived.Test.YtfcpigjmagbnkaaGreatDoorLCForms
namespace Go.Proofs.YtfcpigjmagbnkaaGreatDoor
open Go Go.RowKit Ab
set_option linter.unusedSimpArgs false
set_option linter.unusedVariables false
set_option maxHeartbeats 10000000
theorem cq_m {p q : Rat} (h : p < q) : cq p q = -1 := by unfold cq; rw [if_pos h]
theorem cq_z (p : Rat) : cq p p = 0 := by unfold cq; rw [if_neg Rat.lt_irrefl, if_pos rfl]
theorem cp_2' (x : Int) : cpV 0 x (!true || !false) = -1 := rfl
theorem cp_2'' (x : Int) : cpV 0 x (!false || !true) = -1 := rfl
theorem cq_p {p q : Rat} (h : q < p) : cq p q = 1 := by unfold cq; grind
theorem mod200u (k : Int) (h1 : -9223372036854775808 ≤ k) (h2 : k < 9223372036854775808) : ∃ n : Nat, n < 200 ∧ IntKind.i64.wrap ((IntKind.u64.wrap k).tmod 200) = (n : Int) := by
  have h3 : IntKind.u64.wrap k = k % 18446744073709551616 := IntKind.wrap_u64 k
  have h4 := Int.emod_nonneg k (show (18446744073709551616 : Int) ≠ 0 by decide)
  rw [h3]
  generalize k % 18446744073709551616 = x at *
  refine ⟨(x.tmod 200).toNat, ?_, ?_⟩
  · have := Int.tmod_lt_of_pos x (show (0 : Int) < 200 by decide); omega
  · have a := Int.tmod_lt_of_pos x (show (0 : Int) < 200 by decide)
    have b := Int.tmod_nonneg 200 h4
    rw [wi (by omega)]; omega
end Go.Proofs.YtfcpigjmagbnkaaGreatDoor
