/-
  surdlaw19: what the laws are handed.
-/
import Derived.Test.YtfcpigjmagbnkaaGreatDoorQArgs
import Derived.Test.YtfcpigjmagbnkaaGreatDoorC1
namespace Go.Proofs.YtfcpigjmagbnkaaGreatDoor
open Go Go.ChangeShapes Go.WideShapes Go.ChangeAt Go.RowKit Ab
set_option linter.unusedSimpArgs false
set_option linter.unusedVariables false
set_option maxHeartbeats 10000000
abbrev QCell : List V → Nat → Prop := QSt3 QZ (QInt .i64) QBool
theorem opens_cell {H : Type} {enc : TypeId × Value → H} {w : World} : Opens enc Tryz.prog w 37 QCell :=
  opens_struct3 (s1 := 2) (s2 := 1) (s3 := 1) Tryz.underlying37 rfl rfl rfl (by kernel_rfl) (by kernel_rfl) (by kernel_rfl) (by kernel_rfl) opens_z (opens_int Tryz.underlying3) opens_zb
theorem QCell_L {xs : List V} {n : Nat} (h : QCell xs n) : ∃ (s : Bool) (a : List Nat) (k : Int) (p : Bool), V.g xs = cL s a k p ∧ Wd a ∧ a.length ≤ n ∧ -9223372036854775808 ≤ k ∧ k < 9223372036854775808 := by
  obtain ⟨x1, x2, x3, n1, n2, n3, rfl, q1, ⟨k, rfl, wk, _⟩, ⟨p, rfl, _⟩, rfl⟩ := h
  obtain ⟨s, a, e1, wa, la⟩ := QZ_L q1
  injection e1 with e1
  subst e1
  have hk := wf64 wk
  exact ⟨s, a, k, p, rfl, wa, by omega, hk.1, hk.2⟩
end Go.Proofs.YtfcpigjmagbnkaaGreatDoor
