/-
  zz: what the laws are handed.
-/
import Derived.Test.YteaiegppmbcibaaGI
import Derived.Test.YteaiegppmbcibaaZ1
namespace Go.Proofs.Yteaiegppmbcibaa
open Go Go.ChangeShapes Go.WideShapes Go.ChangeAt Go.RowKit Ab
set_option linter.unusedSimpArgs false
set_option linter.unusedVariables false
set_option maxHeartbeats 10000000
abbrev QZ : List V → Nat → Prop := QSt2 QBool QNat
theorem opens_zb {H : Type} {enc : TypeId × Value → H} {w : World} : Opens enc Try.prog w 4 QBool := opens_bool Try.underlying4
theorem opens_z {H : Type} {enc : TypeId × Value → H} {w : World} : Opens enc Try.prog w 58 QZ :=
  opens_struct2 (s1 := 1) (s2 := 1) Try.underlying58 rfl rfl (by kernel_rfl) (by kernel_rfl) (by kernel_rfl) opens_zb opens_nat
theorem QZ_L {xs : List V} {n : Nat} (h : QZ xs n) : ∃ (s : Bool) (a : List Nat), V.g xs = zL s a ∧ Wd a ∧ a.length ≤ n := by
  obtain ⟨x1, x2, n1, n2, rfl, ⟨s, rfl, rfl⟩, h2, hn⟩ := h
  obtain ⟨a, rfl, wa, la⟩ := QNat_W h2
  exact ⟨s, a, rfl, wa, by omega⟩
end Go.Proofs.Yteaiegppmbcibaa
