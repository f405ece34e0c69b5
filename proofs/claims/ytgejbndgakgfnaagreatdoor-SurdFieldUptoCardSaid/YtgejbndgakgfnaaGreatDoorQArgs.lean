/-
  surdlaw08: the case that the laws are handed.
-/
import Derived.Test.YtgejbndgakgfnaaGreatDoorZArgs
import Derived.Test.YtgejbndgakgfnaaGreatDoorQB
namespace Go.Proofs.YtgejbndgakgfnaaGreatDoor
open Go Go.ChangeShapes Go.WideShapes Go.ChangeAt Go.RowKit Ab
set_option linter.unusedSimpArgs false
set_option linter.unusedVariables false
set_option maxHeartbeats 10000000
abbrev QRat : List V → Nat → Prop := QSt2 QZ QNat
theorem opens_rat {H : Type} {enc : TypeId × Value → H} {w : World} : Opens enc Tryz.prog w 27 QRat :=
  opens_struct2 (s1 := 2) (s2 := 1) Tryz.underlying27 rfl rfl (by kernel_rfl) (by kernel_rfl) (by kernel_rfl) opens_z opens_nat
theorem QRat_L {xs : List V} {n : Nat} (h : QRat xs n) : ∃ (s : Bool) (a d : List Nat), xs = [.b s, .l 1 (W a), .l 1 (W d)] ∧ Wd a ∧ Wd d ∧ a.length ≤ n ∧ d.length ≤ n := by
  obtain ⟨x1, x2, n1, n2, rfl, q1, q2, rfl⟩ := h
  obtain ⟨s, a, e1, wa, la⟩ := QZ_L q1
  obtain ⟨d, rfl, wd, ld⟩ := QNat_W q2
  have e : x1 = [.b s, .l 1 (W a)] := by injection e1
  exact ⟨s, a, d, by rw [e]; rfl, wa, wd, by omega, by omega⟩
end Go.Proofs.YtgejbndgakgfnaaGreatDoor
