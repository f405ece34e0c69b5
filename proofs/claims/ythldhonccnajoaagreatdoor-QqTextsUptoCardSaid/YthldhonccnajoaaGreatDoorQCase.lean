/-
  surdlaw08: what the laws are handed, opened.
-/
import Derived.Test.YthldhonccnajoaaGreatDoorQArgs
import Derived.Test.YthldhonccnajoaaGreatDoorDoor
namespace Go.Proofs.YthldhonccnajoaaGreatDoor
open Go Go.ChangeShapes Go.WideShapes Go.ChangeAt Go.RowKit Ab
set_option linter.unusedSimpArgs false
set_option linter.unusedVariables false
set_option maxHeartbeats 10000000
abbrev QCase : List V → Nat → Prop := QSt10 QRat QRat QRat QZ QZ (QInt .i64) (QInt .i64) (QInt .i64) QRats QStr
theorem opens_case {H : Type} {enc : TypeId × Value → H} {w : World} : Opens enc Tryz.prog w 30 QCase :=
  opens_case10 Tryz.underlying30 rfl rfl rfl rfl rfl rfl rfl rfl rfl rfl (by kernel_rfl) (by kernel_rfl) (by kernel_rfl) (by kernel_rfl) (by kernel_rfl) (by kernel_rfl) (by kernel_rfl) (by kernel_rfl) (by kernel_rfl) (by kernel_rfl) (by kernel_rfl)
    opens_rat opens_rat opens_rat opens_z opens_z (opens_int Tryz.underlying3) (opens_int Tryz.underlying3) (opens_int Tryz.underlying3) opens_rats (opens_string Tryz.underlying9)
structure QIs (a0 d0 a1 d1 a2 d2 a3 a4 : List Nat) (n m k : Int) (l : List (Bool × List Nat × List Nat)) : Prop where
  a0 : Wd a0
  d0 : Wd d0
  a1 : Wd a1
  d1 : Wd d1
  a2 : Wd a2
  d2 : Wd d2
  a3 : Wd a3
  a4 : Wd a4
  n1 : -9223372036854775808 ≤ n
  n2 : n < 9223372036854775808
  m1 : -9223372036854775808 ≤ m
  m2 : m < 9223372036854775808
  k1 : -9223372036854775808 ≤ k
  k2 : k < 9223372036854775808
  l : ∀ p, p ∈ l → Wd p.2.1 ∧ Wd p.2.2
end Go.Proofs.YthldhonccnajoaaGreatDoor
