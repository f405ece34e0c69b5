/-
  surdlaw08: the case that the laws are handed.
-/
import Derived.Test.YtbkpaeejjepnpaaGreatZArgs
import Derived.Test.YtbkpaeejjepnpaaGreatQB
namespace Go.Proofs.YtbkpaeejjepnpaaGreat
open Go Go.ChangeShapes Go.WideShapes Go.ChangeAt Go.RowKit Ab
set_option linter.unusedSimpArgs false
set_option linter.unusedVariables false
set_option maxHeartbeats 10000000
abbrev QRat : List V → Nat → Prop := QSt2 QZ QNat
theorem opens_rat {H : Type} {enc : TypeId × Value → H} {w : World} : Opens enc Tryz.prog w 31 QRat :=
  opens_struct2 (s1 := 2) (s2 := 1) Tryz.underlying31 rfl rfl (by kernel_rfl) (by kernel_rfl) (by kernel_rfl) opens_z opens_nat
abbrev QRats : List V → Nat → Prop := QSl 3 QRat
theorem opens_rats {H : Type} {enc : TypeId × Value → H} {w : World} : Opens enc Tryz.prog w 22 QRats := opens_slice Tryz.underlying22 (by kernel_rfl) (by decide) opens_rat
end Go.Proofs.YtbkpaeejjepnpaaGreat
