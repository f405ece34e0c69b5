/-
  gauss: sums, products, conjugates, norms, powers; zpoly.Norm.
-/
import Derived.Test.YteaiegppmbcibaaG1
namespace Go.Proofs.Yteaiegppmbcibaa
open Go Go.RowKit Ab
set_option linter.unusedSimpArgs false
set_option linter.unusedVariables false
set_option maxHeartbeats 10000000
theorem gsize_ok {z : GZ} (h : gsz z < SM) : AFun Try.prog J0 19 [nV z] (.t [.i .i64 ((gsz z : Nat) : Int), .i .i64 0]) := by
  have := gsize_spec z
  rwa [show szV z = ((gsz z : Nat) : Int) from if_pos h, show szE z = 0 from if_pos h] at this
theorem gsize_bad {z : GZ} (h : ¬ gsz z < SM) : AFun Try.prog J0 19 [nV z] (.t [.i .i64 0, .i .i64 13]) := by
  have := gsize_spec z
  rwa [show szV z = 0 from if_neg h, show szE z = 13 from if_neg h] at this
def mOk (x y : GZ) : Prop := gsz x < SM ∧ gsz y < SM ∧ gsz x * gsz y < SM
instance (x y : GZ) : Decidable (mOk x y) := by unfold mOk; infer_instance
def nE (z : GZ) : Int := if gsz z * gsz z < SM then 0 else 13
end Go.Proofs.Yteaiegppmbcibaa
