/-
  The texts NM7, NM9, M8, M9.
-/
import Derived.Test.YteaiegppmbcibaaGD
import Derived.Lib.Mul64
import Derived.WalkKit
import Derived.Lib.Walk
import Derived.Lib.SliceRun
import Derived.Lib.AppendZerosOnto
import Derived.Test.YteaiegppmbcibaaGE
import Derived.Test.YteaiegppmbcibaaGC
namespace Go.Proofs.Yteaiegppmbcibaa
open Go Go.RowKit Ab
set_option linter.unusedSimpArgs false
set_option linter.unusedVariables false
set_option maxHeartbeats 10000000
end Go.Proofs.Yteaiegppmbcibaa
namespace Go.Proofs.Yteaiegppmbcibaa
open Go Go.RowKit Ab
set_option linter.unusedSimpArgs false
set_option linter.unusedVariables false
set_option maxHeartbeats 10000000
theorem W1 (x : Nat) : W [x] = [.i .u64 (x : Int)] := rfl
theorem dg_one {w : Nat} (h0 : 0 < w) (hw : w < B) : dg B w = [w] := by
  rw [← dg_fl B2 (n := 1) (by rw [Nat.pow_one]; exact hw), fl, fl, Nat.mod_eq_of_lt hw, tz, tz, if_neg (by omega)]
theorem norm_dg (a : List Nat) (ha : Wd a) (la : a.length ≤ 1099511627776) : AFun Try.prog J0 66 [.l 1 (W a)] (.o 60 1 (W (dg B (nv B a)))) := by
  have := norm_spec a la
  rwa [tz_dg B2 ha] at this
end Go.Proofs.Yteaiegppmbcibaa
namespace Go.Proofs.Yteaiegppmbcibaa
open Go Go.RowKit Ab
set_option linter.unusedSimpArgs false
set_option linter.unusedVariables false
set_option maxHeartbeats 10000000
end Go.Proofs.Yteaiegppmbcibaa
namespace Go.Proofs.Yteaiegppmbcibaa
open Go Go.RowKit Ab
set_option linter.unusedSimpArgs false
set_option linter.unusedVariables false
set_option maxHeartbeats 10000000
end Go.Proofs.Yteaiegppmbcibaa
