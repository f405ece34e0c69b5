/-
  The texts R1, R2, R3.
-/
import Derived.Test.YtdafakcccjjpiaaGF
import Derived.Test.YtdafakcccjjpiaaGE
import Derived.Test.YtdafakcccjjpiaaGC
namespace Go.Proofs.Ytdafakcccjjpiaa
open Go Go.RowKit Ab
set_option linter.unusedSimpArgs false
set_option linter.unusedVariables false
set_option maxHeartbeats 10000000
theorem mk_Bl (n : Nat) : (List.replicate n [V.b false]).flatten = Bl (List.replicate n 0) := by
  induction n with
  | zero => rfl
  | succ n ih => rw [List.replicate_succ, List.flatten_cons, ih, List.replicate_succ]; rfl
theorem dg2_len {a : List Nat} (ha : Wd a) : (dg 2 (nv B a)).length ≤ 64 * a.length := dg_len (by decide) (by
  have := nv_lt ha
  rwa [B64, ← Nat.pow_mul] at this)
end Go.Proofs.Ytdafakcccjjpiaa
namespace Go.Proofs.Ytdafakcccjjpiaa
open Go Go.RowKit Ab
set_option linter.unusedSimpArgs false
set_option linter.unusedVariables false
set_option maxHeartbeats 10000000
theorem Wd1 {x : Nat} (h : x < 18446744073709551616) : Wd [x] := fun y hy => by rw [List.mem_singleton] at hy; rw [hy]; exact h
end Go.Proofs.Ytdafakcccjjpiaa
namespace Go.Proofs.Ytdafakcccjjpiaa
open Go Go.RowKit Ab
set_option linter.unusedSimpArgs false
set_option linter.unusedVariables false
set_option maxHeartbeats 10000000
end Go.Proofs.Ytdafakcccjjpiaa
