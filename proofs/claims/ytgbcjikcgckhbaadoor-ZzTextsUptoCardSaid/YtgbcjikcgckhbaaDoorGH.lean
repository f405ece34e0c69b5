/-
  The texts R1, R2, R3.
-/
import Derived.Test.YtgbcjikcgckhbaaDoorGG
import Derived.Test.YtgbcjikcgckhbaaDoorGE
import Derived.Test.YtgbcjikcgckhbaaDoorGC
namespace Go.Proofs.YtgbcjikcgckhbaaDoor
open Go Go.RowKit Ab
set_option linter.unusedSimpArgs false
set_option linter.unusedVariables false
set_option maxHeartbeats 10000000
theorem bz_R1 : type_of% (And.intro @W_len (And.intro @D_len (And.intro @Bl_len (And.intro @Nat.div_one (And.intro @Nat.mul_one (And.intro @tn_nat (And.intro @W_nf (And.intro @D_nf (And.intro @Bl_nf (And.intro @W_nil (And.intro @D_nil (And.intro @Bl_nil (@wi))))))))))))) := And.intro @W_len (And.intro @D_len (And.intro @Bl_len (And.intro @Nat.div_one (And.intro @Nat.mul_one (And.intro @tn_nat (And.intro @W_nf (And.intro @D_nf (And.intro @Bl_nf (And.intro @W_nil (And.intro @D_nil (And.intro @Bl_nil (@wi))))))))))))
theorem D_set (a : List Nat) (i x : Nat) : (D a).set i (.i .i64 (x : Int)) = D (a.set i x) := by simp [D]
theorem Bl_setT (a : List Nat) (i : Nat) : (Bl a).set i (.b true) = Bl (a.set i 1) := by simp [Bl]
theorem mk_Bl (n : Nat) : (List.replicate n [V.b false]).flatten = Bl (List.replicate n 0) := by
  induction n with
  | zero => rfl
  | succ n ih => rw [List.replicate_succ, List.flatten_cons, ih, List.replicate_succ]; rfl
theorem mk_D (n : Nat) : (List.replicate n [V.i .i64 0]).flatten = D (List.replicate n 0) := by
  induction n with
  | zero => rfl
  | succ n ih => rw [List.replicate_succ, List.flatten_cons, ih, List.replicate_succ]; rfl
theorem dg2_len {a : List Nat} (ha : Wd a) : (dg 2 (nv B a)).length ≤ 64 * a.length := dg_len (by decide) (by
  have := nv_lt ha
  rwa [B64, ← Nat.pow_mul] at this)
end Go.Proofs.YtgbcjikcgckhbaaDoor
namespace Go.Proofs.YtgbcjikcgckhbaaDoor
open Go Go.RowKit Ab
set_option linter.unusedSimpArgs false
set_option linter.unusedVariables false
set_option maxHeartbeats 10000000
theorem bz_R2 : type_of% (And.intro @wi (And.intro @tn_nat (And.intro @Nat.div_one (And.intro @Nat.mul_one (And.intro @W_len (And.intro @W_nf (And.intro @W_cell (And.intro @W_nil (@W_get))))))))) := And.intro @wi (And.intro @tn_nat (And.intro @Nat.div_one (And.intro @Nat.mul_one (And.intro @W_len (And.intro @W_nf (And.intro @W_cell (And.intro @W_nil (@W_get))))))))
theorem Wd1 {x : Nat} (h : x < 18446744073709551616) : Wd [x] := fun y hy => by rw [List.mem_singleton] at hy; rw [hy]; exact h
def wdW (u : Nat) : Nat := if u < 18446744073709551616 then u else 0
def wdE (u : Nat) : Int := if u < 18446744073709551616 then 0 else 13
theorem dg_big {u : Nat} (h : ¬ u < 18446744073709551616) : 1 < (dg B u).length := by
  rcases Nat.lt_or_ge 1 (dg B u).length with h1 | h1
  · exact h1
  · have h2 := nv_lt (Wd_dg u)
    rw [nv_dgB] at h2
    have : B ^ (dg B u).length ≤ B ^ 1 := Nat.pow_le_pow_right (by decide) h1
    rw [Nat.pow_one] at this
    exact absurd (Nat.lt_of_lt_of_le h2 this) h
end Go.Proofs.YtgbcjikcgckhbaaDoor
namespace Go.Proofs.YtgbcjikcgckhbaaDoor
open Go Go.RowKit Ab
set_option linter.unusedSimpArgs false
set_option linter.unusedVariables false
set_option maxHeartbeats 10000000
theorem bz_R3 : type_of% (And.intro @wi (And.intro @tn_nat (And.intro @Nat.div_one (And.intro @Nat.mul_one (And.intro @W_len (And.intro @W_nf (And.intro @W_cell (And.intro @W_nil (@W_get))))))))) := And.intro @wi (And.intro @tn_nat (And.intro @Nat.div_one (And.intro @Nat.mul_one (And.intro @W_len (And.intro @W_nf (And.intro @W_cell (And.intro @W_nil (@W_get))))))))
end Go.Proofs.YtgbcjikcgckhbaaDoor
