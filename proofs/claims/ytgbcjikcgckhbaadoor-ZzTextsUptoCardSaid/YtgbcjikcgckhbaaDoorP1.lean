/-
  mul: products.
-/
import Derived.Test.YtgbcjikcgckhbaaDoorGF
import Derived.Test.YtgbcjikcgckhbaaDoorNM8
import Derived.Test.YtgbcjikcgckhbaaDoorGG
import Derived.Test.YtgbcjikcgckhbaaDoorGC
namespace Go.Proofs.YtgbcjikcgckhbaaDoor
open Go Go.RowKit Ab
set_option linter.unusedSimpArgs false
set_option linter.unusedVariables false
set_option maxHeartbeats 10000000
theorem bz_P1 : type_of% (And.intro @wi (And.intro @tn_nat (And.intro @Nat.div_one (And.intro @Nat.mul_one (And.intro @W_len (And.intro @W_nf (And.intro @W_cell (And.intro @W_nil (@W_get))))))))) := And.intro @wi (And.intro @tn_nat (And.intro @Nat.div_one (And.intro @Nat.mul_one (And.intro @W_len (And.intro @W_nf (And.intro @W_cell (And.intro @W_nil (@W_get))))))))
theorem mk_W' (n : Nat) : (List.replicate n [V.i .u64 0]).flatten = W (List.replicate n 0) := mk_W n
theorem tn_pp (a b : Nat) : ((a : Int) + (b : Int)).toNat = a + b := by omega
theorem mn' (a b : Nat) : min (a : Int) (b : Int) = ((min a b : Nat) : Int) := by omega
def lf (v n : Nat) : List Nat := if v = 0 then [] else List.replicate n 0 ++ dg B v
theorem lf_nv (v n : Nat) : nv B (lf v n) = v * B ^ n := by
  unfold lf
  split
  · rename_i h; rw [h, Nat.zero_mul]; rfl
  · rw [nv_app, nv_rep, List.length_replicate, nv_dgB, Nat.zero_add, Nat.mul_comm]
theorem lf_Wd (v n : Nat) : Wd (lf v n) := by
  unfold lf
  split
  · exact Wd_nil
  · exact Wd_app (Lt_rep (by decide)) (Wd_dg v)
theorem lf_len {v n m : Nat} (h : v < B ^ m) : (lf v n).length ≤ n + m := by
  unfold lf
  split
  · exact Nat.zero_le _
  · rw [List.length_append, List.length_replicate]; have := dlen h; omega
theorem school_pre (a b : List Nat) : a.length ≤ b.length ∨ b.length < a.length := by omega
end Go.Proofs.YtgbcjikcgckhbaaDoor
