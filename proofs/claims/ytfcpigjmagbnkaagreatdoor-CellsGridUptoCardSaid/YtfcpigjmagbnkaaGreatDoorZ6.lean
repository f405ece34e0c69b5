/-
  zz, surdref07: plain ints, forms, bits.
-/
import Derived.Test.YtfcpigjmagbnkaaGreatDoorZ4
import Derived.Test.YtfcpigjmagbnkaaGreatDoorNB
namespace Go.Proofs.YtfcpigjmagbnkaaGreatDoor
open Go Go.RowKit Ab
set_option linter.unusedSimpArgs false
set_option linter.unusedVariables false
set_option maxHeartbeats 10000000
theorem bz_Z6 : type_of% (And.intro @Bool.false_and (And.intro @Bool.true_and (And.intro @wi (And.intro @tn_nat (And.intro @Nat.div_one (And.intro @Nat.mul_one (And.intro @W_len (And.intro @W_nf (And.intro @W_cell (And.intro @W_nil (And.intro @W_get (@nf_g)))))))))))) := And.intro @Bool.false_and (And.intro @Bool.true_and (And.intro @wi (And.intro @tn_nat (And.intro @Nat.div_one (And.intro @Nat.mul_one (And.intro @W_len (And.intro @W_nf (And.intro @W_cell (And.intro @W_nil (And.intro @W_get (@nf_g)))))))))))
def smV (z : Int) : Int := if -9223372036854775808 ≤ z ∧ z ≤ 9223372036854775807 then z else 0
def smE (z : Int) : Int := if -9223372036854775808 ≤ z ∧ z ≤ 9223372036854775807 then 0 else 13
theorem sm_i {z : Int} {w : Nat} {s : Bool} (hz : z = zI s w) (h : w < 18446744073709551616) :
    (s = true ∧ w ≤ 9223372036854775808 → smV z = IntKind.i64.wrap (IntKind.u64.wrap (0 - (w : Int))) ∧ smE z = 0) ∧ (s = false ∧ w ≤ 9223372036854775807 → smV z = (w : Int) ∧ smE z = 0) ∧ (s = true ∧ ¬ w ≤ 9223372036854775808 ∨ s = false ∧ ¬ w ≤ 9223372036854775807 → smV z = 0 ∧ smE z = 13) := by
  subst hz
  unfold smV smE zI
  refine ⟨fun ⟨h1, h2⟩ => ?_, fun ⟨h1, h2⟩ => ?_, fun h1 => ?_⟩
  · subst h1
    simp only [if_true]
    rw [if_pos (by omega), if_pos (by omega)]
    refine ⟨?_, rfl⟩
    rw [IntKind.wrap_u64, IntKind.wrap_i64]; omega
  · subst h1
    simp only [Bool.false_eq_true, if_false]
    rw [if_pos (by omega), if_pos (by omega)]
    exact ⟨rfl, rfl⟩
  · rcases h1 with ⟨h1, h2⟩ | ⟨h1, h2⟩ <;> subst h1 <;> simp only [Bool.false_eq_true, if_false, if_true] <;> rw [if_neg (by omega), if_neg (by omega)] <;> exact ⟨rfl, rfl⟩
theorem sm_big {z : Int} (h : ¬ z.natAbs < 18446744073709551616) : smV z = 0 ∧ smE z = 13 := ⟨if_neg (by omega), if_neg (by omega)⟩
def a80 : AC := .seq (.reg [qr 1 (.bx 25 (.t 0)),
 qr 2 (.mv (.k (.i .i64 0)))])
 (.seq (.reg [qr 3 (.fad 1 (.t 1)),
 qr 4 (.ld false 1 (.t 3)),
 qr 5 (.call 79 [(1, (.t 4))]),
 qm 2 5])
 (.ret))
theorem zbits_spec (s : Bool) (a : List Nat) (ha : Wd a) (la : a.length ≤ 1000000000) : AFun Tryz.prog J0 80 [zL s a] (.i .i64 ((bl (nv B a) : Nat) : Int)) := by
  have h := natBits_spec a ha (by omega)
  refine mkQ fol J0s Tryz.func80 a80 ?_
  unfold a80
  simp only [init_eq, initE, qm, qr, qn]
  exact wdQ (ai @lnilA @bz_Z6)
end Go.Proofs.YtfcpigjmagbnkaaGreatDoor
