/-
  zz, surdref07: plain ints, forms, bits.
-/
import Derived.Test.YteaiegppmbcibaaZ2
import Derived.Test.YteaiegppmbcibaaGH
import Derived.Test.YteaiegppmbcibaaNM8
import Derived.Test.YteaiegppmbcibaaGE
import Derived.Test.YteaiegppmbcibaaNB
namespace Go.Proofs.Yteaiegppmbcibaa
open Go Go.RowKit Ab
set_option linter.unusedSimpArgs false
set_option linter.unusedVariables false
set_option maxHeartbeats 10000000
theorem bz_Z6 : type_of% (And.intro @Bool.false_and (And.intro @Bool.true_and (And.intro @wi (And.intro @tn_nat (And.intro @Nat.div_one (And.intro @Nat.mul_one (And.intro @W_len (And.intro @W_nf (And.intro @W_cell (And.intro @W_nil (And.intro @W_get (@nf_g)))))))))))) := And.intro @Bool.false_and (And.intro @Bool.true_and (And.intro @wi (And.intro @tn_nat (And.intro @Nat.div_one (And.intro @Nat.mul_one (And.intro @W_len (And.intro @W_nf (And.intro @W_cell (And.intro @W_nil (And.intro @W_get (@nf_g)))))))))))
def smV (z : Int) : Int := if -9223372036854775808 ≤ z ∧ z ≤ 9223372036854775807 then z else 0
def smE (z : Int) : Int := if -9223372036854775808 ≤ z ∧ z ≤ 9223372036854775807 then 0 else 13
theorem sm_i {z : Int} {w : Nat} {s : Bool} (hz : z = zI s w) (h : w < 18446744073709551616) :
    (s = true ∧ w ≤ 9223372036854775808 → smV z = IntKind.i64.wrap (IntKind.u64.wrap (0 - (w : Int))) ∧ smE z = 0) ∧ (s = false ∧ w ≤ 9223372036854775807 → smV z = (w : Int) ∧ smE z = 0) ∧ (s = true ∧ ¬ w ≤ 9223372036854775808 ∨ s = false ∧ ¬ w ≤ 9223372036854775807 → smV z = 0 ∧ smE z = 13) := by
  subst hz
  unfold smV smE zI
  refine ⟨fun ⟨h1, h2⟩ => ?_, fun ⟨h1, h2⟩ => ?_, fun h1 => ?_⟩
  · subst h1
    simp only [if_true]
    rw [if_pos (by omega), if_pos (by omega)]
    refine ⟨?_, rfl⟩
    rw [IntKind.wrap_u64, IntKind.wrap_i64]; omega
  · subst h1
    simp only [Bool.false_eq_true, if_false]
    rw [if_pos (by omega), if_pos (by omega)]
    exact ⟨rfl, rfl⟩
  · rcases h1 with ⟨h1, h2⟩ | ⟨h1, h2⟩ <;> subst h1 <;> simp only [Bool.false_eq_true, if_false, if_true] <;> rw [if_neg (by omega), if_neg (by omega)] <;> exact ⟨rfl, rfl⟩
theorem sm_big {z : Int} (h : ¬ z.natAbs < 18446744073709551616) : smV z = 0 ∧ smE z = 13 := ⟨if_neg (by omega), if_neg (by omega)⟩
def a35 : AC := .seq (.reg [qr 1 (.bx 58 (.t 0)),
 qr 2 (.mv (.k (.i .i64 0))),
 qr 3 (.mv (.k (.i .i64 0)))])
 (.seq (.reg [qr 7 (.fad 1 (.t 1)),
 qr 8 (.ld false 1 (.t 7)),
 qr 9 (.call 54 [(1, (.t 8))]),
 qm 6 9,
 qr 10 (.ext (.t 6) 0),
 qr 11 (.ext (.t 6) 1),
 qm 4 10,
 qm 5 11])
 (.seq (.blk 0
 (.seq (.reg [qm 13 5,
 qr 14 (.bin .neq (.t 13) (.k (.i .i64 0))),
 qm 12 14])
 (.cond (.t 12)
 (.seq (.reg [qr 2 (.mv (.k (.i .i64 0))),
 qr 3 (.mv (.k (.i .i64 13)))])
 (.ret))
 (.seq (.reg [qr 16 (.fad 0 (.t 1)),
 qr 17 (.ld false 1 (.t 16)),
 qm 18 17,
 ⟨some 19, some (18, true), .mv (.t 4)⟩,
 ⟨some 20, some (18, true), .bin .leq (.t 19) (.k (.i .u64 9223372036854775808))⟩,
 qr 21 (.pick (.t 18) (.t 20) (.k (.b false))),
 qm 15 21])
 (.cond (.t 15)
 (.seq (.reg [qm 22 4,
 qr 23 (.un .neg (.t 22)),
 qr 24 (.cvt .i64 (.t 23)),
 qm 2 24,
 qr 3 (.mv (.k (.i .i64 0)))])
 (.ret))
 (.seq (.reg [qr 26 (.fad 0 (.t 1)),
 qr 27 (.ld false 1 (.t 26)),
 qr 28 (.un .not (.t 27)),
 qm 29 28,
 ⟨some 30, some (29, true), .mv (.t 4)⟩,
 ⟨some 31, some (29, true), .bin .leq (.t 30) (.k (.i .u64 9223372036854775807))⟩,
 qr 32 (.pick (.t 29) (.t 31) (.k (.b false))),
 qm 25 32])
 (.cond (.t 25)
 (.seq (.reg [qm 33 4,
 qr 34 (.cvt .i64 (.t 33)),
 qm 2 34,
 qr 3 (.mv (.k (.i .i64 0)))])
 (.ret))
 (.skip))))))))
 (.seq (.reg [qr 2 (.mv (.k (.i .i64 0))),
 qr 3 (.mv (.k (.i .i64 13)))])
 (.ret))))
theorem zsmall_spec (s : Bool) (a : List Nat) (ha : Wd a) (la : a.length ≤ 1000000000) : AFun Try.prog J0 35 [zL s a] (.t [.i .i64 (smV (zv s a)), .i .i64 (smE (zv s a))]) := by
  have hw := nword_spec a ha (by omega)
  have hz : zv s a = zI s (nv B a) := rfl
  have hab := zv_abs s a
  generalize zv s a = z at *
  generalize nv B a = u at *
  by_cases h1 : u < 18446744073709551616
  · rw [show wdW u = u from if_pos h1, show wdE u = 0 from if_pos h1] at hw
    obtain ⟨e1, e2, e3⟩ := sm_i hz h1
    have key : (s = true ∧ (u : Int) ≤ 9223372036854775808) ∨ (s = true ∧ ¬ (u : Int) ≤ 9223372036854775808) ∨ (s = false ∧ (u : Int) ≤ 9223372036854775807) ∨ (s = false ∧ ¬ (u : Int) ≤ 9223372036854775807) := by
      cases s
      · by_cases h2 : (u : Int) ≤ 9223372036854775807
        · exact .inr (.inr (.inl ⟨rfl, h2⟩))
        · exact .inr (.inr (.inr ⟨rfl, h2⟩))
      · by_cases h2 : (u : Int) ≤ 9223372036854775808
        · exact .inl ⟨rfl, h2⟩
        · exact .inr (.inl ⟨rfl, h2⟩)
    rcases key with ⟨rfl, h3⟩ | ⟨rfl, h3⟩ | ⟨rfl, h3⟩ | ⟨rfl, h3⟩
    rw [(e1 ⟨rfl, by omega⟩).1, (e1 ⟨rfl, by omega⟩).2]
    rotate_left
    rw [(e3 (.inl ⟨rfl, by omega⟩)).1, (e3 (.inl ⟨rfl, by omega⟩)).2]
    rotate_left
    rw [(e2 ⟨rfl, by omega⟩).1, (e2 ⟨rfl, by omega⟩).2]
    rotate_left
    rw [(e3 (.inr ⟨rfl, by omega⟩)).1, (e3 (.inr ⟨rfl, by omega⟩)).2]
    all_goals
      refine mkQ fol J0s Try.func35 a35 ?_
      unfold a35
      simp only [init_eq, initE, qm, qr, qn]
      exact wdQ (ai @h3 (ai @lnilA @bz_Z6))
  · rw [show wdW u = 0 from if_neg h1, show wdE u = 13 from if_neg h1] at hw
    obtain ⟨k1, k2⟩ := sm_big (z := z) (by omega)
    rw [k1, k2]
    refine mkQ fol J0s Try.func35 a35 ?_
    unfold a35
    simp only [init_eq, initE, qm, qr, qn]
    exact wdQ (ai @lnilA @bz_Z6)
end Go.Proofs.Yteaiegppmbcibaa
