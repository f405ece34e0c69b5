/-
  Cells, by the document.
-/
import Derived.Test.YtfcpigjmagbnkaaGreatDoorC3
import Derived.Test.YtfcpigjmagbnkaaGreatDoorQE
namespace Go.Proofs.YtfcpigjmagbnkaaGreatDoor
open Go Go.RowKit Ab
set_option linter.unusedSimpArgs false
set_option linter.unusedVariables false
set_option maxHeartbeats 10000000
theorem bz_C4 : type_of% (And.intro @W_len (And.intro @D_len (And.intro @Nat.div_one (And.intro @Nat.mul_one (And.intro @tn_nat (And.intro @W_nf (And.intro @D_nf (And.intro @W_nil (And.intro @D_nil (And.intro @wi (And.intro @nf_g (And.intro @Bool.false_and (@W_cell))))))))))))) := And.intro @W_len (And.intro @D_len (And.intro @Nat.div_one (And.intro @Nat.mul_one (And.intro @tn_nat (And.intro @W_nf (And.intro @D_nf (And.intro @W_nil (And.intro @D_nil (And.intro @wi (And.intro @nf_g (And.intro @Bool.false_and (@W_cell))))))))))))
def a16 : AC := .seq (.reg [qr 2 (.bx 37 (.t 0)),
 qr 3 (.bx 37 (.t 1)),
 qr 4 (.mv (.k (.b false)))])
 (.seq (.reg [qr 5 (.fad 2 (.t 2)),
 qr 6 (.ld false 1 (.t 5)),
 qr 7 (.fad 2 (.t 3)),
 qr 8 (.ld false 1 (.t 7)),
 qr 9 (.bin .eql (.t 6) (.t 8)),
 qm 10 9,
 ⟨some 11, some (10, true), .fad 3 (.t 2)⟩,
 ⟨some 12, some (10, true), .ld false 1 (.t 11)⟩,
 ⟨some 13, some (10, true), .fad 3 (.t 3)⟩,
 ⟨some 14, some (10, true), .ld false 1 (.t 13)⟩,
 ⟨some 15, some (10, true), .eqb false (.t 12) (.t 14)⟩,
 qr 16 (.pick (.t 10) (.t 15) (.k (.b false))),
 qm 17 16,
 ⟨some 18, some (17, true), .fad 0 (.t 2)⟩,
 ⟨some 19, some (17, true), .ld true 2 (.t 18)⟩,
 ⟨some 20, some (17, true), .fad 0 (.t 3)⟩,
 ⟨some 21, some (17, true), .ld true 2 (.t 20)⟩,
 ⟨some 22, some (17, true), .call 53 [(1, (.t 19)), (1, (.t 21))]⟩,
 qr 23 (.pick (.t 17) (.t 22) (.k (.b false))),
 qm 4 23])
 (.ret))
theorem rcsame_true (s : Bool) (a : List Nat) (k : Int) (p : Bool) (la : a.length ≤ 1000000000) : AFun Tryz.prog J0 16 [cL s a k p, cL s a k p] (.b true) := by
  have h1 := hsameI_spec s s a a la la
  rw [show (s == s) = true from by cases s <;> rfl, Bool.true_and, decide_eq_true rfl] at h1
  have hp : (p == p) = true := by cases p <;> rfl
  refine mkQ fol J0s Tryz.func16 a16 ?_
  unfold a16
  simp only [init_eq, initE, qm, qr, qn]
  exact wdQ (ai @hp (ai @eqsA @bz_C4))
end Go.Proofs.YtfcpigjmagbnkaaGreatDoor
