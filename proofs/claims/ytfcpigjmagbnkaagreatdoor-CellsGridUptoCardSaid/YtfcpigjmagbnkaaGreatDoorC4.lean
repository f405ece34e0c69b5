/-
  Cells, by the document.
-/
import Derived.Test.YtfcpigjmagbnkaaGreatDoorC3
import Derived.Test.YtfcpigjmagbnkaaGreatDoorQE
namespace Go.Proofs.YtfcpigjmagbnkaaGreatDoor
open Go Go.RowKit Ab
set_option linter.unusedSimpArgs false
set_option linter.unusedVariables false
set_option maxHeartbeats 10000000
theorem bz_C4 : type_of% (And.intro @W_len (And.intro @D_len (And.intro @Nat.div_one (And.intro @Nat.mul_one (And.intro @tn_nat (And.intro @W_nf (And.intro @D_nf (And.intro @W_nil (And.intro @D_nil (And.intro @wi (And.intro @nf_g (And.intro @Bool.false_and (@W_cell))))))))))))) := And.intro @W_len (And.intro @D_len (And.intro @Nat.div_one (And.intro @Nat.mul_one (And.intro @tn_nat (And.intro @W_nf (And.intro @D_nf (And.intro @W_nil (And.intro @D_nil (And.intro @wi (And.intro @nf_g (And.intro @Bool.false_and (@W_cell))))))))))))
def fst2 (x y : Int) : Int := if x = 0 then y else x
theorem fst2_ck (k j : Int) : fst2 (ckE k) (ckE j) = ck2 k j := rfl
def a17 : AC := .seq (.reg [qr 1 (.bx 37 (.t 0)),
 qr 2 (.al 37 [(.b false), (.l 1 []), (.i .i64 0), (.b false)])])
 (.seq (.dreg [qr 3 (.fad 0 (.t 1)),
 qr 4 (.fad 0 (.t 3)),
 qr 5 (.ld false 1 (.t 4)),
 qr 6 (.fad 0 (.t 1)),
 qr 7 (.fad 1 (.t 6)),
 qr 8 (.ld false 1 (.t 7)),
 qr 9 (.call 54 [(1, (.t 5)), (1, (.t 8))]),
 qr 10 (.fad 2 (.t 1)),
 qr 11 (.ld false 1 (.t 10)),
 qr 12 (.fad 3 (.t 1)),
 qr 13 (.ld false 1 (.t 12)),
 qr 14 (.bld [(.b false), (.l 1 []), (.i .i64 0), (.b false)] [(0, 2, (.t 9)), (2, 1, (.t 11)), (3, 1, (.t 13))]),
 qn (.st 4 (.t 2) (.t 14))])
 (.ret))
theorem rform_spec (s : Bool) (a : List Nat) (k : Int) (p : Bool) (ha : Wd a) (la : a.length ≤ 1000000000) : AFun Tryz.prog J0 17 [cL s a k p] (cN (zv s a) k p) := by
  have h := hI_spec s a ha la
  generalize zv s a = z at *
  refine mkcQ fol J0s Tryz.func17 a17 [.c 2 true 4] ?_
  unfold a17
  simp only [init_eq, initE, qm, qr, qn]
  exact wcQ @bz_C4
def a16 : AC := .seq (.reg [qr 2 (.bx 37 (.t 0)),
 qr 3 (.bx 37 (.t 1)),
 qr 4 (.mv (.k (.b false)))])
 (.seq (.reg [qr 5 (.fad 2 (.t 2)),
 qr 6 (.ld false 1 (.t 5)),
 qr 7 (.fad 2 (.t 3)),
 qr 8 (.ld false 1 (.t 7)),
 qr 9 (.bin .eql (.t 6) (.t 8)),
 qm 10 9,
 ⟨some 11, some (10, true), .fad 3 (.t 2)⟩,
 ⟨some 12, some (10, true), .ld false 1 (.t 11)⟩,
 ⟨some 13, some (10, true), .fad 3 (.t 3)⟩,
 ⟨some 14, some (10, true), .ld false 1 (.t 13)⟩,
 ⟨some 15, some (10, true), .eqb false (.t 12) (.t 14)⟩,
 qr 16 (.pick (.t 10) (.t 15) (.k (.b false))),
 qm 17 16,
 ⟨some 18, some (17, true), .fad 0 (.t 2)⟩,
 ⟨some 19, some (17, true), .ld true 2 (.t 18)⟩,
 ⟨some 20, some (17, true), .fad 0 (.t 3)⟩,
 ⟨some 21, some (17, true), .ld true 2 (.t 20)⟩,
 ⟨some 22, some (17, true), .call 53 [(1, (.t 19)), (1, (.t 21))]⟩,
 qr 23 (.pick (.t 17) (.t 22) (.k (.b false))),
 qm 4 23])
 (.ret))
theorem rcsame_true (s : Bool) (a : List Nat) (k : Int) (p : Bool) (la : a.length ≤ 1000000000) : AFun Tryz.prog J0 16 [cL s a k p, cL s a k p] (.b true) := by
  have h1 := hsameI_spec s s a a la la
  rw [show (s == s) = true from by cases s <;> rfl, Bool.true_and, decide_eq_true rfl] at h1
  have hp : (p == p) = true := by cases p <;> rfl
  refine mkQ fol J0s Tryz.func16 a16 ?_
  unfold a16
  simp only [init_eq, initE, qm, qr, qn]
  exact wdQ (ai @hp (ai @eqsA @bz_C4))
def meetV (p q : Bool) (La Ha Lb Hb : Rat) : Bool :=
  if p && q then decide (cq La Lb = 0) else if p then haV q Lb Hb La else if q then haV p La Ha Lb else decide (cq La Hb < 0) && decide (cq Lb Ha < 0)
theorem cell_ends {z : Int} {p : Bool} {k : Nat} : if p then loQ (hiN z p) k = loQ z k else loQ z k < loQ (hiN z p) k := by
  cases p
  · show loQ z k < loQ (z + 1) k
    rw [lt_q (two_ne k) (two_ne k)]
    exact Int.mul_lt_mul_of_pos_right (by omega) (Int.natCast_pos.2 (Nat.two_pow_pos k))
  · rfl
theorem cmp_law (p q : Bool) (La Ha Lb Hb : Rat) (ha : if p then Ha = La else La < Ha) (hb : if q then Hb = Lb else Lb < Hb) :
    cpV (cq Ha Lb) (cq La Hb) (!p || !q) = if meetV p q La Ha Lb Hb then 0 else if cq La Lb < 0 ∨ cq Ha Hb < 0 then -1 else 1 := by
  unfold cpV meetV haV
  simp only [cq_lt, cq_eq, cq_gt]
  cases p <;> cases q <;> simp at ha hb ⊢ <;> grind
end Go.Proofs.YtfcpigjmagbnkaaGreatDoor
