/-
  Cells, by the program: how two lie, what they hold, halves, coarser ones, the cell of a number.
-/
import Derived.Test.YtfcpigjmagbnkaaGreatDoorC1
namespace Go.Proofs.YtfcpigjmagbnkaaGreatDoor
open Go Go.RowKit Ab
set_option linter.unusedSimpArgs false
set_option linter.unusedVariables false
set_option maxHeartbeats 10000000
theorem bz_C2 : type_of% (And.intro @W_len (And.intro @D_len (And.intro @Nat.div_one (And.intro @Nat.mul_one (And.intro @tn_nat (And.intro @W_nf (And.intro @D_nf (And.intro @W_nil (And.intro @D_nil (And.intro @wi (And.intro @nf_g (And.intro @Bool.false_and (@W_cell))))))))))))) := And.intro @W_len (And.intro @D_len (And.intro @Nat.div_one (And.intro @Nat.mul_one (And.intro @tn_nat (And.intro @W_nf (And.intro @D_nf (And.intro @W_nil (And.intro @D_nil (And.intro @wi (And.intro @nf_g (And.intro @Bool.false_and (@W_cell))))))))))))
theorem cq_lt (p q : Rat) : (cq p q < 0) = (p < q) := by unfold cq; grind
theorem cq_eq (p q : Rat) : (cq p q = 0) = (p = q) := by unfold cq; grind
def a56 : AC := .seq (.reg [qr 2 (.mv (.k (.i .i64 0)))])
 (.seq (.seq (.reg [qm 6 0,
 qr 7 (.len (.t 6)),
 qr 8 (.mv (.k (.i .i64 0)))])
 (.blk 0
 (.loop
 (.seq (.reg [qr 9 (.bin .lss (.t 8) (.t 7))])
 (.seq (.cond (.t 9)
 (.skip)
 (.exit 0))
 (.seq (.blk 1
 (.seq (.reg [qr 10 (.idx 4 (.t 6) (.t 8)),
 qr 11 (.ld true 4 (.t 10)),
 qr 4 (.al 37 [(.b false), (.l 1 []), (.i .i64 0), (.b false)]),
 qn (.st 4 (.t 4) (.t 11))])
 (.seq (.reg [qr 12 (.ld true 4 (.t 4)),
 qr 13 (.call 42 [(1, (.t 12))]),
 qm 5 13])
 (.seq (.reg [qm 14 5,
 qr 15 (.bin .neq (.t 14) (.k (.i .i64 0)))])
 (.cond (.t 15)
 (.seq (.reg [qm 16 5,
 qm 2 16])
 (.ret))
 (.skip))))))
 (.reg [qr 17 (.bin .add (.t 8) (.k (.i .i64 1))),
 qm 8 17])))))))
 (.seq (.reg [qr 2 (.mv (.k (.i .i64 0)))])
 (.ret)))
theorem cchecked_spec (l : List (Bool × List Nat × Int × Bool)) (ll : l.length ≤ 1000000000) : AFun Tryz.prog J0 56 [.l 4 (CC l)] (.i .i64 (cks l)) := by
  have hz := CC_len l
  have hd : l.length * 4 / 4 = l.length := by omega
  obtain ⟨r, hr0⟩ : ∃ r, r = cks l := ⟨_, rfl⟩
  rw [← hr0]
  refine mkQ fol J0s Tryz.func56 a56 ?_
  unfold a56
  simp only [init_eq, initE, qm, qr, qn]
  refine spQ (ai @hd (ai @hz @bz_C2)) ?_
  refine vm_loopA [] Nat (fun i => ⟨[(6, .l 4 (CC l)), (7, .i .i64 (l.length : Int)), (8, .i .i64 (i : Int))], [], 0⟩)
    (fun i => i ≤ l.length ∧ ∀ u, u < i → ckE (l.getD u nulC).2.2.1 = 0) (fun i => l.length - i) 0 ⟨Nat.zero_le _, fun u hu => by omega⟩ (by exact leQ) (by
    exact ltQ) ?_
  intro i ⟨hi, hall⟩ Q' hQ he hr
  by_cases h : (i : Int) < (l.length : Int)
  · have row := CC_row l i (by omega)
    have hc := ccheck_spec (l.getD i nulC).1 (l.getD i nulC).2.1 (l.getD i nulC).2.2.1 (l.getD i nulC).2.2.2
    by_cases h0 : ckE (l.getD i nulC).2.2.1 = 0
    · rw [h0] at hc
      have hall2 : ∀ u, u < i + 1 → ckE (l.getD u nulC).2.2.1 = 0 := fun u hu => by
        by_cases e : u = i
        · subst e; exact h0
        · exact hall u (by omega)
      generalize l.getD i nulC = x at *
      refine wkQ (ai @row (ai @hz (ai @h @bz_C2))) ?_
      refine hQ _ (i + 1) ⟨by omega, hall2⟩ (by omega) ?_
      exact ltQ
    · have hr1 : r = ckE (l.getD i nulC).2.2.1 := hr0.trans (cks_split (by omega) hall h0)
      generalize l.getD i nulC = x at *
      generalize ckE x.2.2.1 = e at *
      refine wkQ (ai @h0 (ai @row (ai @hz (ai @h @bz_C2)))) ?_
      refine hr _ ?_
      refine spQ @bz_C2 ?_
      exact rtQ (ai @hr1 @bz_C2)
  · obtain rfl : i = l.length := by omega
    have hr1 : r = 0 := hr0.trans (cks_all hall)
    refine spQ (ai @h @bz_C2) ?_
    refine he _ _ ?_
    refine spQ @bz_C2 ?_
    exact rtQ (ai @hr1 @bz_C2)
def ck2 (k j : Int) : Int := if ckE k = 0 then ckE j else ckE k
theorem cchk2 (s t : Bool) (a b : List Nat) (k j : Int) (p q : Bool) : AFun Tryz.prog J0 56 [.l 4 [.b s, .l 1 (W a), .i .i64 k, .b p, .b t, .l 1 (W b), .i .i64 j, .b q]] (.i .i64 (ck2 k j)) := by
  have h := cchecked_spec [(s, a, k, p), (t, b, j, q)] (show 2 ≤ 1000000000 by decide)
  have e : cks [(s, a, k, p), (t, b, j, q)] = ck2 k j := by
    unfold cks cks cks ck2
    split
    · split
      · rename_i h; exact h.symm
      · rfl
    · rfl
  rw [e] at h
  exact h
theorem ck2_0 {k j : Nat} (hk : k ≤ 1048576) (hj : j ≤ 1048576) : ck2 (k : Int) (j : Int) = 0 := by unfold ck2; rw [ckE_0 (by omega) (by omega), if_pos rfl, ckE_0 (by omega) (by omega)]
def a19 : AC := .seq (.reg [qr 2 (.bx 37 (.t 0)),
 qr 3 (.bx 37 (.t 1)),
 qr 4 (.mv (.k (.i .i64 0))),
 qr 5 (.mv (.k (.i .i64 0)))])
 (.seq (.seq (.reg [qr 9 (.ld true 4 (.t 2)),
 qr 10 (.ld true 4 (.t 3)),
 qr 11 (.bsl 37 4 2 [(.b false), (.l 1 []), (.i .i64 0), (.b false), (.b false), (.l 1 []), (.i .i64 0), (.b false)] [(0, (.t 9)), (1, (.t 10))]),
 qr 12 (.call 56 [(4, (.t 11))]),
 qm 6 12])
 (.seq (.reg [qm 13 6,
 qr 14 (.bin .neq (.t 13) (.k (.i .i64 0)))])
 (.cond (.t 14)
 (.seq (.reg [qm 15 6,
 qr 4 (.mv (.k (.i .i64 0))),
 qm 5 15])
 (.ret))
 (.skip))))
 (.seq (.reg [qr 17 (.ld true 4 (.t 2)),
 qr 18 (.ld true 4 (.t 3)),
 qr 19 (.call 57 [(1, (.t 17)), (1, (.t 18))]),
 qm 16 19,
 qr 20 (.ext (.t 16) 0),
 qr 21 (.ext (.t 16) 1),
 qm 7 20,
 qm 8 21])
 (.seq (.reg [qm 22 7,
 qm 4 22,
 qr 5 (.mv (.k (.i .i64 0)))])
 (.ret))))
theorem ccmp_spec (s t : Bool) (a b : List Nat) (k j m : Nat) (p q : Bool) (hk : k ≤ 1048576) (hj : j ≤ 1048576) (ha : Wd a) (hb : Wd b) (la : a.length ≤ m) (lb : b.length ≤ m) (hm : m ≤ 2000000) :
    AFun Tryz.prog J0 19 [cL s a (k : Int) p, cL t b (j : Int) q] (.t [.i .i64 (cpV (cq (loQ (hiN (zv s a) p) k) (loQ (zv t b) j)) (cq (loQ (zv s a) k) (loQ (hiN (zv t b) q) j)) (!p || !q)), .i .i64 0]) := by
  have h1 := cchk2 s t a b (k : Int) (j : Int) p q
  rw [ck2_0 hk hj] at h1
  have h2 := ccompare_spec s t a b k j m p q hk hj ha hb la lb hm
  generalize cpV (cq (loQ (hiN (zv s a) p) k) (loQ (zv t b) j)) (cq (loQ (zv s a) k) (loQ (hiN (zv t b) q) j)) (!p || !q) = c at *
  generalize (decide (0 ≤ cq (loQ (hiN (zv s a) p) k) (loQ (zv t b) j)) && decide (cq (loQ (zv s a) k) (loQ (hiN (zv t b) q) j) ≤ 0)) = d at *
  refine mkQ fol J0s Tryz.func19 a19 ?_
  unfold a19
  simp only [init_eq, initE, qm, qr, qn]
  exact wdQ @bz_C2
def a20 : AC := .seq (.reg [qr 2 (.bx 37 (.t 0)),
 qr 3 (.bx 37 (.t 1)),
 qr 4 (.mv (.k (.b false))),
 qr 5 (.mv (.k (.i .i64 0)))])
 (.seq (.seq (.reg [qr 9 (.ld true 4 (.t 2)),
 qr 10 (.ld true 4 (.t 3)),
 qr 11 (.bsl 37 4 2 [(.b false), (.l 1 []), (.i .i64 0), (.b false), (.b false), (.l 1 []), (.i .i64 0), (.b false)] [(0, (.t 9)), (1, (.t 10))]),
 qr 12 (.call 56 [(4, (.t 11))]),
 qm 6 12])
 (.seq (.reg [qm 13 6,
 qr 14 (.bin .neq (.t 13) (.k (.i .i64 0)))])
 (.cond (.t 14)
 (.seq (.reg [qm 15 6,
 qr 4 (.mv (.k (.b false))),
 qm 5 15])
 (.ret))
 (.skip))))
 (.seq (.reg [qr 17 (.ld true 4 (.t 2)),
 qr 18 (.ld true 4 (.t 3)),
 qr 19 (.call 57 [(1, (.t 17)), (1, (.t 18))]),
 qm 16 19,
 qr 20 (.ext (.t 16) 0),
 qr 21 (.ext (.t 16) 1),
 qm 7 20,
 qm 8 21])
 (.seq (.reg [qm 22 8,
 qm 4 22,
 qr 5 (.mv (.k (.i .i64 0)))])
 (.ret))))
theorem ctouch_spec (s t : Bool) (a b : List Nat) (k j m : Nat) (p q : Bool) (hk : k ≤ 1048576) (hj : j ≤ 1048576) (ha : Wd a) (hb : Wd b) (la : a.length ≤ m) (lb : b.length ≤ m) (hm : m ≤ 2000000) :
    AFun Tryz.prog J0 20 [cL s a (k : Int) p, cL t b (j : Int) q] (.t [.b (decide (0 ≤ cq (loQ (hiN (zv s a) p) k) (loQ (zv t b) j)) && decide (cq (loQ (zv s a) k) (loQ (hiN (zv t b) q) j) ≤ 0)), .i .i64 0]) := by
  have h1 := cchk2 s t a b (k : Int) (j : Int) p q
  rw [ck2_0 hk hj] at h1
  have h2 := ccompare_spec s t a b k j m p q hk hj ha hb la lb hm
  generalize cpV (cq (loQ (hiN (zv s a) p) k) (loQ (zv t b) j)) (cq (loQ (zv s a) k) (loQ (hiN (zv t b) q) j)) (!p || !q) = c at *
  generalize (decide (0 ≤ cq (loQ (hiN (zv s a) p) k) (loQ (zv t b) j)) && decide (cq (loQ (zv s a) k) (loQ (hiN (zv t b) q) j) ≤ 0)) = d at *
  refine mkQ fol J0s Tryz.func20 a20 ?_
  unfold a20
  simp only [init_eq, initE, qm, qr, qn]
  exact wdQ @bz_C2
theorem open_same {z w : Int} {k j : Nat} : (loQ z k = loQ w j ∧ loQ (z + 1) k = loQ (w + 1) j) ↔ (k = j ∧ z = w) := by
  constructor
  · rintro ⟨h1, h2⟩
    rw [Rat.mkRat_eq_iff (two_ne k) (two_ne j)] at h1 h2
    have h3 : ((2 ^ j : Nat) : Int) = ((2 ^ k : Nat) : Int) := by
      rw [Int.add_mul, Int.add_mul] at h2; omega
    have h4 : k = j := ((Nat.pow_right_inj (by decide : 1 < 2)).1 (Int.ofNat_inj.1 h3)).symm
    subst h4
    exact ⟨rfl, Int.eq_of_mul_eq_mul_right (by have := two_ne k; omega) h1⟩
  · rintro ⟨rfl, rfl⟩; exact ⟨rfl, rfl⟩
theorem cz_0 (x y : Int) : (cz x y = 0) = (x = y) := by
  unfold cz
  by_cases h : x < y
  · rw [if_pos h]; exact propext ⟨fun h => absurd h (by decide), fun h => by omega⟩
  · rw [if_neg h]
    by_cases h2 : x = y
    · rw [if_pos h2]; exact propext ⟨fun _ => h2, fun _ => rfl⟩
    · rw [if_neg h2]; exact propext ⟨fun h => absurd h (by decide), fun h => absurd h h2⟩
def eqV (p q : Bool) (La Ha Lb Hb : Rat) : Bool := (p == q) && (decide (cq La Lb = 0) && decide (cq Ha Hb = 0))
def a34 : AC := .seq (.reg [qr 2 (.bx 37 (.t 0)),
 qr 3 (.bx 37 (.t 1)),
 qr 4 (.mv (.k (.b false))),
 qr 5 (.mv (.k (.i .i64 0)))])
 (.seq (.seq (.reg [qr 9 (.ld true 4 (.t 2)),
 qr 10 (.ld true 4 (.t 3)),
 qr 11 (.bsl 37 4 2 [(.b false), (.l 1 []), (.i .i64 0), (.b false), (.b false), (.l 1 []), (.i .i64 0), (.b false)] [(0, (.t 9)), (1, (.t 10))]),
 qr 12 (.call 56 [(4, (.t 11))]),
 qm 6 12])
 (.seq (.reg [qm 13 6,
 qr 14 (.bin .neq (.t 13) (.k (.i .i64 0)))])
 (.cond (.t 14)
 (.seq (.reg [qm 15 6,
 qr 4 (.mv (.k (.b false))),
 qm 5 15])
 (.ret))
 (.skip))))
 (.seq (.seq (.reg [qr 16 (.fad 3 (.t 2)),
 qr 17 (.ld false 1 (.t 16)),
 qr 18 (.fad 3 (.t 3)),
 qr 19 (.ld false 1 (.t 18)),
 qr 20 (.eqb true (.t 17) (.t 19))])
 (.cond (.t 20)
 (.seq (.reg [qr 4 (.mv (.k (.b false))),
 qr 5 (.mv (.k (.i .i64 0)))])
 (.ret))
 (.skip)))
 (.seq (.seq (.reg [qr 21 (.fad 3 (.t 2)),
 qr 22 (.ld false 1 (.t 21)),
 qr 23 (.un .not (.t 22))])
 (.cond (.t 23)
 (.seq (.reg [qr 24 (.fad 2 (.t 2)),
 qr 25 (.ld false 1 (.t 24)),
 qr 26 (.fad 2 (.t 3)),
 qr 27 (.ld false 1 (.t 26)),
 qr 28 (.bin .eql (.t 25) (.t 27)),
 qm 29 28,
 ⟨some 30, some (29, true), .fad 0 (.t 2)⟩,
 ⟨some 31, some (29, true), .ld true 2 (.t 30)⟩,
 ⟨some 32, some (29, true), .fad 0 (.t 3)⟩,
 ⟨some 33, some (29, true), .ld true 2 (.t 32)⟩,
 ⟨some 34, some (29, true), .call 46 [(1, (.t 31)), (1, (.t 33))]⟩,
 ⟨some 35, some (29, true), .bin .eql (.t 34) (.k (.i .i64 0))⟩,
 qr 36 (.pick (.t 29) (.t 35) (.k (.b false))),
 qm 4 36,
 qr 5 (.mv (.k (.i .i64 0)))])
 (.ret))
 (.skip)))
 (.seq (.reg [qr 38 (.ld true 4 (.t 2)),
 qr 39 (.ld true 4 (.t 3)),
 qr 40 (.call 57 [(1, (.t 38)), (1, (.t 39))]),
 qm 37 40,
 qr 41 (.ext (.t 37) 0),
 qr 42 (.ext (.t 37) 1),
 qm 7 41,
 qm 8 42])
 (.seq (.reg [qm 43 7,
 qr 44 (.bin .eql (.t 43) (.k (.i .i64 0))),
 qm 4 44,
 qr 5 (.mv (.k (.i .i64 0)))])
 (.ret))))))
theorem csame_spec (s t : Bool) (a b : List Nat) (k j m : Nat) (p q : Bool) (hk : k ≤ 1048576) (hj : j ≤ 1048576) (ha : Wd a) (hb : Wd b) (la : a.length ≤ m) (lb : b.length ≤ m) (hm : m ≤ 2000000) :
    AFun Tryz.prog J0 34 [cL s a (k : Int) p, cL t b (j : Int) q] (.t [.b (eqV p q (loQ (zv s a) k) (loQ (hiN (zv s a) p) k) (loQ (zv t b) j) (loQ (hiN (zv t b) q) j)), .i .i64 0]) := by
  have h1 := cchk2 s t a b (k : Int) (j : Int) p q
  rw [ck2_0 hk hj] at h1
  have h2 := ccompare_spec s t a b k j m p q hk hj ha hb la lb hm
  have h3 := zcmp_spec s t a b ha hb (by omega) (by omega)
  have e3 := cz_0 (zv s a) (zv t b)
  have os := open_same (z := zv s a) (w := zv t b) (k := k) (j := j)
  obtain ⟨r, hr⟩ : ∃ r, r = eqV p q (loQ (zv s a) k) (loQ (hiN (zv s a) p) k) (loQ (zv t b) j) (loQ (hiN (zv t b) q) j) := ⟨_, rfl⟩
  rw [← hr]
  unfold eqV at hr
  have bft : (false == true) = false := rfl
  have btf : (true == false) = false := rfl
  cases p
  · cases q
    · simp only [BEq.rfl, Bool.true_and, cq_eq, ← Bool.decide_and] at hr
      have hr2 : r = (decide (k = j) && decide (cz (zv s a) (zv t b) = 0)) := by
        rw [hr, ← Bool.decide_and]
        refine decide_eq_decide.2 ?_
        rw [e3]
        exact os
      clear h2 hr os e3
      generalize cz (zv s a) (zv t b) = c at *
      by_cases g1 : k = j
      · subst g1
        rw [decide_eq_true rfl, Bool.true_and] at hr2
        refine mkQ fol J0s Tryz.func34 a34 ?_
        unfold a34
        simp only [init_eq, initE, qm, qr, qn]
        exact wdQ (ai @hr2 (ai @eqsA @bz_C2))
      · rw [decide_eq_false g1, Bool.false_and] at hr2
        have g2 : ¬ (k : Int) = (j : Int) := by omega
        refine mkQ fol J0s Tryz.func34 a34 ?_
        unfold a34
        simp only [init_eq, initE, qm, qr, qn]
        exact wdQ (ai @hr2 (ai @g2 @bz_C2))
    · have hr2 : r = false := by rw [hr]; rfl
      clear h2 h3 hr
      refine mkQ fol J0s Tryz.func34 a34 ?_
      unfold a34
      simp only [init_eq, initE, qm, qr, qn]
      exact wdQ (ai @hr2 (ai @btf (ai @bft @bz_C2)))
  · cases q
    · have hr2 : r = false := by rw [hr]; rfl
      clear h2 h3 hr
      refine mkQ fol J0s Tryz.func34 a34 ?_
      unfold a34
      simp only [init_eq, initE, qm, qr, qn]
      exact wdQ (ai @hr2 (ai @btf (ai @bft @bz_C2)))
    · simp only [BEq.rfl, Bool.true_and] at hr
      have e4 : cpV (cq (loQ (hiN (zv s a) true) k) (loQ (zv t b) j)) (cq (loQ (zv s a) k) (loQ (hiN (zv t b) true) j)) (!true || !true) = cq (loQ (zv s a) k) (loQ (zv t b) j) := by
        show cpV (cq (loQ (zv s a) k) (loQ (zv t b) j)) (cq (loQ (zv s a) k) (loQ (zv t b) j)) false = _
        rcases cq_val (loQ (zv s a) k) (loQ (zv t b) j) with h | h | h <;> rw [h] <;> rfl
      have hr2 : r = decide (cq (loQ (zv s a) k) (loQ (zv t b) j) = 0) := by
        rw [hr]
        show (decide (cq (loQ (zv s a) k) (loQ (zv t b) j) = 0) && decide (cq (loQ (zv s a) k) (loQ (zv t b) j) = 0)) = _
        rw [Bool.and_self]
      rw [e4] at h2
      generalize cq (loQ (zv s a) k) (loQ (zv t b) j) = c at *
      generalize (decide (0 ≤ cq (loQ (hiN (zv s a) true) k) (loQ (zv t b) j)) && decide (cq (loQ (zv s a) k) (loQ (hiN (zv t b) true) j) ≤ 0)) = d at *
      refine mkQ fol J0s Tryz.func34 a34 ?_
      unfold a34
      simp only [init_eq, initE, qm, qr, qn]
      exact wdQ (ai @hr2 @bz_C2)
def wiV (p q : Bool) (La Ha Lb Hb : Rat) : Bool := if p then (if q then decide (cq Lb La = 0) else decide (cq Lb La < 0) && decide (cq La Hb < 0)) else !q && (decide (cq Lb La ≤ 0) && decide (cq Ha Hb ≤ 0))
def a35 : AC := .seq (.reg [qr 2 (.bx 37 (.t 0)),
 qr 3 (.bx 37 (.t 1)),
 qr 4 (.mv (.k (.b false))),
 qr 5 (.mv (.k (.i .i64 0)))])
 (.seq (.seq (.reg [qr 14 (.ld true 4 (.t 2)),
 qr 15 (.ld true 4 (.t 3)),
 qr 16 (.bsl 37 4 2 [(.b false), (.l 1 []), (.i .i64 0), (.b false), (.b false), (.l 1 []), (.i .i64 0), (.b false)] [(0, (.t 14)), (1, (.t 15))]),
 qr 17 (.call 56 [(4, (.t 16))]),
 qm 6 17])
 (.seq (.reg [qm 18 6,
 qr 19 (.bin .neq (.t 18) (.k (.i .i64 0)))])
 (.cond (.t 19)
 (.seq (.reg [qm 20 6,
 qr 4 (.mv (.k (.b false))),
 qm 5 20])
 (.ret))
 (.skip))))
 (.seq (.reg [qr 21 (.fad 2 (.t 2)),
 qr 22 (.ld false 1 (.t 21)),
 qr 23 (.fad 2 (.t 3)),
 qr 24 (.ld false 1 (.t 23)),
 qr 25 (.mm true (.t 22) (.t 24)),
 qm 7 25])
 (.seq (.reg [qr 27 (.ld true 4 (.t 2)),
 qm 28 7,
 qr 29 (.call 43 [(1, (.t 27)), (1, (.t 28))]),
 qm 26 29,
 qr 30 (.ext (.t 26) 0),
 qr 31 (.ext (.t 26) 1),
 qr 8 (.al 25 [(.b false), (.l 1 [])]),
 qr 9 (.al 25 [(.b false), (.l 1 [])]),
 qn (.st 2 (.t 8) (.t 30)),
 qn (.st 2 (.t 9) (.t 31))])
 (.seq (.reg [qr 33 (.ld true 4 (.t 3)),
 qm 34 7,
 qr 35 (.call 43 [(1, (.t 33)), (1, (.t 34))]),
 qm 32 35,
 qr 36 (.ext (.t 32) 0),
 qr 37 (.ext (.t 32) 1),
 qr 10 (.al 25 [(.b false), (.l 1 [])]),
 qr 11 (.al 25 [(.b false), (.l 1 [])]),
 qn (.st 2 (.t 10) (.t 36)),
 qn (.st 2 (.t 11) (.t 37))])
 (.seq (.seq (.reg [qr 38 (.fad 3 (.t 3)),
 qr 39 (.ld false 1 (.t 38))])
 (.cond (.t 39)
 (.seq (.reg [qr 40 (.fad 3 (.t 2)),
 qr 41 (.ld false 1 (.t 40)),
 qm 42 41,
 ⟨some 43, some (42, true), .ld true 2 (.t 8)⟩,
 ⟨some 44, some (42, true), .ld true 2 (.t 10)⟩,
 ⟨some 45, some (42, true), .call 46 [(1, (.t 43)), (1, (.t 44))]⟩,
 ⟨some 46, some (42, true), .bin .eql (.t 45) (.k (.i .i64 0))⟩,
 qr 47 (.pick (.t 42) (.t 46) (.k (.b false))),
 qm 4 47,
 qr 5 (.mv (.k (.i .i64 0)))])
 (.ret))
 (.skip)))
 (.seq (.dreg [qr 48 (.ld true 2 (.t 10)),
 qr 49 (.ld true 2 (.t 8)),
 qr 50 (.call 46 [(1, (.t 48)), (1, (.t 49))]),
 qr 51 (.ld true 2 (.t 9)),
 qr 52 (.ld true 2 (.t 11)),
 qr 53 (.call 46 [(1, (.t 51)), (1, (.t 52))]),
 qm 12 50,
 qm 13 53])
 (.seq (.seq (.reg [qr 54 (.fad 3 (.t 2)),
 qr 55 (.ld false 1 (.t 54))])
 (.cond (.t 55)
 (.seq (.reg [qm 56 12,
 qr 57 (.bin .lss (.t 56) (.k (.i .i64 0))),
 qm 58 57,
 ⟨some 59, some (58, true), .mv (.t 13)⟩,
 ⟨some 60, some (58, true), .bin .lss (.t 59) (.k (.i .i64 0))⟩,
 qr 61 (.pick (.t 58) (.t 60) (.k (.b false))),
 qm 4 61,
 qr 5 (.mv (.k (.i .i64 0)))])
 (.ret))
 (.skip)))
 (.seq (.reg [qm 62 12,
 qr 63 (.bin .leq (.t 62) (.k (.i .i64 0))),
 qm 64 63,
 ⟨some 65, some (64, true), .mv (.t 13)⟩,
 ⟨some 66, some (64, true), .bin .leq (.t 65) (.k (.i .i64 0))⟩,
 qr 67 (.pick (.t 64) (.t 66) (.k (.b false))),
 qm 4 67,
 qr 5 (.mv (.k (.i .i64 0)))])
 (.ret)))))))))
theorem cwithin_spec (s t : Bool) (a b : List Nat) (k j m : Nat) (p q : Bool) (hk : k ≤ 1048576) (hj : j ≤ 1048576) (ha : Wd a) (hb : Wd b) (la : a.length ≤ m) (lb : b.length ≤ m) (hm : m ≤ 2000000) :
    AFun Tryz.prog J0 35 [cL s a (k : Int) p, cL t b (j : Int) q] (.t [.b (wiV p q (loQ (zv s a) k) (loQ (hiN (zv s a) p) k) (loQ (zv t b) j) (loQ (hiN (zv t b) q) j)), .i .i64 0]) := by
  have h0 := cchk2 s t a b (k : Int) (j : Int) p q
  rw [ck2_0 hk hj] at h0
  have h1 := cspan_spec s a k (max k j) p (by omega) (by omega) ha (by omega)
  have h2 := cspan_spec t b j (max k j) q (by omega) (by omega) hb (by omega)
  have b1 := shlz (n := max k j - k) (pup (zv_lt (s := s) ha la) (Nat.le_succ m)) (by omega)
  have b2 := shlz (n := max k j - k) (hiN_abs (p := p) (zv_lt (s := s) ha la)) (by omega)
  have b3 := shlz (n := max k j - j) (pup (zv_lt (s := t) hb lb) (Nat.le_succ m)) (by omega)
  have b4 := shlz (n := max k j - j) (hiN_abs (p := q) (zv_lt (s := t) hb lb)) (by omega)
  have e1 := cz_at (x := zv t b) (y := zv s a) (k := j) (j := k) (e := max k j) (by omega) (by omega)
  have e2 := cz_at (x := hiN (zv s a) p) (y := hiN (zv t b) q) (k := k) (j := j) (e := max k j) (by omega) (by omega)
  have e3 := cz_at (x := zv s a) (y := zv t b) (k := k) (j := j) (e := max k j) (by omega) (by omega)
  have mx := mxn k j
  have an := cq_anti (loQ (zv t b) j) (loQ (zv s a) k)
  obtain ⟨r, hr⟩ : ∃ r, r = wiV p q (loQ (zv s a) k) (loQ (hiN (zv s a) p) k) (loQ (zv t b) j) (loQ (hiN (zv t b) q) j) := ⟨_, rfl⟩
  rw [← hr]
  have hr2 : r = if q then (p && decide (cq (loQ (zv s a) k) (loQ (zv t b) j) = 0)) else if p then (decide (cq (loQ (zv t b) j) (loQ (zv s a) k) < 0) && decide (cq (loQ (hiN (zv s a) p) k) (loQ (hiN (zv t b) q) j) < 0)) else (decide (cq (loQ (zv t b) j) (loQ (zv s a) k) ≤ 0) && decide (cq (loQ (hiN (zv s a) p) k) (loQ (hiN (zv t b) q) j) ≤ 0)) := by
    rw [hr]; unfold wiV hiN
    cases p <;> cases q <;> simp
    rw [an]
    exact ⟨fun h => by omega, fun h => by omega⟩
  generalize max k j = e at *
  generalize zv s a * 2 ^ (e - k) = alo at *
  generalize hiN (zv s a) p * 2 ^ (e - k) = ahi at *
  generalize zv t b * 2 ^ (e - j) = blo at *
  generalize hiN (zv t b) q * 2 ^ (e - j) = bhi at *
  have h3 := zcmp_spec (decide (blo < 0)) (decide (alo < 0)) (dg B blo.natAbs) (dg B alo.natAbs) (Wd_dg _) (Wd_dg _) (Nat.le_trans (dlen b3) (by omega)) (Nat.le_trans (dlen b1) (by omega))
  have h4 := zcmp_spec (decide (ahi < 0)) (decide (bhi < 0)) (dg B ahi.natAbs) (dg B bhi.natAbs) (Wd_dg _) (Wd_dg _) (Nat.le_trans (dlen b2) (by omega)) (Nat.le_trans (dlen b4) (by omega))
  have h5 := zcmp_spec (decide (alo < 0)) (decide (blo < 0)) (dg B alo.natAbs) (dg B blo.natAbs) (Wd_dg _) (Wd_dg _) (Nat.le_trans (dlen b1) (by omega)) (Nat.le_trans (dlen b3) (by omega))
  rw [zv_N, zv_N, e1] at h3
  rw [zv_N, zv_N, e2] at h4
  rw [zv_N, zv_N, e3] at h5
  generalize cq (loQ (zv t b) j) (loQ (zv s a) k) = x1 at *
  generalize cq (loQ (hiN (zv s a) p) k) (loQ (hiN (zv t b) q) j) = x2 at *
  generalize cq (loQ (zv s a) k) (loQ (zv t b) j) = x3 at *
  generalize (e : Int) = ee at *
  clear e1 e2 e3 b1 b2 b3 b4 ha hb la lb hr an
  cases q
  · cases p
    · simp only [Bool.false_eq_true, if_false] at hr2
      by_cases g : x1 ≤ 0
      · rw [decide_eq_true g, Bool.true_and] at hr2
        refine mkQ fol J0s Tryz.func35 a35 ?_
        unfold a35
        simp only [init_eq, initE, qm, qr, qn]
        exact wdQ (ai @hr2 (ai @g (ai @mx @bz_C2)))
      · rw [decide_eq_false g, Bool.false_and] at hr2
        refine mkQ fol J0s Tryz.func35 a35 ?_
        unfold a35
        simp only [init_eq, initE, qm, qr, qn]
        exact wdQ (ai @hr2 (ai @g (ai @mx @bz_C2)))
    · simp only [Bool.false_eq_true, if_false, if_true] at hr2
      by_cases g : x1 < 0
      · rw [decide_eq_true g, Bool.true_and] at hr2
        refine mkQ fol J0s Tryz.func35 a35 ?_
        unfold a35
        simp only [init_eq, initE, qm, qr, qn]
        exact wdQ (ai @hr2 (ai @g (ai @mx @bz_C2)))
      · rw [decide_eq_false g, Bool.false_and] at hr2
        refine mkQ fol J0s Tryz.func35 a35 ?_
        unfold a35
        simp only [init_eq, initE, qm, qr, qn]
        exact wdQ (ai @hr2 (ai @g (ai @mx @bz_C2)))
  · cases p
    · replace hr2 : r = false := hr2
      refine mkQ fol J0s Tryz.func35 a35 ?_
      unfold a35
      simp only [init_eq, initE, qm, qr, qn]
      exact wdQ (ai @hr2 (ai @mx @bz_C2))
    · replace hr2 : r = decide (x3 = 0) := hr2
      refine mkQ fol J0s Tryz.func35 a35 ?_
      unfold a35
      simp only [init_eq, initE, qm, qr, qn]
      exact wdQ (ai @hr2 (ai @mx @bz_C2))
end Go.Proofs.YtfcpigjmagbnkaaGreatDoor
