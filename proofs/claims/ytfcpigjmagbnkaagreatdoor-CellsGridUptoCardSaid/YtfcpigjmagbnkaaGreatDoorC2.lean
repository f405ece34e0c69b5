/-
  Cells, by the program: how two lie, what they hold, halves, coarser ones, the cell of a number.
-/
import Derived.Test.YtfcpigjmagbnkaaGreatDoorC1
namespace Go.Proofs.YtfcpigjmagbnkaaGreatDoor
open Go Go.RowKit Ab
set_option linter.unusedSimpArgs false
set_option linter.unusedVariables false
set_option maxHeartbeats 10000000
theorem bz_C2 : type_of% (And.intro @W_len (And.intro @D_len (And.intro @Nat.div_one (And.intro @Nat.mul_one (And.intro @tn_nat (And.intro @W_nf (And.intro @D_nf (And.intro @W_nil (And.intro @D_nil (And.intro @wi (And.intro @nf_g (And.intro @Bool.false_and (@W_cell))))))))))))) := And.intro @W_len (And.intro @D_len (And.intro @Nat.div_one (And.intro @Nat.mul_one (And.intro @tn_nat (And.intro @W_nf (And.intro @D_nf (And.intro @W_nil (And.intro @D_nil (And.intro @wi (And.intro @nf_g (And.intro @Bool.false_and (@W_cell))))))))))))
theorem cq_lt (p q : Rat) : (cq p q < 0) = (p < q) := by unfold cq; grind
theorem cq_eq (p q : Rat) : (cq p q = 0) = (p = q) := by unfold cq; grind
def a56 : AC := .seq (.reg [qr 2 (.mv (.k (.i .i64 0)))])
 (.seq (.seq (.reg [qm 6 0,
 qr 7 (.len (.t 6)),
 qr 8 (.mv (.k (.i .i64 0)))])
 (.blk 0
 (.loop
 (.seq (.reg [qr 9 (.bin .lss (.t 8) (.t 7))])
 (.seq (.cond (.t 9)
 (.skip)
 (.exit 0))
 (.seq (.blk 1
 (.seq (.reg [qr 10 (.idx 4 (.t 6) (.t 8)),
 qr 11 (.ld true 4 (.t 10)),
 qr 4 (.al 37 [(.b false), (.l 1 []), (.i .i64 0), (.b false)]),
 qn (.st 4 (.t 4) (.t 11))])
 (.seq (.reg [qr 12 (.ld true 4 (.t 4)),
 qr 13 (.call 42 [(1, (.t 12))]),
 qm 5 13])
 (.seq (.reg [qm 14 5,
 qr 15 (.bin .neq (.t 14) (.k (.i .i64 0)))])
 (.cond (.t 15)
 (.seq (.reg [qm 16 5,
 qm 2 16])
 (.ret))
 (.skip))))))
 (.reg [qr 17 (.bin .add (.t 8) (.k (.i .i64 1))),
 qm 8 17])))))))
 (.seq (.reg [qr 2 (.mv (.k (.i .i64 0)))])
 (.ret)))
theorem cchecked_spec (l : List (Bool × List Nat × Int × Bool)) (ll : l.length ≤ 1000000000) : AFun Tryz.prog J0 56 [.l 4 (CC l)] (.i .i64 (cks l)) := by
  have hz := CC_len l
  have hd : l.length * 4 / 4 = l.length := by omega
  obtain ⟨r, hr0⟩ : ∃ r, r = cks l := ⟨_, rfl⟩
  rw [← hr0]
  refine mkQ fol J0s Tryz.func56 a56 ?_
  unfold a56
  simp only [init_eq, initE, qm, qr, qn]
  refine spQ (ai @hd (ai @hz @bz_C2)) ?_
  refine vm_loopA [] Nat (fun i => ⟨[(6, .l 4 (CC l)), (7, .i .i64 (l.length : Int)), (8, .i .i64 (i : Int))], [], 0⟩)
    (fun i => i ≤ l.length ∧ ∀ u, u < i → ckE (l.getD u nulC).2.2.1 = 0) (fun i => l.length - i) 0 ⟨Nat.zero_le _, fun u hu => by omega⟩ (by exact leQ) (by
    exact ltQ) ?_
  intro i ⟨hi, hall⟩ Q' hQ he hr
  by_cases h : (i : Int) < (l.length : Int)
  · have row := CC_row l i (by omega)
    have hc := ccheck_spec (l.getD i nulC).1 (l.getD i nulC).2.1 (l.getD i nulC).2.2.1 (l.getD i nulC).2.2.2
    by_cases h0 : ckE (l.getD i nulC).2.2.1 = 0
    · rw [h0] at hc
      have hall2 : ∀ u, u < i + 1 → ckE (l.getD u nulC).2.2.1 = 0 := fun u hu => by
        by_cases e : u = i
        · subst e; exact h0
        · exact hall u (by omega)
      generalize l.getD i nulC = x at *
      refine wkQ (ai @row (ai @hz (ai @h @bz_C2))) ?_
      refine hQ _ (i + 1) ⟨by omega, hall2⟩ (by omega) ?_
      exact ltQ
    · have hr1 : r = ckE (l.getD i nulC).2.2.1 := hr0.trans (cks_split (by omega) hall h0)
      generalize l.getD i nulC = x at *
      generalize ckE x.2.2.1 = e at *
      refine wkQ (ai @h0 (ai @row (ai @hz (ai @h @bz_C2)))) ?_
      refine hr _ ?_
      refine spQ @bz_C2 ?_
      exact rtQ (ai @hr1 @bz_C2)
  · obtain rfl : i = l.length := by omega
    have hr1 : r = 0 := hr0.trans (cks_all hall)
    refine spQ (ai @h @bz_C2) ?_
    refine he _ _ ?_
    refine spQ @bz_C2 ?_
    exact rtQ (ai @hr1 @bz_C2)
def ck2 (k j : Int) : Int := if ckE k = 0 then ckE j else ckE k
theorem cchk2 (s t : Bool) (a b : List Nat) (k j : Int) (p q : Bool) : AFun Tryz.prog J0 56 [.l 4 [.b s, .l 1 (W a), .i .i64 k, .b p, .b t, .l 1 (W b), .i .i64 j, .b q]] (.i .i64 (ck2 k j)) := by
  have h := cchecked_spec [(s, a, k, p), (t, b, j, q)] (show 2 ≤ 1000000000 by decide)
  have e : cks [(s, a, k, p), (t, b, j, q)] = ck2 k j := by
    unfold cks cks cks ck2
    split
    · split
      · rename_i h; exact h.symm
      · rfl
    · rfl
  rw [e] at h
  exact h
theorem ck2_0 {k j : Nat} (hk : k ≤ 1048576) (hj : j ≤ 1048576) : ck2 (k : Int) (j : Int) = 0 := by unfold ck2; rw [ckE_0 (by omega) (by omega), if_pos rfl, ckE_0 (by omega) (by omega)]
theorem ck2_in {k j : Int} (h : ck2 k j = 0) : ∃ m n : Nat, k = (m : Int) ∧ j = (n : Int) ∧ m ≤ 1048576 ∧ n ≤ 1048576 := by
  unfold ck2 at h
  split at h
  · rename_i h1
    obtain ⟨a1, a2⟩ := ckE_z.1 h1
    obtain ⟨b1, b2⟩ := ckE_z.1 h
    exact ⟨k.toNat, j.toNat, by omega, by omega, by omega, by omega⟩
  · rename_i h1; exact absurd h h1
def a19 : AC := .seq (.reg [qr 2 (.bx 37 (.t 0)),
 qr 3 (.bx 37 (.t 1)),
 qr 4 (.mv (.k (.i .i64 0))),
 qr 5 (.mv (.k (.i .i64 0)))])
 (.seq (.seq (.reg [qr 9 (.ld true 4 (.t 2)),
 qr 10 (.ld true 4 (.t 3)),
 qr 11 (.bsl 37 4 2 [(.b false), (.l 1 []), (.i .i64 0), (.b false), (.b false), (.l 1 []), (.i .i64 0), (.b false)] [(0, (.t 9)), (1, (.t 10))]),
 qr 12 (.call 56 [(4, (.t 11))]),
 qm 6 12])
 (.seq (.reg [qm 13 6,
 qr 14 (.bin .neq (.t 13) (.k (.i .i64 0)))])
 (.cond (.t 14)
 (.seq (.reg [qm 15 6,
 qr 4 (.mv (.k (.i .i64 0))),
 qm 5 15])
 (.ret))
 (.skip))))
 (.seq (.reg [qr 17 (.ld true 4 (.t 2)),
 qr 18 (.ld true 4 (.t 3)),
 qr 19 (.call 57 [(1, (.t 17)), (1, (.t 18))]),
 qm 16 19,
 qr 20 (.ext (.t 16) 0),
 qr 21 (.ext (.t 16) 1),
 qm 7 20,
 qm 8 21])
 (.seq (.reg [qm 22 7,
 qm 4 22,
 qr 5 (.mv (.k (.i .i64 0)))])
 (.ret))))
theorem ccmp_spec (s t : Bool) (a b : List Nat) (k j m : Nat) (p q : Bool) (hk : k ≤ 1048576) (hj : j ≤ 1048576) (ha : Wd a) (hb : Wd b) (la : a.length ≤ m) (lb : b.length ≤ m) (hm : m ≤ 2000000) :
    AFun Tryz.prog J0 19 [cL s a (k : Int) p, cL t b (j : Int) q] (.t [.i .i64 (cpV (cq (loQ (hiN (zv s a) p) k) (loQ (zv t b) j)) (cq (loQ (zv s a) k) (loQ (hiN (zv t b) q) j)) (!p || !q)), .i .i64 0]) := by
  have h1 := cchk2 s t a b (k : Int) (j : Int) p q
  rw [ck2_0 hk hj] at h1
  have h2 := ccompare_spec s t a b k j m p q hk hj ha hb la lb hm
  generalize cpV (cq (loQ (hiN (zv s a) p) k) (loQ (zv t b) j)) (cq (loQ (zv s a) k) (loQ (hiN (zv t b) q) j)) (!p || !q) = c at *
  generalize (decide (0 ≤ cq (loQ (hiN (zv s a) p) k) (loQ (zv t b) j)) && decide (cq (loQ (zv s a) k) (loQ (hiN (zv t b) q) j) ≤ 0)) = d at *
  refine mkQ fol J0s Tryz.func19 a19 ?_
  unfold a19
  simp only [init_eq, initE, qm, qr, qn]
  exact wdQ @bz_C2
theorem ccmpE_spec (s t : Bool) (a b : List Nat) (k j : Int) (p q : Bool) (h : ck2 k j ≠ 0) : AFun Tryz.prog J0 19 [cL s a k p, cL t b j q] (.t [.i .i64 0, .i .i64 (ck2 k j)]) := by
  have h1 := cchk2 s t a b k j p q
  generalize ck2 k j = e at *
  refine mkQ fol J0s Tryz.func19 a19 ?_
  unfold a19
  simp only [init_eq, initE, qm, qr, qn]
  exact wdQ (ai @h @bz_C2)
def a20 : AC := .seq (.reg [qr 2 (.bx 37 (.t 0)),
 qr 3 (.bx 37 (.t 1)),
 qr 4 (.mv (.k (.b false))),
 qr 5 (.mv (.k (.i .i64 0)))])
 (.seq (.seq (.reg [qr 9 (.ld true 4 (.t 2)),
 qr 10 (.ld true 4 (.t 3)),
 qr 11 (.bsl 37 4 2 [(.b false), (.l 1 []), (.i .i64 0), (.b false), (.b false), (.l 1 []), (.i .i64 0), (.b false)] [(0, (.t 9)), (1, (.t 10))]),
 qr 12 (.call 56 [(4, (.t 11))]),
 qm 6 12])
 (.seq (.reg [qm 13 6,
 qr 14 (.bin .neq (.t 13) (.k (.i .i64 0)))])
 (.cond (.t 14)
 (.seq (.reg [qm 15 6,
 qr 4 (.mv (.k (.b false))),
 qm 5 15])
 (.ret))
 (.skip))))
 (.seq (.reg [qr 17 (.ld true 4 (.t 2)),
 qr 18 (.ld true 4 (.t 3)),
 qr 19 (.call 57 [(1, (.t 17)), (1, (.t 18))]),
 qm 16 19,
 qr 20 (.ext (.t 16) 0),
 qr 21 (.ext (.t 16) 1),
 qm 7 20,
 qm 8 21])
 (.seq (.reg [qm 22 8,
 qm 4 22,
 qr 5 (.mv (.k (.i .i64 0)))])
 (.ret))))
theorem ctouch_spec (s t : Bool) (a b : List Nat) (k j m : Nat) (p q : Bool) (hk : k ≤ 1048576) (hj : j ≤ 1048576) (ha : Wd a) (hb : Wd b) (la : a.length ≤ m) (lb : b.length ≤ m) (hm : m ≤ 2000000) :
    AFun Tryz.prog J0 20 [cL s a (k : Int) p, cL t b (j : Int) q] (.t [.b (decide (0 ≤ cq (loQ (hiN (zv s a) p) k) (loQ (zv t b) j)) && decide (cq (loQ (zv s a) k) (loQ (hiN (zv t b) q) j) ≤ 0)), .i .i64 0]) := by
  have h1 := cchk2 s t a b (k : Int) (j : Int) p q
  rw [ck2_0 hk hj] at h1
  have h2 := ccompare_spec s t a b k j m p q hk hj ha hb la lb hm
  generalize cpV (cq (loQ (hiN (zv s a) p) k) (loQ (zv t b) j)) (cq (loQ (zv s a) k) (loQ (hiN (zv t b) q) j)) (!p || !q) = c at *
  generalize (decide (0 ≤ cq (loQ (hiN (zv s a) p) k) (loQ (zv t b) j)) && decide (cq (loQ (zv s a) k) (loQ (hiN (zv t b) q) j) ≤ 0)) = d at *
  refine mkQ fol J0s Tryz.func20 a20 ?_
  unfold a20
  simp only [init_eq, initE, qm, qr, qn]
  exact wdQ @bz_C2
theorem ctouchE_spec (s t : Bool) (a b : List Nat) (k j : Int) (p q : Bool) (h : ck2 k j ≠ 0) : AFun Tryz.prog J0 20 [cL s a k p, cL t b j q] (.t [.b false, .i .i64 (ck2 k j)]) := by
  have h1 := cchk2 s t a b k j p q
  generalize ck2 k j = e at *
  refine mkQ fol J0s Tryz.func20 a20 ?_
  unfold a20
  simp only [init_eq, initE, qm, qr, qn]
  exact wdQ (ai @h @bz_C2)
theorem open_same {z w : Int} {k j : Nat} : (loQ z k = loQ w j ∧ loQ (z + 1) k = loQ (w + 1) j) ↔ (k = j ∧ z = w) := by
  constructor
  · rintro ⟨h1, h2⟩
    rw [Rat.mkRat_eq_iff (two_ne k) (two_ne j)] at h1 h2
    have h3 : ((2 ^ j : Nat) : Int) = ((2 ^ k : Nat) : Int) := by
      rw [Int.add_mul, Int.add_mul] at h2; omega
    have h4 : k = j := ((Nat.pow_right_inj (by decide : 1 < 2)).1 (Int.ofNat_inj.1 h3)).symm
    subst h4
    exact ⟨rfl, Int.eq_of_mul_eq_mul_right (by have := two_ne k; omega) h1⟩
  · rintro ⟨rfl, rfl⟩; exact ⟨rfl, rfl⟩
theorem cz_0 (x y : Int) : (cz x y = 0) = (x = y) := by
  unfold cz
  by_cases h : x < y
  · rw [if_pos h]; exact propext ⟨fun h => absurd h (by decide), fun h => by omega⟩
  · rw [if_neg h]
    by_cases h2 : x = y
    · rw [if_pos h2]; exact propext ⟨fun _ => h2, fun _ => rfl⟩
    · rw [if_neg h2]; exact propext ⟨fun h => absurd h (by decide), fun h => absurd h h2⟩
def eqV (p q : Bool) (La Ha Lb Hb : Rat) : Bool := (p == q) && (decide (cq La Lb = 0) && decide (cq Ha Hb = 0))
def wiV (p q : Bool) (La Ha Lb Hb : Rat) : Bool := if p then (if q then decide (cq Lb La = 0) else decide (cq Lb La < 0) && decide (cq La Hb < 0)) else !q && (decide (cq Lb La ≤ 0) && decide (cq Ha Hb ≤ 0))
end Go.Proofs.YtfcpigjmagbnkaaGreatDoor
