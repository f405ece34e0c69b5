/-
  Lists of cells: apart, found, by the program and by the document; the law.
-/
import Derived.Test.YtbfoplcpgpienaaGreatDoorLCForms
namespace Go.Proofs.YtbfoplcpgpienaaGreatDoor
open Go Go.RowKit Ab
set_option linter.unusedSimpArgs false
set_option linter.unusedVariables false
set_option maxHeartbeats 10000000
theorem bz_C8 : type_of% (And.intro @W_len (And.intro @D_len (And.intro @Nat.div_one (And.intro @Nat.mul_one (And.intro @tn_nat (And.intro @W_nf (And.intro @D_nf (And.intro @W_nil (And.intro @D_nil (And.intro @wi (And.intro @nf_g (And.intro @Bool.false_and (@W_cell))))))))))))) := And.intro @W_len (And.intro @D_len (And.intro @Nat.div_one (And.intro @Nat.mul_one (And.intro @tn_nat (And.intro @W_nf (And.intro @D_nf (And.intro @W_nil (And.intro @D_nil (And.intro @wi (And.intro @nf_g (And.intro @Bool.false_and (@W_cell))))))))))))
abbrev Cel := Bool × List Nat × Int × Bool
def eN (c : Cel) : Nat := c.2.2.1.toNat
def cLo (c : Cel) : Rat := loQ (zv c.1 c.2.1) (eN c)
def cHi (c : Cel) : Rat := loQ (hiN (zv c.1 c.2.1) c.2.2.2) (eN c)
def COk (l : List Cel) (m : Nat) : Prop := ∀ i, Wd (l.getD i nulC).2.1 ∧ (l.getD i nulC).2.1.length ≤ m
def ahd (a b : Cel) : Bool := decide (cpV (cq (cHi a) (cLo b)) (cq (cLo a) (cHi b)) (!a.2.2.2 || !b.2.2.2) = -1) && !(decide (0 ≤ cq (cHi a) (cLo b)) && decide (cq (cLo a) (cHi b) ≤ 0))
def apV (l : List Cel) : Bool := (List.range (l.length - 1)).all fun i => ahd (l.getD i nulC) (l.getD (i + 1) nulC)
theorem apV_true {l : List Cel} (h : ∀ i, i + 1 < l.length → ahd (l.getD i nulC) (l.getD (i + 1) nulC) = true) : apV l = true := by
  unfold apV
  rw [List.all_eq_true]
  intro i hi
  rw [List.mem_range] at hi
  exact h i (by omega)
theorem apV_false {l : List Cel} {i : Nat} (hi : i + 1 < l.length) (h : ahd (l.getD i nulC) (l.getD (i + 1) nulC) = false) : apV l = false := by
  unfold apV
  rw [List.all_eq_false]
  exact ⟨i, List.mem_range.2 (by omega), by rw [h]; decide⟩
theorem cks_get {l : List Cel} (h : cks l = 0) : ∀ u, u < l.length → ckE (l.getD u nulC).2.2.1 = 0 := fun u hu => by
  induction l generalizing u with
  | nil => cases hu
  | cons c r ih =>
    unfold cks at h
    by_cases h1 : ckE c.2.2.1 = 0
    · rw [if_pos h1] at h
      cases u with
      | zero => exact h1
      | succ u => exact ih h u (by simpa using hu)
    · rw [if_neg h1] at h; exact absurd h h1
theorem eN_k {c : Cel} (h : ckE c.2.2.1 = 0) : c.2.2.1 = (eN c : Int) ∧ eN c ≤ 1048576 := by
  obtain ⟨h1, h2⟩ := ckE_z.1 h
  unfold eN
  omega
theorem ccmpC (a b : Cel) (m : Nat) (ha : Wd a.2.1) (hb : Wd b.2.1) (la : a.2.1.length ≤ m) (lb : b.2.1.length ≤ m) (ea : ckE a.2.2.1 = 0) (eb : ckE b.2.2.1 = 0) (hm : m ≤ 2000000) :
    AFun Tryz.prog J0 65 [cL a.1 a.2.1 a.2.2.1 a.2.2.2, cL b.1 b.2.1 b.2.2.1 b.2.2.2] (.t [.i .i64 (cpV (cq (cHi a) (cLo b)) (cq (cLo a) (cHi b)) (!a.2.2.2 || !b.2.2.2)), .b (decide (0 ≤ cq (cHi a) (cLo b)) && decide (cq (cLo a) (cHi b) ≤ 0))]) := by
  obtain ⟨h1, h2⟩ := eN_k ea
  obtain ⟨h3, h4⟩ := eN_k eb
  rw [h1, h3]
  exact ccompare_spec a.1 b.1 a.2.1 b.2.1 (eN a) (eN b) m a.2.2.2 b.2.2.2 h2 h4 ha hb la lb hm
def a33 : AC := .seq (.reg [qr 2 (.mv (.k (.b false))),
 qr 3 (.mv (.k (.i .i64 0)))])
 (.seq (.seq (.reg [qm 8 0,
 qr 9 (.call 63 [(4, (.t 8))]),
 qm 4 9])
 (.seq (.reg [qm 10 4,
 qr 11 (.bin .neq (.t 10) (.k (.i .i64 0)))])
 (.cond (.t 11)
 (.seq (.reg [qm 12 4,
 qr 2 (.mv (.k (.b false))),
 qm 3 12])
 (.ret))
 (.skip))))
 (.seq (.seq (.reg [qr 5 (.mv (.k (.i .i64 1)))])
 (.blk 0
 (.loop
 (.seq (.seq (.reg [qm 13 5,
 qm 14 0,
 qr 15 (.len (.t 14)),
 qr 16 (.bin .lss (.t 13) (.t 15))])
 (.cond (.t 16)
 (.skip)
 (.exit 0)))
 (.seq (.blk 1
 (.seq (.dreg [qm 20 0,
 qm 21 5,
 qr 22 (.bin .sub (.t 21) (.k (.i .i64 1))),
 qr 23 (.idx 4 (.t 20) (.t 22)),
 qr 24 (.ld true 4 (.t 23)),
 qm 25 0,
 qm 26 5,
 qr 27 (.idx 4 (.t 25) (.t 26)),
 qr 28 (.ld true 4 (.t 27)),
 qr 29 (.call 65 [(1, (.t 24)), (1, (.t 28))]),
 qm 19 29,
 qr 30 (.ext (.t 19) 0),
 qr 31 (.ext (.t 19) 1),
 qm 6 30,
 qm 7 31])
 (.seq (.reg [qm 32 6,
 qr 33 (.bin .neq (.t 32) (.k (.i .i64 (-1)))),
 qm 34 33,
 ⟨some 35, some (34, false), .mv (.t 7)⟩,
 qr 36 (.pick (.t 34) (.k (.b true)) (.t 35))])
 (.cond (.t 36)
 (.seq (.reg [qr 2 (.mv (.k (.b false))),
 qr 3 (.mv (.k (.i .i64 0)))])
 (.ret))
 (.skip)))))
 (.reg [qm 17 5,
 qr 18 (.bin .add (.t 17) (.k (.i .i64 1))),
 qm 5 18]))))))
 (.seq (.reg [qr 2 (.mv (.k (.b true))),
 qr 3 (.mv (.k (.i .i64 0)))])
 (.ret))))
theorem capart_spec (l : List Cel) (m : Nat) (ll : l.length ≤ 100000000) (hl : COk l m) (hm : m ≤ 2000000) : AFun Tryz.prog J0 33 [.l 4 (CC l)] (.t [.b (if cks l = 0 then apV l else false), .i .i64 (cks l)]) := by
  have h1 := cchecked_spec l (by omega)
  have hz := CC_len l
  have hd : l.length * 4 / 4 = l.length := by omega
  by_cases h0 : cks l = 0
  · rw [if_pos h0]
    have hk := cks_get h0
    rw [h0] at h1 ⊢
    obtain ⟨r, hr0⟩ : ∃ r, r = apV l := ⟨_, rfl⟩
    rw [← hr0]
    clear h0
    refine mkQ fol J0s Tryz.func33 a33 ?_
    unfold a33
    simp only [init_eq, initE, qm, qr, qn]
    refine wkQ @bz_C8 ?_
    refine vm_loopA [] Nat (fun i => ⟨[(0, .l 4 (CC l)), (5, .i .i64 (i : Int))], [], 0⟩)
      (fun i => 1 ≤ i ∧ (i ≤ l.length ∨ i = 1) ∧ ∀ u, u + 1 < i → ahd (l.getD u nulC) (l.getD (u + 1) nulC) = true) (fun i => l.length - i) 1 ⟨Nat.le_refl _, .inr rfl, fun u hu => by omega⟩ (by exact leQ) (by
      exact ltQ) ?_
    intro i ⟨hi1, hi2, hall⟩ Q' hQ he hr
    by_cases h : (i : Int) < (l.length : Int)
    · have row1 := CC_row l i (by omega)
      have row0 := CC_row l (i - 1) (by omega)
      have hc := ccmpC (l.getD (i - 1) nulC) (l.getD i nulC) m (hl _).1 (hl _).1 (hl _).2 (hl _).2 (hk _ (by omega)) (hk _ (by omega)) hm
      have w1 : IntKind.i64.wrap ((i : Int) - 1) = ((i - 1 : Nat) : Int) := by rw [wi (by omega)]; omega
      have h' : ((i - 1 : Nat) : Int) < (l.length : Int) := by omega
      have hah : ahd (l.getD (i - 1) nulC) (l.getD (i - 1 + 1) nulC) = (decide (cpV (cq (cHi (l.getD (i - 1) nulC)) (cLo (l.getD i nulC))) (cq (cLo (l.getD (i - 1) nulC)) (cHi (l.getD i nulC))) (!(l.getD (i - 1) nulC).2.2.2 || !(l.getD i nulC).2.2.2) = -1) && !(decide (0 ≤ cq (cHi (l.getD (i - 1) nulC)) (cLo (l.getD i nulC))) && decide (cq (cLo (l.getD (i - 1) nulC)) (cHi (l.getD i nulC)) ≤ 0))) := by rw [show i - 1 + 1 = i from by omega]; rfl
      generalize cpV (cq (cHi (l.getD (i - 1) nulC)) (cLo (l.getD i nulC))) (cq (cLo (l.getD (i - 1) nulC)) (cHi (l.getD i nulC))) (!(l.getD (i - 1) nulC).2.2.2 || !(l.getD i nulC).2.2.2) = c at *
      generalize (decide (0 ≤ cq (cHi (l.getD (i - 1) nulC)) (cLo (l.getD i nulC))) && decide (cq (cLo (l.getD (i - 1) nulC)) (cHi (l.getD i nulC)) ≤ 0)) = t at *
      have stop : ahd (l.getD (i - 1) nulC) (l.getD (i - 1 + 1) nulC) = false → r = false := fun e => hr0.trans (apV_false (by omega) e)
      have go : ahd (l.getD (i - 1) nulC) (l.getD (i - 1 + 1) nulC) = true → ∀ u, u + 1 < i + 1 → ahd (l.getD u nulC) (l.getD (u + 1) nulC) = true := fun e u hu => by
        by_cases e2 : u = i - 1
        · subst e2; exact e
        · exact hall u (by omega)
      generalize l.getD (i - 1) nulC = x at *
      generalize l.getD i nulC = y at *
      by_cases g : c = -1
      · subst g
        cases t
        · have zc1 := hc
          refine wkQ (ai @row1 (ai @row0 (ai @hd (ai @hz (ai @w1 (ai @h' (ai @h @bz_C8))))))) ?_
          refine hQ _ (i + 1) ⟨by omega, by omega, go (by rw [hah]; rfl)⟩ (by omega) ?_
          exact ltQ
        · have e := stop (by rw [hah]; rfl)
          refine wkQ (ai @row1 (ai @row0 (ai @hd (ai @hz (ai @w1 (ai @h' (ai @h @bz_C8))))))) ?_
          refine hr _ ?_
          exact pdQ (ai @e @bz_C8)
      · have e := stop (by rw [hah, decide_eq_false g, Bool.false_and])
        refine wkQ (ai @g (ai @row1 (ai @row0 (ai @hd (ai @hz (ai @w1 (ai @h' (ai @h @bz_C8)))))))) ?_
        refine hr _ ?_
        exact pdQ (ai @e @bz_C8)
    · have e : r = true := hr0.trans (apV_true fun u hu => hall u (by omega))
      refine spQ (ai @hd (ai @hz (ai @h @bz_C8))) ?_
      refine he _ _ ?_
      exact pdQ (ai @e @bz_C8)
  · rw [if_neg h0]
    generalize cks l = e at *
    refine mkQ fol J0s Tryz.func33 a33 ?_
    unfold a33
    simp only [init_eq, initE, qm, qr, qn]
    exact wdQ (ai @h0 @bz_C8)
theorem rcmpC (a b : Cel) (m : Nat) (ha : Wd a.2.1) (hb : Wd b.2.1) (la : a.2.1.length ≤ m) (lb : b.2.1.length ≤ m) (ea : ckE a.2.2.1 = 0) (eb : ckE b.2.2.1 = 0) (hm : 20000 ≤ m) (hm1 : m ≤ 2000000) :
    AFun Tryz.prog J0 21 [cL a.1 a.2.1 a.2.2.1 a.2.2.2, cL b.1 b.2.1 b.2.2.1 b.2.2.2] (.t [.i .i64 (cpV (cq (cHi a) (cLo b)) (cq (cLo a) (cHi b)) (!a.2.2.2 || !b.2.2.2)), .i .i64 0]) ∧ AFun Tryz.prog J0 67 [cL a.1 a.2.1 a.2.2.1 a.2.2.2, cL b.1 b.2.1 b.2.2.1 b.2.2.2] (.b (decide (0 ≤ cq (cHi a) (cLo b)) && decide (cq (cLo a) (cHi b) ≤ 0))) := by
  obtain ⟨h1, h2⟩ := eN_k ea
  obtain ⟨h3, h4⟩ := eN_k eb
  rw [h1, h3]
  exact ⟨rccmp_spec a.1 b.1 a.2.1 b.2.1 (eN a) (eN b) m a.2.2.2 b.2.2.2 h2 h4 ha hb la lb hm hm1, rtouches_spec a.1 b.1 a.2.1 b.2.1 (eN a) (eN b) m a.2.2.2 b.2.2.2 h2 h4 ha hb la lb hm hm1⟩
def a32 : AC := .seq (.reg [qr 2 (.mv (.k (.b false))),
 qr 3 (.mv (.k (.i .i64 0)))])
 (.seq (.seq (.reg [qr 4 (.mv (.k (.i .i64 0)))])
 (.blk 0
 (.loop
 (.seq (.seq (.reg [qm 9 4,
 qm 10 0,
 qr 11 (.len (.t 10)),
 qr 12 (.bin .lss (.t 9) (.t 11))])
 (.cond (.t 12)
 (.skip)
 (.exit 0)))
 (.seq (.blk 1
 (.seq (.reg [qm 15 0,
 qm 16 4,
 qr 17 (.idx 4 (.t 15) (.t 16)),
 qr 18 (.ld true 4 (.t 17)),
 qr 19 (.call 11 [(1, (.t 18))]),
 qm 5 19])
 (.seq (.reg [qm 20 5,
 qr 21 (.bin .neq (.t 20) (.k (.i .i64 0)))])
 (.cond (.t 21)
 (.seq (.reg [qm 22 5,
 qr 2 (.mv (.k (.b false))),
 qm 3 22])
 (.ret))
 (.skip)))))
 (.reg [qm 13 4,
 qr 14 (.bin .add (.t 13) (.k (.i .i64 1))),
 qm 4 14]))))))
 (.seq (.seq (.reg [qr 6 (.mv (.k (.i .i64 1)))])
 (.blk 2
 (.loop
 (.seq (.seq (.reg [qm 23 6,
 qm 24 0,
 qr 25 (.len (.t 24)),
 qr 26 (.bin .lss (.t 23) (.t 25))])
 (.cond (.t 26)
 (.skip)
 (.exit 2)))
 (.seq (.blk 3
 (.seq (.dreg [qm 30 0,
 qm 31 6,
 qr 32 (.bin .sub (.t 31) (.k (.i .i64 1))),
 qr 33 (.idx 4 (.t 30) (.t 32)),
 qr 34 (.ld true 4 (.t 33)),
 qm 35 0,
 qm 36 6,
 qr 37 (.idx 4 (.t 35) (.t 36)),
 qr 38 (.ld true 4 (.t 37)),
 qr 39 (.call 21 [(1, (.t 34)), (1, (.t 38))]),
 qm 29 39,
 qr 40 (.ext (.t 29) 0),
 qr 41 (.ext (.t 29) 1),
 qm 7 40,
 qm 8 41])
 (.seq (.dreg [qm 42 7,
 qr 43 (.bin .neq (.t 42) (.k (.i .i64 (-1)))),
 qm 44 43,
 ⟨some 45, some (44, false), .mv (.t 0)⟩,
 ⟨some 46, some (44, false), .mv (.t 6)⟩,
 ⟨some 47, some (44, false), .bin .sub (.t 46) (.k (.i .i64 1))⟩,
 ⟨some 48, some (44, false), .idx 4 (.t 45) (.t 47)⟩,
 ⟨some 49, some (44, false), .ld true 4 (.t 48)⟩,
 ⟨some 50, some (44, false), .mv (.t 0)⟩,
 ⟨some 51, some (44, false), .mv (.t 6)⟩,
 ⟨some 52, some (44, false), .idx 4 (.t 50) (.t 51)⟩,
 ⟨some 53, some (44, false), .ld true 4 (.t 52)⟩,
 ⟨some 54, some (44, false), .call 67 [(1, (.t 49)), (1, (.t 53))]⟩,
 qr 55 (.pick (.t 44) (.k (.b true)) (.t 54))])
 (.cond (.t 55)
 (.seq (.reg [qr 2 (.mv (.k (.b false))),
 qr 3 (.mv (.k (.i .i64 0)))])
 (.ret))
 (.skip)))))
 (.reg [qm 27 6,
 qr 28 (.bin .add (.t 27) (.k (.i .i64 1))),
 qm 6 28]))))))
 (.seq (.reg [qr 2 (.mv (.k (.b true))),
 qr 3 (.mv (.k (.i .i64 0)))])
 (.ret))))
theorem rapart_spec (l : List Cel) (m : Nat) (ll : l.length ≤ 100000000) (hl : COk l m) (hm : 20000 ≤ m) (hm1 : m ≤ 2000000) : AFun Tryz.prog J0 32 [.l 4 (CC l)] (.t [.b (if cks l = 0 then apV l else false), .i .i64 (cks l)]) := by
  have hz := CC_len l
  have hd : l.length * 4 / 4 = l.length := by omega
  obtain ⟨r, hr0⟩ : ∃ r, r = if cks l = 0 then apV l else false := ⟨_, rfl⟩
  obtain ⟨ee, he0⟩ : ∃ ee, ee = cks l := ⟨_, rfl⟩
  rw [← hr0, ← he0]
  refine mkQ fol J0s Tryz.func32 a32 ?_
  unfold a32
  simp only [init_eq, initE, qm, qr, qn]
  refine spQ @bz_C8 ?_
  refine vm_loopA [] Nat (fun i => ⟨[(0, .l 4 (CC l)), (4, .i .i64 (i : Int))], [], 0⟩)
    (fun i => i ≤ l.length ∧ ∀ u, u < i → ckE (l.getD u nulC).2.2.1 = 0) (fun i => l.length - i) 0 ⟨Nat.zero_le _, fun u hu => by omega⟩ (by exact leQ) (by
    exact ltQ) ?_
  intro i ⟨hi, hall⟩ Q' hQ he hr
  by_cases h : (i : Int) < (l.length : Int)
  · have row := CC_row l i (by omega)
    have hc := rccheck_spec (l.getD i nulC).1 (l.getD i nulC).2.1 (l.getD i nulC).2.2.1 (l.getD i nulC).2.2.2
    by_cases h0 : ckE (l.getD i nulC).2.2.1 = 0
    · rw [h0] at hc
      have hall2 : ∀ u, u < i + 1 → ckE (l.getD u nulC).2.2.1 = 0 := fun u hu => by
        by_cases e : u = i
        · subst e; exact h0
        · exact hall u (by omega)
      generalize l.getD i nulC = x at *
      refine wkQ (ai @row (ai @hd (ai @hz (ai @h @bz_C8)))) ?_
      refine hQ _ (i + 1) ⟨by omega, hall2⟩ (by omega) ?_
      exact ltQ
    · have hs := cks_split (by omega) hall h0
      have e1 : ee = ckE (l.getD i nulC).2.2.1 := he0.trans hs
      have e2 : r = false := by rw [hr0, hs, if_neg h0]
      generalize l.getD i nulC = x at *
      generalize ckE x.2.2.1 = e at *
      refine wkQ (ai @h0 (ai @row (ai @hd (ai @hz (ai @h @bz_C8))))) ?_
      refine hr _ ?_
      exact pdQ (ai @e2 (ai @e1 @bz_C8))
  · obtain rfl : i = l.length := by omega
    have h0 := cks_all hall
    rw [h0] at he0
    rw [if_pos h0] at hr0
    subst he0
    have hk := hall
    refine spQ (ai @hd (ai @hz (ai @h @bz_C8))) ?_
    refine he _ _ ?_
    refine spQ @bz_C8 ?_
    refine vm_loopA [] Nat (fun i => ⟨[(0, .l 4 (CC l)), (6, .i .i64 (i : Int))], [], 0⟩)
      (fun i => 1 ≤ i ∧ (i ≤ l.length ∨ i = 1) ∧ ∀ u, u + 1 < i → ahd (l.getD u nulC) (l.getD (u + 1) nulC) = true) (fun i => l.length - i) 1 ⟨Nat.le_refl _, .inr rfl, fun u hu => by omega⟩ (by exact leQ) (by
      exact ltQ) ?_
    intro i ⟨hi1, hi2, hall⟩ Q'' hQ' he' hr'
    by_cases h : (i : Int) < (l.length : Int)
    · have row1 := CC_row l i (by omega)
      have row0 := CC_row l (i - 1) (by omega)
      obtain ⟨hc, ht⟩ := rcmpC (l.getD (i - 1) nulC) (l.getD i nulC) m (hl _).1 (hl _).1 (hl _).2 (hl _).2 (hk _ (by omega)) (hk _ (by omega)) hm hm1
      have w1 : IntKind.i64.wrap ((i : Int) - 1) = ((i - 1 : Nat) : Int) := by rw [wi (by omega)]; omega
      have h' : ((i - 1 : Nat) : Int) < (l.length : Int) := by omega
      have hah : ahd (l.getD (i - 1) nulC) (l.getD (i - 1 + 1) nulC) = (decide (cpV (cq (cHi (l.getD (i - 1) nulC)) (cLo (l.getD i nulC))) (cq (cLo (l.getD (i - 1) nulC)) (cHi (l.getD i nulC))) (!(l.getD (i - 1) nulC).2.2.2 || !(l.getD i nulC).2.2.2) = -1) && !(decide (0 ≤ cq (cHi (l.getD (i - 1) nulC)) (cLo (l.getD i nulC))) && decide (cq (cLo (l.getD (i - 1) nulC)) (cHi (l.getD i nulC)) ≤ 0))) := by rw [show i - 1 + 1 = i from by omega]; rfl
      generalize cpV (cq (cHi (l.getD (i - 1) nulC)) (cLo (l.getD i nulC))) (cq (cLo (l.getD (i - 1) nulC)) (cHi (l.getD i nulC))) (!(l.getD (i - 1) nulC).2.2.2 || !(l.getD i nulC).2.2.2) = c at *
      generalize (decide (0 ≤ cq (cHi (l.getD (i - 1) nulC)) (cLo (l.getD i nulC))) && decide (cq (cLo (l.getD (i - 1) nulC)) (cHi (l.getD i nulC)) ≤ 0)) = t at *
      have stop : ahd (l.getD (i - 1) nulC) (l.getD (i - 1 + 1) nulC) = false → r = false := fun e => hr0.trans (apV_false (by omega) e)
      have go : ahd (l.getD (i - 1) nulC) (l.getD (i - 1 + 1) nulC) = true → ∀ u, u + 1 < i + 1 → ahd (l.getD u nulC) (l.getD (u + 1) nulC) = true := fun e u hu => by
        by_cases e2 : u = i - 1
        · subst e2; exact e
        · exact hall u (by omega)
      generalize l.getD (i - 1) nulC = x at *
      generalize l.getD i nulC = y at *
      by_cases g : c = -1
      · subst g
        cases t
        · have zc2 := hc
          have zc3 := ht
          refine wkQ (ai @row1 (ai @row0 (ai @hd (ai @hz (ai @w1 (ai @h' (ai @h @bz_C8))))))) ?_
          refine hQ' _ (i + 1) ⟨by omega, by omega, go (by rw [hah]; rfl)⟩ (by omega) ?_
          exact ltQ
        · have e := stop (by rw [hah]; rfl)
          have zc4 := ht
          refine wkQ (ai @row1 (ai @row0 (ai @hd (ai @hz (ai @w1 (ai @h' (ai @h @bz_C8))))))) ?_
          refine hr' _ ?_
          exact pdQ (ai @e @bz_C8)
      · have e := stop (by rw [hah, decide_eq_false g, Bool.false_and])
        refine wkQ (ai @g (ai @row1 (ai @row0 (ai @hd (ai @hz (ai @w1 (ai @h' (ai @h @bz_C8)))))))) ?_
        refine hr' _ ?_
        exact pdQ (ai @e @bz_C8)
    · have e : r = true := hr0.trans (apV_true fun u hu => hall u (by omega))
      refine spQ (ai @hd (ai @hz (ai @h @bz_C8))) ?_
      refine he' _ _ ?_
      exact pdQ (ai @e @bz_C8)
end Go.Proofs.YtbfoplcpgpienaaGreatDoor
