/-
  Lists of cells: which holds a number; the law.
-/
import Derived.Test.YtbfoplcpgpienaaGreatDoorC8
namespace Go.Proofs.YtbfoplcpgpienaaGreatDoor
open Go Go.RowKit Ab
set_option linter.unusedSimpArgs false
set_option linter.unusedVariables false
set_option maxHeartbeats 10000000
theorem bz_C9 : type_of% (And.intro @W_len (And.intro @D_len (And.intro @Nat.div_one (And.intro @Nat.mul_one (And.intro @tn_nat (And.intro @W_nf (And.intro @D_nf (And.intro @W_nil (And.intro @D_nil (And.intro @wi (And.intro @nf_g (And.intro @Bool.false_and (@W_cell))))))))))))) := And.intro @W_len (And.intro @D_len (And.intro @Nat.div_one (And.intro @Nat.mul_one (And.intro @tn_nat (And.intro @W_nf (And.intro @D_nf (And.intro @W_nil (And.intro @D_nil (And.intro @wi (And.intro @nf_g (And.intro @Bool.false_and (@W_cell))))))))))))
def hasC (r : Rat) (c : Cel) : Bool := haV c.2.2.2 (cLo c) (cHi c) r
def fnd (r : Rat) : List Cel → Nat → Int
  | [], _ => -1
  | c :: l, n => if hasC r c then (n : Int) else fnd r l (n + 1)
theorem fnd_at {r : Rat} : ∀ (l : List Cel) (i n : Nat), i < l.length → (∀ u, u < i → hasC r (l.getD u nulC) = false) → hasC r (l.getD i nulC) = true → fnd r l n = ((n + i : Nat) : Int)
  | [], i, n, hi, _, _ => by cases hi
  | c :: l, 0, n, _, _, h => by
    have h' : hasC r c = true := h
    unfold fnd; rw [if_pos h']; rfl
  | c :: l, i + 1, n, hi, h1, h2 => by
    unfold fnd
    have h0 : hasC r c = false := h1 0 (by omega)
    rw [h0, if_neg (by decide), fnd_at l i (n + 1) (by simpa using hi) (fun u hu => h1 (u + 1) (by omega)) h2]
    omega
theorem fnd_none {r : Rat} : ∀ (l : List Cel) (n : Nat), (∀ u, u < l.length → hasC r (l.getD u nulC) = false) → fnd r l n = -1
  | [], _, _ => rfl
  | c :: l, n, h => by
    unfold fnd
    have h0 : hasC r c = false := h 0 (by simp)
    rw [h0, if_neg (by decide)]
    exact fnd_none l (n + 1) fun u hu => h (u + 1) (by simpa using hu)
def fdE (l : List Cel) (d : Nat) : Int := if cks l = 0 then (if d = 0 then 1 else 0) else cks l
def fdV (l : List Cel) (z : Int) (d : Nat) : Int := if fdE l d = 0 then fnd (mkRat z d) l 0 else 0
theorem holdsC (c : Cel) (m : Nat) (t : Bool) (b d : List Nat) (hc : Wd c.2.1) (lc : c.2.1.length ≤ m) (ec : ckE c.2.2.1 = 0) (hb : Wd b) (hd : Wd d) (lb : b.length ≤ m) (ld : d.length ≤ m) (h0 : nv B d ≠ 0) (hm : 20000 ≤ m) (hm1 : m ≤ 2000000) :
    AFun Tryz.prog J0 38 [cL c.1 c.2.1 c.2.2.1 c.2.2.2, rL t b d] (.t [.b (hasC (mkRat (zv t b) (nv B d)) c), .i .i64 0]) ∧ AFun Tryz.prog J0 68 [cL c.1 c.2.1 c.2.2.1 c.2.2.2, rL t b d] (.b (hasC (mkRat (zv t b) (nv B d)) c)) := by
  obtain ⟨h1, h2⟩ := eN_k ec
  rw [h1]
  have hv := Rr_raw (s := t) hb hd lb ld h0
  exact ⟨cholds_spec c.1 c.2.1 (eN c) m c.2.2.2 h2 hc lc hv hm hm1, rhas_spec c.1 c.2.1 (eN c) m c.2.2.2 h2 hc lc (Rr_up hv (Nat.le_succ m)) hm hm1⟩
def a35 : AC := .seq (.reg [qr 3 (.bx 43 (.t 1)),
 qr 4 (.mv (.k (.i .i64 0))),
 qr 5 (.mv (.k (.i .i64 0)))])
 (.seq (.seq (.reg [qm 12 0,
 qr 13 (.call 63 [(4, (.t 12))]),
 qm 6 13])
 (.seq (.reg [qm 14 6,
 qr 15 (.bin .neq (.t 14) (.k (.i .i64 0)))])
 (.cond (.t 15)
 (.seq (.reg [qm 16 6,
 qr 4 (.mv (.k (.i .i64 0))),
 qm 5 16])
 (.ret))
 (.skip))))
 (.seq (.seq (.reg [qr 17 (.ld true 3 (.t 3)),
 qr 18 (.call 78 [(1, (.t 17))]),
 qm 7 18])
 (.seq (.reg [qm 19 7,
 qr 20 (.bin .neq (.t 19) (.k (.i .i64 0)))])
 (.cond (.t 20)
 (.seq (.reg [qm 21 7,
 qr 4 (.mv (.k (.i .i64 0))),
 qm 5 21])
 (.ret))
 (.skip))))
 (.seq (.seq (.reg [qm 22 0,
 qr 23 (.len (.t 22)),
 qr 24 (.mv (.k (.i .i64 0)))])
 (.blk 0
 (.loop
 (.seq (.reg [qr 25 (.bin .lss (.t 24) (.t 23))])
 (.seq (.cond (.t 25)
 (.skip)
 (.exit 0))
 (.seq (.blk 1
 (.seq (.reg [qm 26 24,
 qr 27 (.idx 4 (.t 22) (.t 24)),
 qr 28 (.ld true 4 (.t 27)),
 qr 9 (.al 27 [(.b false), (.l 1 []), (.i .i64 0), (.b false)]),
 qm 8 26,
 qn (.st 4 (.t 9) (.t 28))])
 (.seq (.reg [qr 30 (.ld true 4 (.t 9)),
 qr 31 (.ld true 3 (.t 3)),
 qr 32 (.call 38 [(1, (.t 30)), (1, (.t 31))]),
 qm 29 32,
 qr 33 (.ext (.t 29) 0),
 qr 34 (.ext (.t 29) 1),
 qm 10 33,
 qm 11 34])
 (.seq (.reg [qm 35 10])
 (.cond (.t 35)
 (.seq (.reg [qm 36 8,
 qm 4 36,
 qr 5 (.mv (.k (.i .i64 0)))])
 (.ret))
 (.skip))))))
 (.reg [qr 37 (.bin .add (.t 24) (.k (.i .i64 1))),
 qm 24 37])))))))
 (.seq (.reg [qr 4 (.mv (.k (.i .i64 (-1)))),
 qr 5 (.mv (.k (.i .i64 0)))])
 (.ret)))))
theorem cfind_spec (l : List Cel) (m : Nat) (t : Bool) (b d : List Nat) (ll : l.length ≤ 100000000) (hl : COk l m) (hb : Wd b) (hd : Wd d) (lb : b.length ≤ m) (ld : d.length ≤ m) (hm : 20000 ≤ m) (hm1 : m ≤ 2000000) :
    AFun Tryz.prog J0 35 [.l 4 (CC l), rL t b d] (.t [.i .i64 (fdV l (zv t b) (nv B d)), .i .i64 (fdE l (nv B d))]) := by
  have h1 := cchecked_spec l (by omega)
  have h2 := qcheck_spec t b d hd (by omega)
  have hz := CC_len l
  have hdv : l.length * 4 / 4 = l.length := by omega
  unfold fdV fdE
  by_cases h0 : cks l = 0
  · rw [if_pos h0]
    have hk := cks_get h0
    rw [h0] at h1
    by_cases h3 : nv B d = 0
    · rw [if_pos h3] at h2
      rw [if_pos h3, if_neg (by decide)]
      clear h0
      refine mkQ fol J0s Tryz.func35 a35 ?_
      unfold a35
      simp only [init_eq, initE, qm, qr, qn]
      exact wdQ @bz_C9
    · rw [if_neg h3] at h2
      rw [if_neg h3, if_pos rfl]
      obtain ⟨r, hr0⟩ : ∃ r, r = fnd (mkRat (zv t b) (nv B d)) l 0 := ⟨_, rfl⟩
      rw [← hr0]
      clear h0
      refine mkQ fol J0s Tryz.func35 a35 ?_
      unfold a35
      simp only [init_eq, initE, qm, qr, qn]
      refine wkQ (ai @hdv (ai @hz @bz_C9)) ?_
      refine vm_loopA [] Nat (fun i => ⟨[(3, .pt 0 0), (22, .l 4 (CC l)), (23, .i .i64 (l.length : Int)), (24, .i .i64 (i : Int))], [(0, some ⟨43, 3, [.b t, .l 1 (W b), .l 1 (W d)], true, true⟩)], 1⟩)
        (fun i => i ≤ l.length ∧ ∀ u, u < i → hasC (mkRat (zv t b) (nv B d)) (l.getD u nulC) = false) (fun i => l.length - i) 0 ⟨Nat.zero_le _, fun u hu => by omega⟩ (by exact leQ) (by
        exact ltQ) ?_
      intro i ⟨hi, hall⟩ Q' hQ he hr
      by_cases h : (i : Int) < (l.length : Int)
      · have row := CC_row l i (by omega)
        have hc := (holdsC (l.getD i nulC) m t b d (hl _).1 (hl _).2 (hk _ (by omega)) hb hd lb ld h3 hm hm1).1
        cases hx : hasC (mkRat (zv t b) (nv B d)) (l.getD i nulC)
        · rw [hx] at hc
          have hall2 : ∀ u, u < i + 1 → hasC (mkRat (zv t b) (nv B d)) (l.getD u nulC) = false := fun u hu => by
            by_cases e : u = i
            · subst e; exact hx
            · exact hall u (by omega)
          clear hx
          generalize l.getD i nulC = x at *
          refine wkQ (ai @row (ai @hz (ai @h @bz_C9))) ?_
          refine hQ _ (i + 1) ⟨by omega, hall2⟩ (by omega) ?_
          exact ltQ
        · rw [hx] at hc
          have e : r = (i : Int) := by rw [hr0, fnd_at l i 0 (by omega) hall hx, Nat.zero_add]
          clear hx
          generalize l.getD i nulC = x at *
          refine wkQ (ai @row (ai @hz (ai @h @bz_C9))) ?_
          refine hr _ ?_
          exact pdQ (ai @e @bz_C9)
      · obtain rfl : i = l.length := by omega
        have e : r = -1 := hr0.trans (fnd_none l 0 hall)
        refine spQ (ai @h @bz_C9) ?_
        refine he _ _ ?_
        exact pdQ (ai @e @bz_C9)
  · rw [if_neg h0, if_neg h0]
    generalize cks l = e at *
    refine mkQ fol J0s Tryz.func35 a35 ?_
    unfold a35
    simp only [init_eq, initE, qm, qr, qn]
    exact wdQ (ai @h0 @bz_C9)
def a34 : AC := .seq (.reg [qr 3 (.bx 43 (.t 1)),
 qr 4 (.mv (.k (.i .i64 0))),
 qr 5 (.mv (.k (.i .i64 0)))])
 (.seq (.seq (.reg [qr 6 (.mv (.k (.i .i64 0)))])
 (.blk 0
 (.loop
 (.seq (.seq (.reg [qm 10 6,
 qm 11 0,
 qr 12 (.len (.t 11)),
 qr 13 (.bin .lss (.t 10) (.t 12))])
 (.cond (.t 13)
 (.skip)
 (.exit 0)))
 (.seq (.blk 1
 (.seq (.reg [qm 16 0,
 qm 17 6,
 qr 18 (.idx 4 (.t 16) (.t 17)),
 qr 19 (.ld true 4 (.t 18)),
 qr 20 (.call 11 [(1, (.t 19))]),
 qm 7 20])
 (.seq (.reg [qm 21 7,
 qr 22 (.bin .neq (.t 21) (.k (.i .i64 0)))])
 (.cond (.t 22)
 (.seq (.reg [qm 23 7,
 qr 4 (.mv (.k (.i .i64 0))),
 qm 5 23])
 (.ret))
 (.skip)))))
 (.reg [qm 14 6,
 qr 15 (.bin .add (.t 14) (.k (.i .i64 1))),
 qm 6 15]))))))
 (.seq (.reg [qr 24 (.ld true 3 (.t 3)),
 qr 25 (.call 77 [(1, (.t 24))]),
 qm 8 25])
 (.seq (.seq (.reg [qm 26 8,
 qr 27 (.bin .neq (.t 26) (.k (.i .i64 0)))])
 (.cond (.t 27)
 (.seq (.reg [qm 28 8,
 qr 4 (.mv (.k (.i .i64 0))),
 qm 5 28])
 (.ret))
 (.skip)))
 (.seq (.seq (.reg [qr 9 (.mv (.k (.i .i64 0)))])
 (.blk 2
 (.loop
 (.seq (.seq (.reg [qm 29 9,
 qm 30 0,
 qr 31 (.len (.t 30)),
 qr 32 (.bin .lss (.t 29) (.t 31))])
 (.cond (.t 32)
 (.skip)
 (.exit 2)))
 (.seq (.blk 3
 (.seq (.dreg [qm 35 0,
 qm 36 9,
 qr 37 (.idx 4 (.t 35) (.t 36)),
 qr 38 (.ld true 4 (.t 37)),
 qr 39 (.ld true 3 (.t 3)),
 qr 40 (.call 68 [(1, (.t 38)), (1, (.t 39))])])
 (.cond (.t 40)
 (.seq (.reg [qm 41 9,
 qm 4 41,
 qr 5 (.mv (.k (.i .i64 0)))])
 (.ret))
 (.skip))))
 (.reg [qm 33 9,
 qr 34 (.bin .add (.t 33) (.k (.i .i64 1))),
 qm 9 34]))))))
 (.seq (.reg [qr 4 (.mv (.k (.i .i64 (-1)))),
 qr 5 (.mv (.k (.i .i64 0)))])
 (.ret))))))
theorem rfind_spec (l : List Cel) (m : Nat) (t : Bool) (b d : List Nat) (ll : l.length ≤ 100000000) (hl : COk l m) (hb : Wd b) (hd : Wd d) (lb : b.length ≤ m) (ld : d.length ≤ m) (hm : 20000 ≤ m) (hm1 : m ≤ 2000000) :
    AFun Tryz.prog J0 34 [.l 4 (CC l), rL t b d] (.t [.i .i64 (fdV l (zv t b) (nv B d)), .i .i64 (fdE l (nv B d))]) := by
  have h2 := rrat_spec t b d hd (by omega)
  have hz := CC_len l
  have hdv : l.length * 4 / 4 = l.length := by omega
  obtain ⟨r, hr0⟩ : ∃ r, r = fdV l (zv t b) (nv B d) := ⟨_, rfl⟩
  obtain ⟨ee, he0⟩ : ∃ ee, ee = fdE l (nv B d) := ⟨_, rfl⟩
  rw [← hr0, ← he0]
  unfold fdV fdE at hr0
  unfold fdE at he0
  refine mkQ fol J0s Tryz.func34 a34 ?_
  unfold a34
  simp only [init_eq, initE, qm, qr, qn]
  refine spQ @bz_C9 ?_
  refine vm_loopA [] Nat (fun i => ⟨[(0, .l 4 (CC l)), (3, .pt 0 0), (6, .i .i64 (i : Int))], [(0, some ⟨43, 3, [.b t, .l 1 (W b), .l 1 (W d)], true, true⟩)], 1⟩)
    (fun i => i ≤ l.length ∧ ∀ u, u < i → ckE (l.getD u nulC).2.2.1 = 0) (fun i => l.length - i) 0 ⟨Nat.zero_le _, fun u hu => by omega⟩ (by exact leQ) (by
    exact ltQ) ?_
  intro i ⟨hi, hall⟩ Q' hQ he hr
  by_cases h : (i : Int) < (l.length : Int)
  · have row := CC_row l i (by omega)
    have hc := rccheck_spec (l.getD i nulC).1 (l.getD i nulC).2.1 (l.getD i nulC).2.2.1 (l.getD i nulC).2.2.2
    by_cases h0 : ckE (l.getD i nulC).2.2.1 = 0
    · rw [h0] at hc
      have hall2 : ∀ u, u < i + 1 → ckE (l.getD u nulC).2.2.1 = 0 := fun u hu => by
        by_cases e : u = i
        · subst e; exact h0
        · exact hall u (by omega)
      generalize l.getD i nulC = x at *
      refine wkQ (ai @row (ai @hdv (ai @hz (ai @h @bz_C9)))) ?_
      refine hQ _ (i + 1) ⟨by omega, hall2⟩ (by omega) ?_
      exact ltQ
    · have hs := cks_split (by omega) hall h0
      have hn : ¬ cks l = 0 := by rw [hs]; exact h0
      rw [if_neg hn] at he0
      rw [if_neg hn, if_neg hn] at hr0
      rw [hs] at he0
      generalize l.getD i nulC = x at *
      generalize ckE x.2.2.1 = e at *
      refine wkQ (ai @h0 (ai @row (ai @hdv (ai @hz (ai @h @bz_C9))))) ?_
      refine hr _ ?_
      exact pdQ (ai @hr0 (ai @he0 @bz_C9))
  · obtain rfl : i = l.length := by omega
    have h0 := cks_all hall
    rw [if_pos h0] at he0
    rw [if_pos h0] at hr0
    have hk := hall
    by_cases h3 : nv B d = 0
    · rw [if_pos h3] at h2 he0 hr0
      rw [if_neg (by decide)] at hr0
      refine spQ (ai @hdv (ai @hz (ai @h @bz_C9))) ?_
      refine he _ _ ?_
      exact wdQ (ai @hr0 (ai @he0 @bz_C9))
    · rw [if_neg h3] at h2 he0 hr0
      rw [if_pos rfl] at hr0
      refine spQ (ai @hdv (ai @hz (ai @h @bz_C9))) ?_
      refine he _ _ ?_
      refine wkQ @bz_C9 ?_
      refine vm_loopA [] Nat (fun i => ⟨[(0, .l 4 (CC l)), (3, .pt 0 0), (9, .i .i64 (i : Int))], [(0, some ⟨43, 3, [.b t, .l 1 (W b), .l 1 (W d)], true, true⟩)], 1⟩)
        (fun i => i ≤ l.length ∧ ∀ u, u < i → hasC (mkRat (zv t b) (nv B d)) (l.getD u nulC) = false) (fun i => l.length - i) 0 ⟨Nat.zero_le _, fun u hu => by omega⟩ (by exact leQ) (by
        exact ltQ) ?_
      intro i ⟨hi, hall⟩ Q'' hQ' he' hr'
      by_cases h : (i : Int) < (l.length : Int)
      · have row := CC_row l i (by omega)
        have hc := (holdsC (l.getD i nulC) m t b d (hl _).1 (hl _).2 (hk _ (by omega)) hb hd lb ld h3 hm hm1).2
        cases hx : hasC (mkRat (zv t b) (nv B d)) (l.getD i nulC)
        · rw [hx] at hc
          have hall2 : ∀ u, u < i + 1 → hasC (mkRat (zv t b) (nv B d)) (l.getD u nulC) = false := fun u hu => by
            by_cases e : u = i
            · subst e; exact hx
            · exact hall u (by omega)
          clear hx
          generalize l.getD i nulC = x at *
          refine wkQ (ai @row (ai @hdv (ai @hz (ai @h @bz_C9)))) ?_
          refine hQ' _ (i + 1) ⟨by omega, hall2⟩ (by omega) ?_
          exact ltQ
        · rw [hx] at hc
          have e : r = (i : Int) := by rw [hr0, fnd_at l i 0 (by omega) hall hx, Nat.zero_add]
          clear hx
          generalize l.getD i nulC = x at *
          refine wkQ (ai @row (ai @hdv (ai @hz (ai @h @bz_C9)))) ?_
          refine hr' _ ?_
          exact pdQ (ai @he0 (ai @e @bz_C9))
      · obtain rfl : i = l.length := by omega
        have e : r = -1 := hr0.trans (fnd_none l 0 hall)
        refine spQ (ai @hdv (ai @hz (ai @h @bz_C9))) ?_
        refine he' _ _ ?_
        exact pdQ (ai @he0 (ai @e @bz_C9))
def nrl (l : List Cel) : List Cel := l.map fun c => (c.1, c.2.1, nrc c.2.2.1, c.2.2.2)
theorem CC_app1 : ∀ (l : List Cel) (c : Cel), CC l ++ [.b c.1, .l 1 (W c.2.1), .i .i64 c.2.2.1, .b c.2.2.2] = CC (l ++ [c])
  | [], c => rfl
  | p :: r, c => by simp only [CC, List.cons_append, CC_app1 r c]
theorem nrl_take {l : List Cel} {i : Nat} (h : i < l.length) : nrl (l.take (i + 1)) = nrl (l.take i) ++ [((l.getD i nulC).1, (l.getD i nulC).2.1, nrc (l.getD i nulC).2.2.1, (l.getD i nulC).2.2.2)] := by
  unfold nrl
  rw [List.take_succ_eq_append_getElem h, List.map_append, List.getD_eq_getElem?_getD, List.getElem?_eq_getElem h]
  rfl
theorem nrl_ok {l : List Cel} {m : Nat} (h : ∀ p, p ∈ l → Wd p.2.1 ∧ p.2.1.length ≤ m) : COk (nrl l) m := fun i => by
  rcases Nat.lt_or_ge i l.length with h1 | h1
  · have e : (nrl l).getD i nulC = (l[i].1, l[i].2.1, nrc l[i].2.2.1, l[i].2.2.2) := by
      unfold nrl
      rw [List.getD_eq_getElem?_getD, List.getElem?_map, List.getElem?_eq_getElem h1]; rfl
    rw [e]
    exact h l[i] (List.getElem_mem h1)
  · have e : (nrl l).getD i nulC = nulC := by
      unfold nrl
      rw [List.getD_eq_getElem?_getD, List.getElem?_map, List.getElem?_eq_none h1]; rfl
    rw [e]
    exact ⟨Wd_nil, Nat.zero_le _⟩
def a6 : AC := .seq (.reg [qr 3 (.bx 43 (.t 1)),
 qr 4 (.mv (.k (.b false)))])
 (.seq (.seq (.reg [qr 15 (.call 10 []),
 qr 16 (.un .not (.t 15))])
 (.cond (.t 16)
 (.seq (.reg [qr 4 (.mv (.k (.b false)))])
 (.ret))
 (.skip)))
 (.seq (.reg [qr 5 (.mv (.k .nl))])
 (.seq (.seq (.reg [qr 6 (.mv (.k (.i .i64 0)))])
 (.blk 0
 (.loop
 (.seq (.seq (.reg [qm 17 6,
 qm 18 0,
 qr 19 (.len (.t 18)),
 qr 20 (.bin .lss (.t 17) (.t 19))])
 (.cond (.t 20)
 (.skip)
 (.exit 0)))
 (.seq (.blk 1
 (.reg [qm 23 5,
 qm 24 0,
 qm 25 6,
 qr 26 (.idx 4 (.t 24) (.t 25)),
 qr 27 (.ld true 4 (.t 26)),
 qr 28 (.call 18 [(1, (.t 27))]),
 qr 29 (.bsl 27 4 1 [(.b false), (.l 1 []), (.i .i64 0), (.b false)] [(0, (.t 28))]),
 qr 30 (.app 27 4 48 (.t 23) (.t 29)),
 qm 5 30]))
 (.reg [qm 21 6,
 qr 22 (.bin .add (.t 21) (.k (.i .i64 1))),
 qm 6 22]))))))
 (.seq (.reg [qm 32 5,
 qr 33 (.call 32 [(4, (.t 32))]),
 qm 31 33,
 qr 34 (.ext (.t 31) 0),
 qr 35 (.ext (.t 31) 1),
 qm 7 34,
 qm 8 35])
 (.seq (.reg [qm 37 5,
 qr 38 (.call 33 [(4, (.t 37))]),
 qm 36 38,
 qr 39 (.ext (.t 36) 0),
 qr 40 (.ext (.t 36) 1),
 qm 9 39,
 qm 10 40])
 (.seq (.reg [qm 42 5,
 qr 43 (.ld true 3 (.t 3)),
 qr 44 (.call 34 [(4, (.t 42)), (1, (.t 43))]),
 qm 41 44,
 qr 45 (.ext (.t 41) 0),
 qr 46 (.ext (.t 41) 1),
 qm 11 45,
 qm 12 46])
 (.seq (.reg [qm 48 5,
 qr 49 (.ld true 3 (.t 3)),
 qr 50 (.call 35 [(4, (.t 48)), (1, (.t 49))]),
 qm 47 50,
 qr 51 (.ext (.t 47) 0),
 qr 52 (.ext (.t 47) 1),
 qm 13 51,
 qm 14 52])
 (.seq (.reg [qm 53 7,
 qm 54 9,
 qr 55 (.eqb false (.t 53) (.t 54)),
 qm 56 55,
 ⟨some 57, some (56, true), .mv (.t 8)⟩,
 ⟨some 58, some (56, true), .mv (.t 10)⟩,
 ⟨some 59, some (56, true), .bin .eql (.t 57) (.t 58)⟩,
 qr 60 (.pick (.t 56) (.t 59) (.k (.b false))),
 qm 61 60,
 ⟨some 62, some (61, true), .mv (.t 11)⟩,
 ⟨some 63, some (61, true), .mv (.t 13)⟩,
 ⟨some 64, some (61, true), .bin .eql (.t 62) (.t 63)⟩,
 qr 65 (.pick (.t 61) (.t 64) (.k (.b false))),
 qm 66 65,
 ⟨some 67, some (66, true), .mv (.t 12)⟩,
 ⟨some 68, some (66, true), .mv (.t 14)⟩,
 ⟨some 69, some (66, true), .bin .eql (.t 67) (.t 68)⟩,
 qr 70 (.pick (.t 66) (.t 69) (.k (.b false))),
 qm 4 70])
 (.ret)))))))))
theorem cellsLists_spec (l : List Cel) (t : Bool) (b d : List Nat) (ll : l.length ≤ 1100000) (hl : ∀ p, p ∈ l → Wd p.2.1 ∧ p.2.1.length ≤ 1100000 ∧ -9223372036854775808 ≤ p.2.2.1 ∧ p.2.2.1 < 9223372036854775808) (hb : Wd b) (hd : Wd d) (lb : b.length ≤ 1100000) (ld : d.length ≤ 1100000) :
    AFun Tryz.prog J0 6 [.l 4 (CC l), rL t b d] (.b true) := by
  have kn := cknown_spec
  have hok := nrl_ok (l := l) (m := 1100000) fun p hp => ⟨(hl p hp).1, (hl p hp).2.1⟩
  have hln : (nrl l).length = l.length := List.length_map _
  have r1 := rapart_spec (nrl l) 1100000 (by omega) hok (by decide) (by decide)
  have r2 := capart_spec (nrl l) 1100000 (by omega) hok (by decide)
  have r3 := rfind_spec (nrl l) 1100000 t b d (by omega) hok hb hd lb ld (by decide) (by decide)
  have r4 := cfind_spec (nrl l) 1100000 t b d (by omega) hok hb hd lb ld (by decide) (by decide)
  have bb : ∀ u : Bool, (u == u) = true := fun u => by cases u <;> rfl
  generalize (if cks (nrl l) = 0 then apV (nrl l) else false) = v1 at *
  generalize cks (nrl l) = v2 at *
  generalize fdV (nrl l) (zv t b) (nv B d) = v3 at *
  generalize fdE (nrl l) (nv B d) = v4 at *
  have b1 := bb v1
  have hz := CC_len l
  have hdv : l.length * 4 / 4 = l.length := by omega
  refine mkQ fol J0s Tryz.func6 a6 ?_
  unfold a6
  simp only [init_eq, initE, qm, qr, qn]
  refine wkQ @bz_C9 ?_
  refine vm_loopA [(5, 27, 4)] Nat (fun i => ⟨[(0, .l 4 (CC l)), (3, .pt 0 0), (5, .ow 4 1 i), (6, .i .i64 (i : Int))], [(0, some ⟨43, 3, [.b t, .l 1 (W b), .l 1 (W d)], true, true⟩), (1, some ⟨27, 4, CC (nrl (l.take i)), true, false⟩)], 2⟩)
    (fun i => i ≤ l.length) (fun i => l.length - i) 0 (Nat.zero_le _) (by exact leQ) (by
    exact ltQ) ?_
  intro i hi Q' hQ he hr
  have hz2 := CC_len (nrl (l.take i))
  have hl2 : (nrl (l.take i)).length = i := by unfold nrl; rw [List.length_map, List.length_take]; omega
  rw [hl2] at hz2
  have hd2 : i * 4 / 4 = i := by omega
  by_cases h : (i : Int) < (l.length : Int)
  · have row := CC_row l i (by omega)
    have hmem : l.getD i nulC ∈ l := by rw [List.getD_eq_getElem?_getD, List.getElem?_eq_getElem (by omega)]; exact List.getElem_mem _
    obtain ⟨_, _, k1, k2⟩ := hl _ hmem
    have hc := cnear_spec (l.getD i nulC).1 (l.getD i nulC).2.1 (l.getD i nulC).2.2.1 (l.getD i nulC).2.2.2 k1 k2
    have happ := CC_app1 (nrl (l.take i)) ((l.getD i nulC).1, (l.getD i nulC).2.1, nrc (l.getD i nulC).2.2.1, (l.getD i nulC).2.2.2)
    rw [← nrl_take (by omega)] at happ
    simp only [] at happ
    generalize l.getD i nulC = x at *
    generalize CC (nrl (l.take i)) = cs at *
    refine wkQ (ai @happ (ai @hd2 (ai @hz2 (ai @row (ai @hdv (ai @hz (ai @h @bz_C9))))))) ?_
    refine hQ _ (i + 1) (by omega) (by omega) ?_
    exact ltQ
  · obtain rfl : i = l.length := by omega
    rw [List.take_length] at hz2 ⊢
    refine spQ (ai @hdv (ai @hz (ai @h @bz_C9))) ?_
    refine he _ _ ?_
    exact wdQ (ai @b1 (ai @eqsA @bz_C9))
end Go.Proofs.YtbfoplcpgpienaaGreatDoor
