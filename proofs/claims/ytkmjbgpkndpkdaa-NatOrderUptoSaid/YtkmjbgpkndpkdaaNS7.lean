/-
  nat: sorted lists; the document's.
-/
import Derived.Test.YtkmjbgpkndpkdaaNS6
namespace Go.Proofs.Ytkmjbgpkndpkdaa
open Go Go.RowKit Ab
set_option linter.unusedSimpArgs false
set_option linter.unusedVariables false
set_option maxHeartbeats 10000000
theorem bz_NS7 : type_of% (And.intro @W_len (And.intro @D_len (And.intro @Nat.div_one (And.intro @Nat.mul_one (And.intro @tn_nat (And.intro @W_nf (And.intro @D_nf (And.intro @W_nil (@D_nil))))))))) := And.intro @W_len (And.intro @D_len (And.intro @Nat.div_one (And.intro @Nat.mul_one (And.intro @tn_nat (And.intro @W_nf (And.intro @D_nf (And.intro @W_nil (@D_nil))))))))
theorem SmL_vs {l : List (List Nat)} {m : Nat} (h : NOk l m) (hm : m ≤ 100000000) : SmL (vs l) := fun x hx => Nat.le_trans (dg_len B2 (vs_lt h x hx)) (by omega)
theorem take_s (L : List Nat) (i : Nat) (h : i < L.length) : L.take i ++ [L.getD i 0] = L.take (i + 1) := by
  rw [List.take_add_one, List.getElem?_eq_getElem h, List.getD_eq_getElem?_getD, List.getElem?_eq_getElem h]; rfl
theorem NV_take (L : List Nat) (i : Nat) : (NV L).take i = NV (L.take i) := by simp [NV]
theorem NV_drop (L : List Nat) (i : Nat) : (NV L).drop i = NV (L.drop i) := by simp [NV]
theorem NV_app (L M : List Nat) : NV L ++ NV M = NV (L ++ M) := by simp [NV]
def a10 : AC := .seq (.reg [qr 2 (.mv (.k .nl))])
 (.seq (.reg [qr 3 (.mv (.k .nl))])
 (.seq (.seq (.reg [qm 6 0,
 qr 7 (.len (.t 6)),
 qr 8 (.mv (.k (.i .i64 0)))])
 (.blk 0
 (.loop
 (.seq (.reg [qr 9 (.bin .lss (.t 8) (.t 7))])
 (.seq (.cond (.t 9)
 (.skip)
 (.exit 0))
 (.seq (.blk 1
 (.seq (.reg [qr 10 (.idx 1 (.t 6) (.t 8)),
 qr 11 (.ld false 1 (.t 10)),
 qm 5 11])
 (.reg [qm 12 3,
 qm 13 5,
 qr 14 (.call 20 [(1, (.t 13))]),
 qr 15 (.bsl 26 1 1 [(.l 1 [])] [(0, (.t 14))]),
 qr 16 (.app 26 1 24 (.t 12) (.t 15)),
 qm 3 16])))
 (.reg [qr 17 (.bin .add (.t 8) (.k (.i .i64 1))),
 qm 8 17])))))))
 (.seq (.reg [qm 18 3,
 qr 19 (.mcall 21 0 [(1, (.t 18)), (1, (.k (.c (.func (.func 12) #[] #[]))))])])
 (.seq (.reg [qm 20 3,
 qm 2 20])
 (.ret)))))
theorem nsorted_spec (l : List (List Nat)) (m : Nat) (h : NOk l m) (hm : m ≤ 100000000) : AFun Try.prog J0 10 [.l 1 (RV l)] (.o 26 1 (NV (srt (vs l) 0 l.length))) := by
  have kl := RV_len l
  have hl := h.1
  have hs := SmL_vs h hm
  refine mkQ fol J0s Try.func10 a10 ?_
  unfold a10
  simp only [init_eq, initE, qm, qr, qn]
  refine spQ (ai @kl @bz_NS7) ?_
  refine vm_loopA [(3, 26, 1)] Nat (fun i => ⟨[(3, .ow 1 0 i), (6, .l 1 (RV l)), (7, .i .i64 (l.length : Int)), (8, .i .i64 (i : Int))], [(0, some ⟨26, 1, NV ((vs l).take i), true, false⟩)], 1⟩)
    (fun i => i ≤ l.length) (fun i => l.length - i) 0 (Nat.zero_le _) (by exact leQ) (by
    exact ltQ) ?_
  intro i hi Q' hQ he hr
  by_cases h1 : (i : Int) < (l.length : Int)
  · obtain ⟨wa, la⟩ := h.get i (by omega)
    have g1 := RV_get l i (by omega)
    have c1 := own_spec (l.getD i []) (by omega)
    rw [tz_dg B2 wa, ← vs_get l i (by omega)] at c1
    have wi1 := iadd1 (show i ≤ 1099511627776 by omega)
    have e := NV_app1 ((vs l).take i) ((vs l).getD i 0)
    rw [take_s (vs l) i (by rw [vs_len]; omega)] at e
    generalize NV ((vs l).take i) = x at *
    generalize dg B ((vs l).getD i 0) = y at *
    refine wkQ (ai @e (ai @wi1 (ai @g1 (ai @kl (ai @h1 @bz_NS7))))) ?_
    refine hQ _ (i + 1) (by omega) (by omega) ?_
    exact ltQ
  · obtain rfl : i = l.length := by omega
    have e : (vs l).take l.length = vs l := List.take_of_length_le (by rw [vs_len]; exact Nat.le_refl _)
    have c1 := sortS_spec (vs l) hs (by rw [vs_len]; omega)
    rw [vs_len] at c1
    have kN : (NV (srt (vs l) 0 l.length)).length = l.length := by rw [NV_len, (srt_spec (vs l) (Nat.zero_le _) (by rw [vs_len]; exact Nat.le_refl _)).1.1, vs_len]
    rw [e]
    refine spQ (ai @h1 @bz_NS7) ?_
    refine he _ _ ?_
    refine wkQ @bz_NS7 ?_
    exact rtQ @bz_NS7
def Sel (V O L : List Nat) : Prop := (O ++ L).Perm V ∧ SoB O 0 O.length ∧ ∀ x y, x ∈ O → y ∈ L → x ≤ y
theorem SoB_app {O : List Nat} {x : Nat} (h : SoB O 0 O.length) (k : ∀ y, y ∈ O → y ≤ x) : SoB (O ++ [x]) 0 (O ++ [x]).length := fun p q hp hpq hq => by
  rw [List.length_append, List.length_singleton] at hq
  rw [getD_app', getD_app', if_pos (by omega)]
  by_cases c : q < O.length
  · rw [if_pos c]; exact h p q hp hpq c
  · rw [if_neg c, show q - O.length = 0 from by omega]
    rw [List.getD_eq_getElem?_getD, List.getElem?_eq_getElem (by omega)]
    exact k _ (List.getElem_mem _)
theorem Sel.step {V O L : List Nat} (h : Sel V O L) {k : Nat} (hk : k < L.length) (hm : ∀ y, y < L.length → L.getD k 0 ≤ L.getD y 0) : Sel V (O ++ [L.getD k 0]) (L.take k ++ L.drop (k + 1)) := by
  obtain ⟨h1, h2, h3⟩ := h
  have e : L.getD k 0 = L[k] := by rw [List.getD_eq_getElem?_getD, List.getElem?_eq_getElem hk]; rfl
  have hp : (L[k] :: (L.take k ++ L.drop (k + 1))).Perm L := by
    have h5 : L.take k ++ L[k] :: L.drop (k + 1) = L := by rw [← List.drop_eq_getElem_cons hk, List.take_append_drop]
    have h6 := (List.perm_middle (a := L[k]) (l₁ := L.take k) (l₂ := L.drop (k + 1))).symm
    rw [h5] at h6
    exact h6
  rw [e] at hm ⊢
  have hmem : L[k] ∈ L := List.getElem_mem hk
  refine ⟨?_, SoB_app h2 fun y hy => h3 y _ hy hmem, fun x y hx hy => ?_⟩
  · rw [List.append_assoc]
    exact ((List.perm_append_left_iff O).2 hp).trans h1
  · have hyL : y ∈ L := hp.mem_iff.1 (List.mem_cons_of_mem _ hy)
    rcases List.mem_append.1 hx with hx | hx
    · exact h3 x y hx hyL
    · rw [List.mem_singleton.1 hx]
      obtain ⟨i, hi, rfl⟩ := List.mem_iff_getElem.1 hyL
      have := hm i hi
      rw [List.getD_eq_getElem?_getD, List.getElem?_eq_getElem hi] at this
      exact this
theorem Sel.done {V O : List Nat} (h : Sel V O []) : O = srt V 0 V.length := by
  obtain ⟨h1, h2, _⟩ := h
  rw [List.append_nil] at h1
  have hl := h1.length_eq
  refine srt_of ⟨hl, h1, fun p hp => ?_⟩ (by rw [← hl]; exact h2) (Nat.zero_le _) (Nat.le_refl _)
  rw [List.getD_eq_getElem?_getD, List.getD_eq_getElem?_getD, List.getElem?_eq_none (by omega), List.getElem?_eq_none (by omega)]
theorem Sel.sm {V O L : List Nat} (h : Sel V O L) (hs : SmL V) : SmL L := fun x hx => hs x (h.1.mem_iff.1 (List.mem_append_right _ hx))
theorem Sel.len {V O L : List Nat} (h : Sel V O L) : O.length + L.length = V.length := by rw [← List.length_append]; exact h.1.length_eq
theorem rvcmp_spec {L : List Nat} (hs : ∀ x, x ∈ L → (dg B x).length ≤ 100000000000) (p q : Nat) (hp : p < L.length) (hq : q < L.length) : AFun Try.prog J0 19 [.l 1 (W (dg B (L.getD p 0))), .l 1 (W (dg B (L.getD q 0)))] (.i .i64 (sg (L.getD p 0) (L.getD q 0))) := by
  have hm : ∀ i, i < L.length → (dg B (L.getD i 0)).length ≤ 100000000000 := fun i hi => by
    rw [List.getD_eq_getElem?_getD, List.getElem?_eq_getElem hi]; exact hs _ (List.getElem_mem hi)
  have c := rcmp_spec (dg B (L.getD p 0)) (dg B (L.getD q 0)) (dg_Lt B0 _) (dg_Lt B0 _) (hm p hp) (hm q hq)
  rw [nv_dg B2, nv_dg B2] at c
  exact c
def a9 : AC := .seq (.reg [qr 2 (.mv (.k .nl))])
 (.seq (.reg [qr 3 (.mv (.k .nl)),
 qr 4 (.mv (.k .nl))])
 (.seq (.seq (.reg [qr 5 (.mv (.k (.i .i64 0)))])
 (.blk 0
 (.loop
 (.seq (.seq (.reg [qm 8 5,
 qm 9 0,
 qr 10 (.len (.t 9)),
 qr 11 (.bin .lss (.t 8) (.t 10))])
 (.cond (.t 11)
 (.skip)
 (.exit 0)))
 (.seq (.blk 1
 (.reg [qm 14 3,
 qm 15 0,
 qm 16 5,
 qr 17 (.idx 1 (.t 15) (.t 16)),
 qr 18 (.ld false 1 (.t 17)),
 qr 19 (.call 18 [(1, (.t 18))]),
 qr 20 (.bsl 26 1 1 [(.l 1 [])] [(0, (.t 19))]),
 qr 21 (.app 26 1 24 (.t 14) (.t 20)),
 qm 3 21]))
 (.reg [qm 12 5,
 qr 13 (.bin .add (.t 12) (.k (.i .i64 1))),
 qm 5 13]))))))
 (.seq (.blk 2
 (.loop
 (.seq (.seq (.reg [qm 22 3,
 qr 23 (.len (.t 22)),
 qr 24 (.bin .gtr (.t 23) (.k (.i .i64 0)))])
 (.cond (.t 24)
 (.skip)
 (.exit 2)))
 (.blk 3
 (.seq (.reg [qr 6 (.mv (.k (.i .i64 0)))])
 (.seq (.seq (.reg [qr 7 (.mv (.k (.i .i64 1)))])
 (.blk 4
 (.loop
 (.seq (.seq (.reg [qm 25 7,
 qm 26 3,
 qr 27 (.len (.t 26)),
 qr 28 (.bin .lss (.t 25) (.t 27))])
 (.cond (.t 28)
 (.skip)
 (.exit 4)))
 (.seq (.blk 5
 (.seq (.dreg [qm 31 3,
 qm 32 7,
 qr 33 (.idx 1 (.t 31) (.t 32)),
 qr 34 (.ld false 1 (.t 33)),
 qm 35 3,
 qm 36 6,
 qr 37 (.idx 1 (.t 35) (.t 36)),
 qr 38 (.ld false 1 (.t 37)),
 qr 39 (.call 19 [(1, (.t 34)), (1, (.t 38))]),
 qr 40 (.bin .lss (.t 39) (.k (.i .i64 0)))])
 (.cond (.t 40)
 (.reg [qm 41 7,
 qm 6 41])
 (.skip))))
 (.reg [qm 29 7,
 qr 30 (.bin .add (.t 29) (.k (.i .i64 1))),
 qm 7 30]))))))
 (.seq (.reg [qm 42 4,
 qm 43 3,
 qm 44 6,
 qr 45 (.idx 1 (.t 43) (.t 44)),
 qr 46 (.ld false 1 (.t 45)),
 qr 47 (.bsl 26 1 1 [(.l 1 [])] [(0, (.t 46))]),
 qr 48 (.app 26 1 24 (.t 42) (.t 47)),
 qm 4 48])
 (.dreg [qr 49 (.bsl 26 1 0 [] []),
 qm 50 3,
 qm 51 6,
 qr 52 (.sub 1 (.t 50) none (some (.t 51))),
 qr 53 (.app 26 1 24 (.t 49) (.t 52)),
 qm 54 3,
 qm 55 6,
 qr 56 (.bin .add (.t 55) (.k (.i .i64 1))),
 qr 57 (.sub 1 (.t 54) (some (.t 56)) none),
 qr 58 (.app 26 1 24 (.t 53) (.t 57)),
 qm 3 58]))))))))
 (.seq (.reg [qm 59 4,
 qm 2 59])
 (.ret)))))
theorem rsorted_spec (l : List (List Nat)) (m : Nat) (h : NOk l m) (hm : m ≤ 100000000) : AFun Try.prog J0 9 [.l 1 (RV l)] (.o 26 1 (NV (srt (vs l) 0 l.length))) := by
  have kl := RV_len l
  have hl := h.1
  have hs : ∀ x, x ∈ vs l → (dg B x).length ≤ 100000000000 := fun x hx => Nat.le_trans (dg_len B2 (vs_lt h x hx)) (by omega)
  have lv := vs_len l
  refine mkQ fol J0s Try.func9 a9 ?_
  unfold a9
  simp only [init_eq, initE, qm, qr, qn]
  refine spQ (ai @kl @bz_NS7) ?_
  refine vm_loopA [(3, 26, 1)] Nat (fun i => ⟨[(0, .l 1 (RV l)), (3, .ow 1 0 i), (4, .nl), (5, .i .i64 (i : Int))], [(0, some ⟨26, 1, NV ((vs l).take i), true, false⟩)], 1⟩)
    (fun i => i ≤ l.length) (fun i => l.length - i) 0 (Nat.zero_le _) (by exact leQ) (by
    exact ltQ) ?_
  intro i hi Q' hQ he hr
  by_cases h1 : (i : Int) < (l.length : Int)
  · obtain ⟨wa, la⟩ := h.get i (by omega)
    have g1 := RV_get l i (by omega)
    have c1 := rnorm_spec (l.getD i []) wa (by omega)
    rw [← vs_get l i (by omega)] at c1
    have wi1 := iadd1 (show i ≤ 1099511627776 by omega)
    have e := NV_app1 ((vs l).take i) ((vs l).getD i 0)
    rw [take_s (vs l) i (by rw [vs_len]; omega)] at e
    generalize NV ((vs l).take i) = x at *
    generalize dg B ((vs l).getD i 0) = y at *
    refine wkQ (ai @e (ai @wi1 (ai @g1 (ai @kl (ai @h1 @bz_NS7))))) ?_
    refine hQ _ (i + 1) (by omega) (by omega) ?_
    exact ltQ
  · obtain rfl : i = l.length := by omega
    have e : (vs l).take l.length = vs l := List.take_of_length_le (by rw [vs_len]; exact Nat.le_refl _)
    rw [e]
    refine spQ (ai @kl (ai @h1 @bz_NS7)) ?_
    refine he _ _ ?_
    refine spQ @bz_NS7 ?_
    refine vm_loopA [(4, 26, 1)] (List Nat × List Nat) (fun x => ⟨[(3, .ow 1 0 x.2.length), (4, .ow 1 1 x.1.length)], [(0, some ⟨26, 1, NV x.2, true, false⟩), (1, some ⟨26, 1, NV x.1, true, false⟩)], 2⟩)
      (fun x => Sel (vs l) x.1 x.2) (fun x => x.2.length) ([], vs l) ⟨List.Perm.refl _, fun p q _ _ hq => by simp at hq, fun x y hx _ => by cases hx⟩ (by exact leQ) (by
      simp (disch := (first | omega | assumption)) only [Sl, Sa, Sw, ↓reduceIte, Nat.reduceEqDiff, Nat.reduceLT, List.all_nil, List.all_cons, Nat.reduceBneDiff, Nat.reduceAdd, bne_iff_ne, ne_eq, reduceCtorEq, not_false_eq_true, not_true_eq_false, Bool.and_true, Bool.true_and, and_true, true_and, and_self, i_eq, lv]
      repeat' first | rfl | omega | (simp only [List.length_append, List.length_cons, List.length_nil]; done) | apply And.intro) ?_
    rintro ⟨O, L⟩ hS Q2 hQ2 he2 hr2
    simp only [] at hS ⊢
    have hlen := hS.len
    have sL : ∀ x, x ∈ L → (dg B x).length ≤ 100000000000 := fun x hx => hs x (hS.1.mem_iff.1 (List.mem_append_right _ hx))
    by_cases h2 : 0 < (L.length : Int)
    · have kL := NV_len L
      refine spQ (ai @h2 @bz_NS7) ?_
      refine vm_loopA [] (Nat × Nat) (fun x => ⟨[(3, .ow 1 0 L.length), (4, .ow 1 1 O.length), (6, .i .i64 (x.1 : Int)), (7, .i .i64 (x.2 : Int))], [(0, some ⟨26, 1, NV L, true, false⟩), (1, some ⟨26, 1, NV O, true, false⟩)], 2⟩)
        (fun x => x.1 < L.length ∧ x.2 ≤ L.length ∧ 1 ≤ x.2 ∧ ∀ y, y < x.2 → L.getD x.1 0 ≤ L.getD y 0) (fun x => L.length - x.2) (0, 1) ⟨by simp only; omega, by simp only; omega, Nat.le_refl _, fun y hy => by rw [show y = 0 from by simp only at hy; omega]; exact Nat.le_refl _⟩ (by exact leQ) (by
        exact ltQ) ?_
      rintro ⟨k, j⟩ ⟨hk, hj, hj1, hmin⟩ Q3 hQ3 he3 hr3
      simp only [] at hk hj hj1 hmin ⊢
      by_cases h3 : (j : Int) < (L.length : Int)
      · have c1 := rvcmp_spec sL j k (by omega) hk
        have g1 := NV_get L j (by omega)
        have g2 := NV_get L k hk
        have wj := iadd1 (show j ≤ 1099511627776 by omega)
        by_cases hc : L.getD j 0 < L.getD k 0
        · have n1 := sg_n hc
          generalize sg (L.getD j 0) (L.getD k 0) = cc at *
          refine wkQ (ai @wj (ai @n1 (ai @g2 (ai @g1 (ai @kL (ai @h3 @bz_NS7)))))) ?_
          refine hQ3 _ (j, j + 1) ⟨by simp only; omega, by simp only; omega, by simp only; omega, fun y hy => ?_⟩ (by simp only; omega) ?_
          · simp only at hy ⊢
            rcases Nat.lt_or_ge y j with h4 | h4
            · exact Nat.le_trans (Nat.le_of_lt hc) (hmin y h4)
            · rw [show y = j from by omega]; exact Nat.le_refl _
          · simp (disch := (first | omega | assumption)) only [Sl, Sa, Sw, ↓reduceIte, Nat.reduceEqDiff, Nat.reduceLT, List.all_nil, List.all_cons, Nat.reduceBneDiff, Nat.reduceAdd, bne_iff_ne, ne_eq, reduceCtorEq, not_false_eq_true, not_true_eq_false, Bool.and_true, Bool.true_and, and_true, true_and, and_self, i_eq]
            repeat' first | rfl | omega | (simp only [List.length_append, List.length_cons, List.length_nil]; done) | apply And.intro
        · have n1 := sg_p hc
          generalize sg (L.getD j 0) (L.getD k 0) = cc at *
          refine wkQ (ai @wj (ai @n1 (ai @g2 (ai @g1 (ai @kL (ai @h3 @bz_NS7)))))) ?_
          refine hQ3 _ (k, j + 1) ⟨hk, by simp only; omega, by simp only; omega, fun y hy => ?_⟩ (by simp only; omega) ?_
          · simp only at hy ⊢
            rcases Nat.lt_or_ge y j with h4 | h4
            · exact hmin y h4
            · rw [show y = j from by omega]; omega
          · simp (disch := (first | omega | assumption)) only [Sl, Sa, Sw, ↓reduceIte, Nat.reduceEqDiff, Nat.reduceLT, List.all_nil, List.all_cons, Nat.reduceBneDiff, Nat.reduceAdd, bne_iff_ne, ne_eq, reduceCtorEq, not_false_eq_true, not_true_eq_false, Bool.and_true, Bool.true_and, and_true, true_and, and_self, i_eq]
            repeat' first | rfl | omega | (simp only [List.length_append, List.length_cons, List.length_nil]; done) | apply And.intro
      · obtain rfl : j = L.length := by omega
        have hst := hS.step hk hmin
        have g2 := NV_get L k hk
        have wk := iadd1 (show k ≤ 1099511627776 by omega)
        have e1 := NV_app1 O (L.getD k 0)
        have e2 : (NV L).take k = NV (L.take k) := NV_take L k
        have e3 : ((NV L).drop (k + 1)).take (L.length - (k + 1)) = NV (L.drop (k + 1)) := by rw [NV_drop, NV_take, List.take_of_length_le (by rw [List.length_drop]; omega)]
        have e4 := NV_app (L.take k) (L.drop (k + 1))
        have k4 := NV_len (L.take k ++ L.drop (k + 1))
        have k5 : k + (L.length - (k + 1)) = (L.take k ++ L.drop (k + 1)).length := by rw [List.length_append, List.length_take, List.length_drop]; omega
        have k6 : (NV (L.take k)).length = k := by rw [NV_len, List.length_take]; omega
        have k7 : (NV (L.drop (k + 1))).length = L.length - (k + 1) := by rw [NV_len, List.length_drop]
        have n1 := NV_cell (L.take k)
        have n2 := NV_cell (L.drop (k + 1))
        refine spQ (ai @kL (ai @h3 @bz_NS7)) ?_
        refine he3 _ _ ?_
        repeat first
          | (refine hK _ ?_; clear hK K)
          | ((first | refine vm_reg (fun K hK => ?_) | refine vm_dreg (fun K hK => ?_) | refine vm_dregx (fun K hK => ?_)); simp (disch := (first | omega | assumption)) only [S1, ↓reduceIte, Nat.reduceEqDiff, Nat.reduceAdd, Nat.reduceMul, Nat.reduceDiv, AOp.sb, AOp.mut, frzf, ↓Bool.false_eq_true, beq_self_eq_true, ite_self, Nat.reduceLeDiff, Int.reduceEq, Int.reduceSub, Int.reduceAdd, Int.reduceNeg, Int.reduceLT, Int.reduceLE, Nat.reduceLT, bz_NS7, kL, g2, wk, e1, e2, e3, e4, k6, k7, n1, n2, List.drop_zero, List.nil_append, Nat.zero_add]; refine hK _ ?_; clear hK K)
          | simp only [Sv, ↓reduceIte, Nat.reduceEqDiff]
        refine hQ2 _ (O ++ [L.getD k 0], L.take k ++ L.drop (k + 1)) hst (by simp only; rw [← k5]; omega) ?_
        simp (disch := (first | omega | assumption)) only [Sl, Sa, Sw, ↓reduceIte, Nat.reduceEqDiff, Nat.reduceLT, List.all_nil, List.all_cons, Nat.reduceBneDiff, Nat.reduceAdd, bne_iff_ne, ne_eq, reduceCtorEq, not_false_eq_true, not_true_eq_false, Bool.and_true, Bool.true_and, and_true, true_and, and_self, i_eq]
        exact ⟨k5, by rw [List.length_append]; rfl⟩
    · have : L = [] := List.eq_nil_of_length_eq_zero (by omega)
      subst this
      have e2 := hS.done
      rw [lv] at e2
      subst e2
      refine spQ (ai @h2 @bz_NS7) ?_
      refine he2 _ _ ?_
      refine spQ @bz_NS7 ?_
      exact rtQ @bz_NS7
end Go.Proofs.Ytkmjbgpkndpkdaa
