/-
  slices: two rising runs made one.
-/
import Derived.Test.YtdafakcccjjpiaaNS3
namespace Go.Proofs.Ytdafakcccjjpiaa
open Go Go.RowKit Ab
set_option linter.unusedSimpArgs false
set_option linter.unusedVariables false
set_option maxHeartbeats 10000000
theorem bz_NS4 : type_of% (And.intro @W_len (And.intro @Nat.div_one (And.intro @Nat.mul_one (And.intro @tn_nat (And.intro @W_nf (@W_nil)))))) := And.intro @W_len (And.intro @Nat.div_one (And.intro @Nat.mul_one (And.intro @tn_nat (And.intro @W_nf (@W_nil)))))
theorem symM2_spec (L : List Nat) (a m b : Nat) (hs : SmL L) (h1 : a < m) (h0 : m - a ≠ 1) (h2 : b = m + 1) (h3 : b ≤ L.length) (hl : L.length ≤ 1099511627776) (sa : SoB L a m) : AFun Try.prog J0 55 [.o 23 1 (NV L), .i .i64 (a : Int), .i .i64 (m : Int), .i .i64 (b : Int), .c (.func (.func 26) #[] #[])] (.mu (.t []) (NV (srt L a b))) := by
  have kL : (NV L).length = L.length := NV_len L
  have w0 : ¬ ((m - a : Nat) : Int) = 1 := by omega
  have w1 := isub (Nat.le_of_lt h1) (show m ≤ 1099511627776 by omega)
  have w2 : IntKind.i64.wrap ((b : Int) - (m : Int)) = 1 := by rw [wi (by omega)]; omega
  refine AFun.mkm (m := 0) fol J0s Try.func55 rfl (ac := a55) (by kernel_rfl) rfl rfl rfl rfl (by kernel_rfl) ?_
  apply vm_start
  unfold a55
  simp only [initL_eq, initE, lent, qm, qr, qn]
  rw [show (NV L).length / 1 = L.length from by rw [NV_len, Nat.div_one]]
  refine spQ (ai @w2 (ai @w0 (ai @w1 @bz_NS4))) ?_
  refine vm_loopA [] (Nat × Nat) (fun x => ⟨[(0, .ow 1 0 L.length), (1, .i .i64 (a : Int)), (2, .i .i64 (m : Int)), (3, .i .i64 (b : Int)), (4, .c (.func (.func 26) #[] #[])), (14, .i .i64 (x.1 : Int)), (15, .i .i64 (x.2 : Int))], [(0, some ⟨23, 1, NV L, true, false⟩)], 1⟩)
    (fun x => a ≤ x.1 ∧ x.1 ≤ x.2 ∧ x.2 ≤ m ∧ (∀ y, a ≤ y → y < x.1 → L.getD y 0 ≤ L.getD m 0) ∧ ∀ y, x.2 ≤ y → y < m → L.getD m 0 < L.getD y 0)
    (fun x => x.2 - x.1) (a, m) ⟨Nat.le_refl _, by simp only; omega, Nat.le_refl _, fun y _ _ => by simp only at *; omega, fun y _ _ => by simp only at *; omega⟩ (by exact leQ) (by
    exact ltQ) ?_
  rintro ⟨i, j⟩ ⟨hi, hij, hj, hlo, hhi⟩ Q' hQ he hr
  simp only [] at hi hij hj hlo hhi ⊢
  by_cases h : (i : Int) < (j : Int)
  · have wa := iadd (show i ≤ 1099511627776 by omega) (show j ≤ 1099511627776 by omega)
    have wh := half_w (show i ≤ 1099511627776 by omega) (show j ≤ 1099511627776 by omega)
    obtain ⟨c, hc⟩ : ∃ c, c = (i + j) / 2 := ⟨_, rfl⟩
    rw [← hc] at wh
    have c1 := vcmp_spec hs (AlO.rfl (a := 0) (b := 0)) m c (by omega) (by omega)
    have g1 := NV_get L c (by omega)
    have g2 := NV_get L m (by omega)
    have wc := iadd1 (show c ≤ 1099511627776 by omega)
    by_cases hcc : L.getD m 0 < L.getD c 0
    · have n1 := sg_n hcc
      generalize sg (L.getD m 0) (L.getD c 0) = cc at *
      refine wkQ (ai @wc (ai @n1 (ai @g2 (ai @g1 (ai @kL (ai @wh (ai @wa (ai @h @bz_NS4)))))))) ?_
      refine hQ _ (i, c) ⟨hi, by simp only; omega, by simp only; omega, hlo, fun y hy hy2 => ?_⟩ (by simp only; omega) ?_
      · simp only at hy
        exact Nat.lt_of_lt_of_le hcc (sa.le (by omega) hy (by omega))
      · simp (disch := (first | omega | assumption)) only [Sl, Sa, Sw, ↓reduceIte, Nat.reduceEqDiff, Nat.reduceLT, List.all_nil, List.all_cons, Nat.reduceBneDiff, Nat.reduceAdd, bne_iff_ne, ne_eq, reduceCtorEq, not_false_eq_true, not_true_eq_false, Bool.and_true, Bool.true_and, and_true, true_and, and_self, i_eq]
        repeat' first | rfl | omega | (simp only [List.length_append, List.length_cons, List.length_nil]; done) | apply And.intro
    · have n1 := sg_p hcc
      generalize sg (L.getD m 0) (L.getD c 0) = cc at *
      refine wkQ (ai @wc (ai @n1 (ai @g2 (ai @g1 (ai @kL (ai @wh (ai @wa (ai @h @bz_NS4)))))))) ?_
      refine hQ _ (c + 1, j) ⟨by simp only; omega, by simp only; omega, hj, fun y hy hy2 => ?_, hhi⟩ (by simp only; omega) ?_
      · simp only at hy2
        exact Nat.le_trans (sa.le (by omega) (by omega) (by omega)) (Nat.le_of_not_lt hcc)
      · simp (disch := (first | omega | assumption)) only [Sl, Sa, Sw, ↓reduceIte, Nat.reduceEqDiff, Nat.reduceLT, List.all_nil, List.all_cons, Nat.reduceBneDiff, Nat.reduceAdd, bne_iff_ne, ne_eq, reduceCtorEq, not_false_eq_true, not_true_eq_false, Bool.and_true, Bool.true_and, and_true, true_and, and_self, i_eq]
        repeat' first | rfl | omega | (simp only [List.length_append, List.length_cons, List.length_nil]; done) | apply And.intro
  · obtain rfl : i = j := by omega
    refine spQ (ai @h @bz_NS4) ?_
    refine he _ _ ?_
    refine spQ @bz_NS4 ?_
    refine vm_loopA [] (Nat × List Nat) (fun x => ⟨[(0, .ow 1 0 L.length), (14, .i .i64 (i : Int)), (17, .i .i64 (x.1 : Int))], [(0, some ⟨23, 1, NV x.2, true, false⟩)], 1⟩)
      (fun x => i ≤ x.1 ∧ x.1 ≤ m ∧ AlO L x.2 a b ∧ ins2 L m x.1 x.2)
      (fun x => x.1) (m, L) ⟨by simp only; omega, Nat.le_refl _, AlO.rfl, ins2_0 L m⟩ (by exact leQ) (by
      exact ltQ) ?_
    rintro ⟨k, M⟩ ⟨hk, hk2, hM, hI⟩ Q2 hQ2 he2 hr2
    simp only [] at hk hk2 hM hI ⊢
    have kM : (NV M).length = L.length := by rw [NV_len, hM.1]
    by_cases h4 : i < k
    · have h5 : (i : Int) < (k : Int) := by omega
      have wk := isub1 (show 1 ≤ k by omega) (show k ≤ 1099511627776 by omega)
      have g1 := NV_get M k (by have := hM.1; omega)
      have g2 := NV_get M (k - 1) (by have := hM.1; omega)
      have e : NV (swp M k (k - 1)) = NV ((M.set k (M.getD (k - 1) 0)).set (k - 1) (M.getD k 0)) := rfl
      have s1 := NV_set M k (M.getD (k - 1) 0)
      have s2 := NV_set (M.set k (M.getD (k - 1) 0)) (k - 1) (M.getD k 0)
      have k2 := NV_len (M.set k (M.getD (k - 1) 0))
      rw [List.length_set, hM.1] at k2
      have hsw := hM.trans (swp_AlO (L := M) (i := k) (j := k - 1) (a := a) (b := b) (by have := hM.1; omega) (by have := hM.1; omega) (by omega) (by omega) (by omega) (by omega)) (Nat.le_refl _) (Nat.le_refl _)
      have hst := ins2_s hI (by have := hM.1; omega) hk2 (by omega)
      refine spQ (ai @k2 (ai @s2 (ai @s1 (ai @g2 (ai @g1 (ai @kM (ai @wk (ai @h5 @bz_NS4)))))))) ?_
      refine hQ2 _ (k - 1, swp M k (k - 1)) ⟨by simp only; omega, by simp only; omega, hsw, hst⟩ (by simp only; omega) ?_
      simp (disch := (first | omega | assumption)) only [Sl, Sa, Sw, ↓reduceIte, Nat.reduceEqDiff, Nat.reduceLT, List.all_nil, List.all_cons, Nat.reduceBneDiff, Nat.reduceAdd, bne_iff_ne, ne_eq, reduceCtorEq, not_false_eq_true, not_true_eq_false, Bool.and_true, Bool.true_and, and_true, true_and, and_self, i_eq, e]
      repeat' first | rfl | omega | (simp only [List.length_append, List.length_cons, List.length_nil]; done) | apply And.intro
    · have h5 : ¬ (i : Int) < (k : Int) := by omega
      obtain rfl : k = i := by omega
      have e : M = srt L a b := srt_of hM (by rw [h2]; exact ins2_end hI sa (by omega) (by omega) hlo hhi) (by omega) h3
      subst e
      refine spQ (ai @h5 @bz_NS4) ?_
      refine he2 _ _ ?_
      refine spQ @bz_NS4 ?_
      exact ⟨0, rfl, rfl⟩
theorem isubB {a b : Nat} (h : a ≤ b) (hb : b ≤ 4611686018427387904) : IntKind.i64.wrap ((b : Int) - (a : Int)) = ((b - a : Nat) : Int) := by rw [wi (by omega)]; omega
theorem sym_tail {L : List Nat} {a m b d s e : Nat} (hs : SmL L) (hl : L.length ≤ 1099511627776) (h3 : b ≤ L.length) (v1 : a ≤ s) (v2 : s ≤ m) (v3 : s ≤ d) (v4 : m ≤ e) (v5 : e ≤ b) (v6 : d ≤ e) (v7 : AlO L (rot L s m e) a b) (v8 : SoB (rot L s m e) a s) (v9 : SoB (rot L s m e) s d) (v10 : SoB (rot L s m e) d e) (v11 : SoB (rot L s m e) e b)
    (v12 : ∀ p q, a ≤ p → p < d → d ≤ q → q < b → (rot L s m e).getD p 0 ≤ (rot L s m e).getD q 0) (hdb : a < d ∧ d < b)
    (ih : ∀ (M : List Nat) (x y z : Nat), SmL M → x < y → y < z → z - x < b - a → z ≤ M.length → M.length ≤ 1099511627776 → SoB M x y → SoB M y z → AFun Try.prog J0 55 [.o 23 1 (NV M), .i .i64 (x : Int), .i .i64 (y : Int), .i .i64 (z : Int), .c (.func (.func 26) #[] #[])] (.mu (.t []) (NV (srt M x z)))) :
    ∃ R M1 M2 : List Nat, (NV R).length = L.length ∧ (NV M1).length = L.length ∧ (NV M2).length = L.length ∧
      (((s : Int) < (m : Int) ∧ (m : Int) < (e : Int) ∧ AFun Try.prog J0 56 [.o 23 1 (NV L), .i .i64 (s : Int), .i .i64 (m : Int), .i .i64 (e : Int), .c (.func (.func 26) #[] #[])] (.mu (.t []) (NV R))) ∨ (¬ (s : Int) < (m : Int) ∧ True ∧ R = L) ∨ ((s : Int) < (m : Int) ∧ ¬ (m : Int) < (e : Int) ∧ R = L)) ∧
      (((a : Int) < (s : Int) ∧ (s : Int) < (d : Int) ∧ AFun Try.prog J0 55 [.o 23 1 (NV R), .i .i64 (a : Int), .i .i64 (s : Int), .i .i64 (d : Int), .c (.func (.func 26) #[] #[])] (.mu (.t []) (NV M1))) ∨ (¬ (a : Int) < (s : Int) ∧ True ∧ M1 = R) ∨ ((a : Int) < (s : Int) ∧ ¬ (s : Int) < (d : Int) ∧ M1 = R)) ∧
      (((d : Int) < (e : Int) ∧ (e : Int) < (b : Int) ∧ AFun Try.prog J0 55 [.o 23 1 (NV M1), .i .i64 (d : Int), .i .i64 (e : Int), .i .i64 (b : Int), .c (.func (.func 26) #[] #[])] (.mu (.t []) (NV M2))) ∨ (¬ (d : Int) < (e : Int) ∧ True ∧ M2 = M1) ∨ ((d : Int) < (e : Int) ∧ ¬ (e : Int) < (b : Int) ∧ M2 = M1)) ∧
      M2 = srt L a b := by
  have sR : SmL (rot L s m e) := fun x hx => hs x (v7.2.1.mem_iff.1 hx)
  have lR := v7.1
  obtain ⟨p1, p2⟩ := srt_spec (rot L s m e) (show a ≤ d by omega) (by omega)
  have s1 : SmL (srt (rot L s m e) a d) := fun x hx => sR x (p1.2.1.mem_iff.1 hx)
  obtain ⟨p3, p4⟩ := srt_spec (srt (rot L s m e) a d) (show d ≤ b by omega) (by have := p1.1; omega)
  have g1 : SoB (srt (rot L s m e) a d) d e := SoB.out p1 v10 (.inr (Nat.le_refl _))
  have g2 : SoB (srt (rot L s m e) a d) e b := SoB.out p1 v11 (.inr (by omega))
  have hfin : srt (srt (rot L s m e) a d) d b = srt L a b := srt_of ((v7.trans p1 (Nat.le_refl _) (by omega)).trans p3 (by omega) (Nat.le_refl _)) (mrg_end (by omega) (by omega) (by omega) v12 p1 p2 p3 p4) (by omega) h3
  refine ⟨_, _, _, by rw [NV_len, lR], by rw [NV_len, p1.1, lR], by rw [NV_len, p3.1, p1.1, lR], ?_, ?_, ?_, hfin⟩
  · by_cases q1 : s < m
    · by_cases q2 : m < e
      · exact .inl ⟨by omega, by omega, rotate_spec L s m e q1 q2 (by omega) hl⟩
      · exact .inr (.inr ⟨by omega, by omega, rot_none (.inr (by omega)) v2 v4⟩)
    · exact .inr (.inl ⟨by omega, trivial, rot_none (.inl (by omega)) v2 v4⟩)
  · by_cases q1 : a < s
    · by_cases q2 : s < d
      · exact .inl ⟨by omega, by omega, ih _ a s d sR q1 q2 (by omega) (by omega) (by omega) v8 v9⟩
      · have : s = d := by omega
        subst this
        exact .inr (.inr ⟨by omega, by omega, (srt_of AlO.rfl v8 (by omega) (by omega)).symm⟩)
    · have : a = s := by omega
      subst this
      exact .inr (.inl ⟨by omega, trivial, (srt_of AlO.rfl v9 (by omega) (by omega)).symm⟩)
  · by_cases q1 : d < e
    · by_cases q2 : e < b
      · exact .inl ⟨by omega, by omega, ih _ d e b s1 q1 q2 (by omega) (by have := p1.1; omega) (by have := p1.1; omega) g1 g2⟩
      · have : e = b := by omega
        subst this
        exact .inr (.inr ⟨by omega, by omega, (srt_of AlO.rfl g1 (by omega) (by have := p1.1; omega)).symm⟩)
    · have : d = e := by omega
      subst this
      exact .inr (.inl ⟨by omega, trivial, (srt_of AlO.rfl g2 (by omega) (by have := p1.1; omega)).symm⟩)
theorem symM3_spec (L : List Nat) (a m b : Nat) (hs : SmL L) (h1 : a < m) (h2 : m < b) (h4 : m - a ≠ 1) (h5 : b - m ≠ 1) (h3 : b ≤ L.length) (hl : L.length ≤ 1099511627776) (sa : SoB L a m) (sb : SoB L m b)
    (ih : ∀ (M : List Nat) (x y z : Nat), SmL M → x < y → y < z → z - x < b - a → z ≤ M.length → M.length ≤ 1099511627776 → SoB M x y → SoB M y z → AFun Try.prog J0 55 [.o 23 1 (NV M), .i .i64 (x : Int), .i .i64 (y : Int), .i .i64 (z : Int), .c (.func (.func 26) #[] #[])] (.mu (.t []) (NV (srt M x z)))) :
    AFun Try.prog J0 55 [.o 23 1 (NV L), .i .i64 (a : Int), .i .i64 (m : Int), .i .i64 (b : Int), .c (.func (.func 26) #[] #[])] (.mu (.t []) (NV (srt L a b))) := by
  have kL : (NV L).length = L.length := NV_len L
  have w0 : ¬ ((m - a : Nat) : Int) = 1 := by omega
  have w1 := isub (Nat.le_of_lt h1) (show m ≤ 1099511627776 by omega)
  have w2 : ¬ ((b - m : Nat) : Int) = 1 := by omega
  have w3 := isub (Nat.le_of_lt h2) (show b ≤ 1099511627776 by omega)
  have w4 := iadd (show a ≤ 1099511627776 by omega) (show b ≤ 1099511627776 by omega)
  have w5 := half_w (show a ≤ 1099511627776 by omega) (show b ≤ 1099511627776 by omega)
  obtain ⟨l1, l2, l3, l4, l5⟩ := lohi h1 h2
  have st := Sea.start (L := L) h1 h2
  have elo : lo0 a m b = if (a + b) / 2 < m then (a + b) / 2 + m - b else a := rfl
  have ehi : hi0 a m b = if (a + b) / 2 < m then (a + b) / 2 else m := rfl
  obtain ⟨d, hd⟩ : ∃ d, d = (a + b) / 2 := ⟨_, rfl⟩
  rw [← hd] at elo ehi l4 l5 w5
  have w6 := iadd (show d ≤ 1099511627776 by omega) (show m ≤ 1099511627776 by omega)
  have w7 : IntKind.i64.wrap (((d + m : Nat) : Int) - 1) = ((d + m - 1 : Nat) : Int) := isubB (show 1 ≤ d + m by omega) (by clear w4 w5 w6 elo ehi; omega)
  refine AFun.mkm (m := 0) fol J0s Try.func55 rfl (ac := a55) (by kernel_rfl) rfl rfl rfl rfl (by kernel_rfl) ?_
  apply vm_start
  unfold a55
  simp only [initL_eq, initE, lent, qm, qr, qn]
  rw [show (NV L).length / 1 = L.length from by rw [NV_len, Nat.div_one]]
  by_cases c0 : d < m
  · have w8 : (d : Int) < (m : Int) := by omega
    have w9 := isubB (show b ≤ d + m by omega) (by omega)
    rw [if_pos c0] at elo ehi
    refine spQ (ai @w9 (ai @w8 (ai @w7 (ai @w6 (ai @w5 (ai @w4 (ai @w3 (ai @w2 (ai @w0 (ai @w1 @bz_NS4)))))))))) ?_
    refine vm_loopA [] (Nat × Nat) (fun x => ⟨[(0, .ow 1 0 L.length), (1, .i .i64 (a : Int)), (2, .i .i64 (m : Int)), (3, .i .i64 (b : Int)), (4, .c (.func (.func 26) #[] #[])), (18, .i .i64 (d : Int)), (19, .i .i64 ((d + m : Nat) : Int)), (20, .i .i64 (x.1 : Int)), (21, .i .i64 (x.2 : Int)), (22, .i .i64 ((d + m - 1 : Nat) : Int))], [(0, some ⟨23, 1, NV L, true, false⟩)], 1⟩)
      (fun x => Sea L a m b x.1 x.2) (fun x => x.2 - x.1) (lo0 a m b, hi0 a m b) st (by exact leQ) (by
      simp (disch := (first | omega | assumption)) only [Sl, Sa, Sw, ↓reduceIte, Nat.reduceEqDiff, Nat.reduceLT, List.all_nil, List.all_cons, Nat.reduceBneDiff, Nat.reduceAdd, bne_iff_ne, ne_eq, reduceCtorEq, not_false_eq_true, not_true_eq_false, Bool.and_true, Bool.true_and, and_true, true_and, and_self, i_eq, elo, ehi]
      repeat' first | rfl | omega | (simp only [List.length_append, List.length_cons, List.length_nil]; done) | apply And.intro) ?_
    rintro ⟨s, r⟩ hsea Q' hQ he hr
    simp only [] at hsea ⊢
    obtain ⟨k1, k2, k3, _, _⟩ := id hsea
    by_cases h : (s : Int) < (r : Int)
    · have wa := iadd (show s ≤ 1099511627776 by omega) (show r ≤ 1099511627776 by omega)
      have wh := half_w (show s ≤ 1099511627776 by omega) (show r ≤ 1099511627776 by omega)
      have up := hsea.up h1 h2 sa sb (by omega)
      have dn := hsea.dn h1 h2 sa sb (by omega)
      obtain ⟨c, hc⟩ : ∃ c, c = (s + r) / 2 := ⟨_, rfl⟩
      rw [← hc] at wh up dn
      rw [← hd] at up dn
      obtain ⟨b1, b2, b3⟩ := l5 c (by omega) (by omega)
      have wp := isubB (show c ≤ d + m - 1 by omega) (by omega)
      have c1 := vcmp_spec hs (AlO.rfl (a := 0) (b := 0)) (d + m - 1 - c) c (by omega) (by omega)
      have g1 := NV_get L (d + m - 1 - c) (by omega)
      have g2 := NV_get L c (by omega)
      have wc := iadd1 (show c ≤ 1099511627776 by omega)
      by_cases hcc : L.getD (d + m - 1 - c) 0 < L.getD c 0
      · have n1 := sg_n hcc
        have dn := dn hcc
        generalize sg (L.getD (d + m - 1 - c) 0) (L.getD c 0) = cc at *
        refine wkQ (ai @wc (ai @n1 (ai @g2 (ai @g1 (ai @kL (ai @wp (ai @wh (ai @wa (ai @h @bz_NS4))))))))) ?_
        refine hQ _ (s, c) dn (by simp only; omega) ?_
        exact ltQ
      · have n1 := sg_p hcc
        have up := up (by omega)
        generalize sg (L.getD (d + m - 1 - c) 0) (L.getD c 0) = cc at *
        refine wkQ (ai @wc (ai @n1 (ai @g2 (ai @g1 (ai @kL (ai @wp (ai @wh (ai @wa (ai @h @bz_NS4))))))))) ?_
        refine hQ _ (c + 1, r) up (by simp only; omega) ?_
        exact ltQ
    · obtain rfl : s = r := by omega
      obtain ⟨v1, v2, v3, v4, v5, v6, v7, v8, v9, v10, v11, v12⟩ := hsea.halves h1 h2 sa sb h3
      rw [← hd] at v3 v4 v5 v6 v7 v8 v9 v10 v11 v12
      have we := isubB (show s ≤ d + m by omega) (by omega)
      obtain ⟨e, hee⟩ : ∃ e, e = d + m - s := ⟨_, rfl⟩
      rw [← hee] at v4 v5 v6 v7 v8 v9 v10 v11 v12 we
      have tl := sym_tail hs hl h3 v1 v2 v3 v4 v5 v6 v7 v8 v9 v10 v11 v12 (by omega) ih
      obtain ⟨R, M1, M2, kR, kM1, kM2, t1, t2, t3, hfin⟩ := tl
      clear v7 v8 v9 v10 v11 v12 ih st hsea hQ hr sa sb hs l5
      refine spQ (ai @we (ai @h @bz_NS4)) ?_
      refine he _ _ ?_
      rcases t1 with ⟨a1, a2, a3⟩ | ⟨a1, a2, a3⟩ | ⟨a1, a2, a3⟩ <;> (try subst a3) <;> rcases t2 with ⟨b1, b2, b3⟩ | ⟨b1, b2, b3⟩ | ⟨b1, b2, b3⟩ <;> (try subst b3) <;> rcases t3 with ⟨c1, c2, c3⟩ | ⟨c1, c2, c3⟩ | ⟨c1, c2, c3⟩ <;> (try subst c3)
      all_goals
        refine wkQ (ai @kL (ai @kM2 (ai @kM1 (ai @kR (ai @c2 (ai @c1 (ai @b2 (ai @b1 (ai @a2 (ai @a1 (ai @we @bz_NS4))))))))))) ?_
        exact ⟨0, rfl, by rw [← hfin]; rfl⟩
  · have w8 : ¬ (d : Int) < (m : Int) := by omega
    rw [if_neg c0] at elo ehi
    refine spQ (ai @w8 (ai @w7 (ai @w6 (ai @w5 (ai @w4 (ai @w3 (ai @w2 (ai @w0 (ai @w1 @bz_NS4))))))))) ?_
    refine vm_loopA [] (Nat × Nat) (fun x => ⟨[(0, .ow 1 0 L.length), (1, .i .i64 (a : Int)), (2, .i .i64 (m : Int)), (3, .i .i64 (b : Int)), (4, .c (.func (.func 26) #[] #[])), (18, .i .i64 (d : Int)), (19, .i .i64 ((d + m : Nat) : Int)), (20, .i .i64 (x.1 : Int)), (21, .i .i64 (x.2 : Int)), (22, .i .i64 ((d + m - 1 : Nat) : Int))], [(0, some ⟨23, 1, NV L, true, false⟩)], 1⟩)
      (fun x => Sea L a m b x.1 x.2) (fun x => x.2 - x.1) (lo0 a m b, hi0 a m b) st (by exact leQ) (by
      simp (disch := (first | omega | assumption)) only [Sl, Sa, Sw, ↓reduceIte, Nat.reduceEqDiff, Nat.reduceLT, List.all_nil, List.all_cons, Nat.reduceBneDiff, Nat.reduceAdd, bne_iff_ne, ne_eq, reduceCtorEq, not_false_eq_true, not_true_eq_false, Bool.and_true, Bool.true_and, and_true, true_and, and_self, i_eq, elo, ehi]
      repeat' first | rfl | omega | (simp only [List.length_append, List.length_cons, List.length_nil]; done) | apply And.intro) ?_
    rintro ⟨s, r⟩ hsea Q' hQ he hr
    simp only [] at hsea ⊢
    obtain ⟨k1, k2, k3, _, _⟩ := id hsea
    by_cases h : (s : Int) < (r : Int)
    · have wa := iadd (show s ≤ 1099511627776 by omega) (show r ≤ 1099511627776 by omega)
      have wh := half_w (show s ≤ 1099511627776 by omega) (show r ≤ 1099511627776 by omega)
      have up := hsea.up h1 h2 sa sb (by omega)
      have dn := hsea.dn h1 h2 sa sb (by omega)
      obtain ⟨c, hc⟩ : ∃ c, c = (s + r) / 2 := ⟨_, rfl⟩
      rw [← hc] at wh up dn
      rw [← hd] at up dn
      obtain ⟨b1, b2, b3⟩ := l5 c (by omega) (by omega)
      have wp := isubB (show c ≤ d + m - 1 by omega) (by omega)
      have c1 := vcmp_spec hs (AlO.rfl (a := 0) (b := 0)) (d + m - 1 - c) c (by omega) (by omega)
      have g1 := NV_get L (d + m - 1 - c) (by omega)
      have g2 := NV_get L c (by omega)
      have wc := iadd1 (show c ≤ 1099511627776 by omega)
      by_cases hcc : L.getD (d + m - 1 - c) 0 < L.getD c 0
      · have n1 := sg_n hcc
        have dn := dn hcc
        generalize sg (L.getD (d + m - 1 - c) 0) (L.getD c 0) = cc at *
        refine wkQ (ai @wc (ai @n1 (ai @g2 (ai @g1 (ai @kL (ai @wp (ai @wh (ai @wa (ai @h @bz_NS4))))))))) ?_
        refine hQ _ (s, c) dn (by simp only; omega) ?_
        exact ltQ
      · have n1 := sg_p hcc
        have up := up (by omega)
        generalize sg (L.getD (d + m - 1 - c) 0) (L.getD c 0) = cc at *
        refine wkQ (ai @wc (ai @n1 (ai @g2 (ai @g1 (ai @kL (ai @wp (ai @wh (ai @wa (ai @h @bz_NS4))))))))) ?_
        refine hQ _ (c + 1, r) up (by simp only; omega) ?_
        exact ltQ
    · obtain rfl : s = r := by omega
      obtain ⟨v1, v2, v3, v4, v5, v6, v7, v8, v9, v10, v11, v12⟩ := hsea.halves h1 h2 sa sb h3
      rw [← hd] at v3 v4 v5 v6 v7 v8 v9 v10 v11 v12
      have we := isubB (show s ≤ d + m by omega) (by omega)
      obtain ⟨e, hee⟩ : ∃ e, e = d + m - s := ⟨_, rfl⟩
      rw [← hee] at v4 v5 v6 v7 v8 v9 v10 v11 v12 we
      have tl := sym_tail hs hl h3 v1 v2 v3 v4 v5 v6 v7 v8 v9 v10 v11 v12 (by omega) ih
      obtain ⟨R, M1, M2, kR, kM1, kM2, t1, t2, t3, hfin⟩ := tl
      clear v7 v8 v9 v10 v11 v12 ih st hsea hQ hr sa sb hs l5
      refine spQ (ai @we (ai @h @bz_NS4)) ?_
      refine he _ _ ?_
      rcases t1 with ⟨a1, a2, a3⟩ | ⟨a1, a2, a3⟩ | ⟨a1, a2, a3⟩ <;> (try subst a3) <;> rcases t2 with ⟨b1, b2, b3⟩ | ⟨b1, b2, b3⟩ | ⟨b1, b2, b3⟩ <;> (try subst b3) <;> rcases t3 with ⟨c1, c2, c3⟩ | ⟨c1, c2, c3⟩ | ⟨c1, c2, c3⟩ <;> (try subst c3)
      all_goals
        refine wkQ (ai @kL (ai @kM2 (ai @kM1 (ai @kR (ai @c2 (ai @c1 (ai @b2 (ai @b1 (ai @a2 (ai @a1 (ai @we @bz_NS4))))))))))) ?_
        exact ⟨0, rfl, by rw [← hfin]; rfl⟩
theorem symM_spec : ∀ (n : Nat) (L : List Nat) (a m b : Nat), b - a ≤ n → SmL L → a < m → m < b → b ≤ L.length → L.length ≤ 1099511627776 → SoB L a m → SoB L m b → AFun Try.prog J0 55 [.o 23 1 (NV L), .i .i64 (a : Int), .i .i64 (m : Int), .i .i64 (b : Int), .c (.func (.func 26) #[] #[])] (.mu (.t []) (NV (srt L a b)))
  | 0, L, a, m, b, hn, hs, h1, h2, h3, hl, sa, sb => by omega
  | n + 1, L, a, m, b, hn, hs, h1, h2, h3, hl, sa, sb => by
    by_cases c1 : m - a = 1
    · obtain rfl : m = a + 1 := by omega
      exact symM1_spec L a b hs h2 h3 hl sb
    · by_cases c2 : b - m = 1
      · exact symM2_spec L a m b hs h1 c1 (by omega) h3 hl sa
      · exact symM3_spec L a m b hs h1 h2 c1 c2 h3 hl sa sb fun M x y z k0 k1 k2 k3 k4 k5 k6 k7 => symM_spec n M x y z (by omega) k0 k1 k2 k4 k5 k6 k7
end Go.Proofs.Ytdafakcccjjpiaa
