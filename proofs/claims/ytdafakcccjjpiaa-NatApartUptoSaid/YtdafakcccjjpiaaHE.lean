/-
  The texts AP21, AP24, AP22, AP23, AP25, AP26, AP27.
-/
import Derived.Test.YtdafakcccjjpiaaNS2
import Derived.Test.YtdafakcccjjpiaaBKA
import Derived.Test.YtdafakcccjjpiaaNS7
import Derived.Test.YtdafakcccjjpiaaHB
import Derived.Test.YtdafakcccjjpiaaHC
namespace Go.Proofs.Ytdafakcccjjpiaa
open Go Go.RowKit Ab
set_option linter.unusedSimpArgs false
set_option linter.unusedVariables false
set_option maxHeartbeats 10000000
theorem bz_AP21 : type_of% (And.intro @W_len (And.intro @Nat.div_one (And.intro @Nat.mul_one (And.intro @tn_nat (And.intro @W_nf (And.intro @W_nil (And.intro @wi (And.intro @nf_g (And.intro @Bool.false_and (@W_cell)))))))))) := And.intro @W_len (And.intro @Nat.div_one (And.intro @Nat.mul_one (And.intro @tn_nat (And.intro @W_nf (And.intro @W_nil (And.intro @wi (And.intro @nf_g (And.intro @Bool.false_and (@W_cell)))))))))
def KV (L : List (Value × List Nat)) : List V := L.map fun p => .kn p.1 (.l 1 (W p.2))
def kd : Value × List Nat := (undef, [])
theorem KV_len (L : List (Value × List Nat)) : (KV L).length = L.length := by simp [KV]
theorem KV_get (L : List (Value × List Nat)) (k : Nat) (h : k < L.length) : (KV L).getD k .un = .kn (L.getD k kd).1 (.l 1 (W (L.getD k kd).2)) := by
  simp [KV, List.getD_eq_getElem?_getD, h]
theorem KV_set (L : List (Value × List Nat)) (k : Nat) (p : Value × List Nat) : (KV L).set k (.kn p.1 (.l 1 (W p.2))) = KV (L.set k p) := by
  simp [KV, List.map_set]
def swK (L : List (Value × List Nat)) (j : Nat) : List (Value × List Nat) := (L.set j (L.getD (j - 1) kd)).set (j - 1) (L.getD j kd)
theorem swK_len (L : List (Value × List Nat)) (j : Nat) : (swK L j).length = L.length := by simp [swK]
def insJ : Nat → List (Value × List Nat) → List (Value × List Nat)
  | 0, L => L
  | j + 1, L => if nv B (L.getD (j + 1) kd).2 < nv B (L.getD j kd).2 then insJ j (swK L (j + 1)) else L
def insI : Nat → Nat → List (Value × List Nat) → List (Value × List Nat)
  | 0, _, L => L
  | m + 1, i, L => insI m (i + 1) (insJ i L)
theorem swK_perm {L : List (Value × List Nat)} {j : Nat} (h : j < L.length) : (swK L j).Perm L := by
  unfold swK
  rw [List.getD_eq_getElem?_getD, List.getD_eq_getElem?_getD, List.getElem?_eq_getElem (show j - 1 < L.length by omega), List.getElem?_eq_getElem h]
  exact List.set_set_perm h (by omega)
theorem insJ_perm : ∀ (j : Nat) (L : List (Value × List Nat)), j < L.length → (insJ j L).Perm L
  | 0, L, _ => List.Perm.refl _
  | j + 1, L, h => by
    unfold insJ
    split
    · exact (insJ_perm j _ (by rw [swK_len]; omega)).trans (swK_perm h)
    · exact List.Perm.refl _
theorem insI_perm : ∀ (m i : Nat) (L : List (Value × List Nat)), i + m ≤ L.length → (insI m i L).Perm L
  | 0, _, L, _ => List.Perm.refl _
  | m + 1, i, L, h => by
    unfold insI
    have p := insJ_perm i L (by omega)
    exact (insI_perm m (i + 1) _ (by rw [p.length_eq]; omega)).trans p
def KOk (L : List (Value × List Nat)) : Prop := ∀ p, p ∈ L → Wd p.2 ∧ p.2.length ≤ 1099511627776 ∧ p.1.oneCell' = true
theorem KOk.at {L M : List (Value × List Nat)} (h : KOk L) (hp : M.Perm L) {k : Nat} (hk : k < M.length) : Wd (M.getD k kd).2 ∧ (M.getD k kd).2.length ≤ 1099511627776 ∧ V.cell (.kn (M.getD k kd).1 (.l 1 (W (M.getD k kd).2))) = true := by
  refine h _ (hp.mem_iff.1 ?_)
  rw [List.getD_eq_getElem?_getD, List.getElem?_eq_getElem hk]
  exact List.getElem_mem _
theorem vcmpK (v u : Value) (a b : List Nat) (ha : Wd a) (hb : Wd b) (la : a.length ≤ 1099511627776) (lb : b.length ≤ 1099511627776) : AFun Try.prog J0 26 [.kn v (.l 1 (W a)), .kn u (.l 1 (W b))] (.i .i64 (sg (nv B a) (nv B b))) := by
  have c := cmp_spec a b ha hb la lb
  intro w H vs hJ hT hH hr
  refine c w H vs hJ hT hH ⟨hr.1, fun j x y h1 h2 => ?_⟩
  match j, h2 with
  | 0, h2 =>
    cases h2
    obtain ⟨e, r⟩ := (Rep.up (ov := fun _ => none) (hr.2 0 x _ h1 rfl)).inv_kn
    rw [e]; exact r
  | 1, h2 =>
    cases h2
    obtain ⟨e, r⟩ := (Rep.up (ov := fun _ => none) (hr.2 1 x _ h1 rfl)).inv_kn
    rw [e]; exact r
theorem insK (L : List (Value × List Nat)) (n : Nat) (hn : L.length = n) (h1 : 1 ≤ n) (hs : KOk L) (hl : n ≤ 1000) : AFun Try.prog J0 54 [.o 23 1 (KV L), .i .i64 0, .i .i64 (n : Int), .c (.func (.func 26) #[] #[])] (.mu (.t []) (KV (insI (n - 1) 1 L))) := by
  refine AFun.mkm (m := 0) fol J0s Try.func54 rfl (ac := a54) (by kernel_rfl) rfl rfl rfl rfl (by kernel_rfl) ?_
  apply vm_start
  unfold a54
  simp only [initL_eq, initE, lent, qm, qr, qn]
  rw [show (KV L).length / 1 = n from by rw [KV_len, Nat.div_one, hn]]
  refine spQ @bz_AP21 ?_
  refine vm_loopA [] (Nat × List (Value × List Nat)) (fun x => ⟨[(0, .ow 1 0 n), (1, .i .i64 0), (2, .i .i64 (n : Int)), (3, .c (.func (.func 26) #[] #[])), (8, .i .i64 (x.1 : Int))], [(0, some ⟨23, 1, KV x.2, true, false⟩)], 1⟩)
    (fun x => 1 ≤ x.1 ∧ x.1 ≤ n ∧ x.2.Perm L ∧ insI (n - x.1) x.1 x.2 = insI (n - 1) 1 L)
    (fun x => n - x.1) (1, L) ⟨Nat.le_refl _, h1, List.Perm.refl _, rfl⟩ (by exact leQ) (by
    exact ltQ) ?_
  rintro ⟨i, M⟩ ⟨hi, hi2, hM, hS⟩ Q' hQ he hr
  simp only [] at hi hi2 hM hS ⊢
  have kM : (KV M).length = n := by rw [KV_len, hM.length_eq, hn]
  by_cases h : (i : Int) < (n : Int)
  · refine spQ (ai @kM (ai @h @bz_AP21)) ?_
    refine vm_loopA [] (Nat × List (Value × List Nat)) (fun x => ⟨[(0, .ow 1 0 n), (1, .i .i64 0), (2, .i .i64 (n : Int)), (3, .c (.func (.func 26) #[] #[])), (8, .i .i64 (i : Int)), (9, .i .i64 (x.1 : Int))], [(0, some ⟨23, 1, KV x.2, true, false⟩)], 1⟩)
      (fun x => x.1 ≤ i ∧ x.2.Perm L ∧ insJ x.1 x.2 = insJ i M)
      (fun x => x.1) (i, M) ⟨Nat.le_refl _, hM, rfl⟩ (by exact leQ) (by
      exact ltQ) ?_
    rintro ⟨j, N⟩ ⟨hj, hN, hI⟩ Q2 hQ2 he2 hr2
    simp only [] at hj hN hI ⊢
    have lN : N.length = n := by rw [hN.length_eq, hn]
    have kN : (KV N).length = n := by rw [KV_len, lN]
    have wi1 := iadd1 (show i ≤ 1099511627776 by omega)
    have fin : ∀ (N' : List (Value × List Nat)), N'.Perm L → N' = insJ i M → insI (n - (i + 1)) (i + 1) N' = insI (n - 1) 1 L := fun N' hp e => by
      rw [← hS, e, show n - i = (n - (i + 1)) + 1 from by omega]; rfl
    by_cases ha : (0 : Int) < (j : Int)
    · obtain ⟨j, rfl⟩ : ∃ k, j = k + 1 := ⟨j - 1, by omega⟩
      have wj : IntKind.i64.wrap (((j + 1 : Nat) : Int) - 1) = (j : Int) := by rw [wi (by omega)]; omega
      obtain ⟨wa, la, ca⟩ := hs.at hN (show j + 1 < N.length by omega)
      obtain ⟨wb, lb, cb⟩ := hs.at hN (show j < N.length by omega)
      have c1 := vcmpK (N.getD (j + 1) kd).1 (N.getD j kd).1 _ _ wa wb la lb
      have g1 := KV_get N (j + 1) (by omega)
      have g2 := KV_get N j (by omega)
      have hj1 : ((j + 1 : Nat) : Int).toNat = j + 1 := by omega
      by_cases hc : nv B (N.getD (j + 1) kd).2 < nv B (N.getD j kd).2
      · have e : KV (swK N (j + 1)) = KV ((N.set (j + 1) (N.getD j kd)).set j (N.getD (j + 1) kd)) := rfl
        have s1 := KV_set N (j + 1) (N.getD j kd)
        have s2 := KV_set (N.set (j + 1) (N.getD j kd)) j (N.getD (j + 1) kd)
        have k2 := KV_len (N.set (j + 1) (N.getD j kd))
        rw [List.length_set, lN] at k2
        have n1 := sg_n hc
        have hJ : insJ (j + 1) N = insJ j (swK N (j + 1)) := by
          show (if nv B (N.getD (j + 1) kd).2 < nv B (N.getD j kd).2 then insJ j (swK N (j + 1)) else N) = _
          rw [if_pos hc]
        generalize sg (nv B (N.getD (j + 1) kd).2) (nv B (N.getD j kd).2) = cc at *
        refine wkQ (ai @cb (ai @ca (ai @k2 (ai @s2 (ai @s1 (ai @n1 (ai @g2 (ai @g1 (ai @kN (ai @wj (ai @ha @bz_AP21))))))))))) ?_
        refine hQ2 _ (j, swK N (j + 1)) ⟨by simp only; omega, (swK_perm (by omega)).trans hN, by simp only; rw [← hI, hJ]⟩ (by simp only; omega) ?_
        simp (disch := (first | omega | assumption)) only [Sl, Sa, Sw, ↓reduceIte, Nat.reduceEqDiff, Nat.reduceLT, List.all_nil, List.all_cons, Nat.reduceBneDiff, Nat.reduceAdd, bne_iff_ne, ne_eq, reduceCtorEq, not_false_eq_true, not_true_eq_false, Bool.and_true, Bool.true_and, and_true, true_and, and_self, i_eq, e]
        repeat' first | rfl | omega | (simp only [List.length_append, List.length_cons, List.length_nil]; done) | apply And.intro
      · have n1 := sg_p hc
        have hJ : insJ (j + 1) N = N := by
          show (if nv B (N.getD (j + 1) kd).2 < nv B (N.getD j kd).2 then insJ j (swK N (j + 1)) else N) = _
          rw [if_neg hc]
        generalize sg (nv B (N.getD (j + 1) kd).2) (nv B (N.getD j kd).2) = cc at *
        refine wkQ (ai @n1 (ai @g2 (ai @g1 (ai @kN (ai @wj (ai @ha @bz_AP21)))))) ?_
        refine he2 _ _ ?_
        refine spQ (ai @wi1 @bz_AP21) ?_
        refine hQ _ (i + 1, N) ⟨by simp only; omega, by simp only; omega, hN, by simp only; exact fin N hN (by rw [← hI, hJ])⟩ (by simp only; omega) ?_
        exact ltQ
    · obtain rfl : j = 0 := by omega
      refine spQ (ai @ha @bz_AP21) ?_
      refine he2 _ _ ?_
      refine spQ (ai @wi1 @bz_AP21) ?_
      refine hQ _ (i + 1, N) ⟨by simp only; omega, by simp only; omega, hN, by simp only; exact fin N hN hI⟩ (by simp only; omega) ?_
      exact ltQ
  · obtain rfl : i = n := by omega
    have e : M = insI (i - 1) 1 L := by rw [← hS, Nat.sub_self]; rfl
    clear kM hM hS
    subst e
    refine spQ (ai @h @bz_AP21) ?_
    refine he _ _ ?_
    exact ⟨0, rfl, rfl⟩
end Go.Proofs.Ytdafakcccjjpiaa
namespace Go.Proofs.Ytdafakcccjjpiaa
open Go Go.RowKit Ab
set_option linter.unusedSimpArgs false
set_option linter.unusedVariables false
set_option maxHeartbeats 10000000
theorem bz_AP24 : type_of% (And.intro @W_len (And.intro @Nat.div_one (And.intro @Nat.mul_one (And.intro @tn_nat (And.intro @W_nf (And.intro @W_nil (And.intro @wi (And.intro @nf_g (And.intro @Bool.false_and (@W_cell)))))))))) := And.intro @W_len (And.intro @Nat.div_one (And.intro @Nat.mul_one (And.intro @tn_nat (And.intro @W_nf (And.intro @W_nil (And.intro @wi (And.intro @nf_g (And.intro @Bool.false_and (@W_cell)))))))))
theorem stableK (L : List (Value × List Nat)) (n : Nat) (hn : L.length = n) (h1 : 1 ≤ n) (hs : KOk L) (hl : n < 20) : AFun Try.prog J0 48 [.o 23 1 (KV L), .i .i64 (n : Int), .c (.func (.func 26) #[] #[])] (.mu (.t []) (KV (insI (n - 1) 1 L))) := by
  have hi := insK L n hn h1 hs (by omega)
  have q1 : ¬ (20 : Int) ≤ (n : Int) := by omega
  have q2 : ¬ (20 : Int) < (n : Int) := by omega
  refine AFun.mkm (m := 0) fol J0s Try.func48 rfl (ac := a48) (by kernel_rfl) rfl rfl rfl rfl (by kernel_rfl) ?_
  apply vm_start
  unfold a48
  simp only [initL_eq, initE, lent, qm, qr, qn]
  rw [show (KV L).length / 1 = n from by rw [KV_len, Nat.div_one, hn]]
  refine spQ @bz_AP24 ?_
  refine vm_loopA [] Nat (fun _ => ⟨[(0, .ow 1 0 n), (1, .i .i64 (n : Int)), (2, .c (.func (.func 26) #[] #[])), (6, .i .i64 20), (7, .i .i64 0), (8, .i .i64 20)], [(0, some ⟨23, 1, KV L, true, false⟩)], 1⟩)
    (fun _ => True) (fun _ => 0) 0 trivial (by exact leQ) (by
    exact ltQ) ?_
  intro _ _ Q' hQ he hr
  repeat first
    | (refine hK _ ?_; clear hK K)
    | ((first | refine vm_reg (fun K hK => ?_) | refine vm_dreg (fun K hK => ?_) | refine vm_dregx (fun K hK => ?_)); simp (disch := (first | omega | assumption)) only [S1, ↓reduceIte, Nat.reduceEqDiff, Nat.reduceAdd, Nat.reduceMul, Nat.reduceDiv, AOp.sb, AOp.mut, frzf, ↓Bool.false_eq_true, beq_self_eq_true, ite_self, Nat.reduceLeDiff, Int.reduceEq, Int.reduceSub, Int.reduceAdd, Int.reduceNeg, Int.reduceLT, Int.reduceLE, Nat.reduceLT, bz_AP24, q1]; refine hK _ ?_; clear hK K)
    | simp only [Sv, ↓reduceIte, Nat.reduceEqDiff]
  refine he _ _ ?_
  refine wkQ @bz_AP24 ?_
  refine vm_loopA [] Nat (fun _ => ⟨[(0, .ow 1 0 n), (1, .i .i64 (n : Int)), (2, .c (.func (.func 26) #[] #[])), (6, .i .i64 20)], [(0, some ⟨23, 1, KV (insI (n - 1) 1 L), true, false⟩)], 1⟩)
    (fun _ => True) (fun _ => 0) 0 trivial (by exact leQ) (by
    exact ltQ) ?_
  intro _ _ Q2 hQ2 he2 hr2
  repeat first
    | (refine hK _ ?_; clear hK K)
    | ((first | refine vm_reg (fun K hK => ?_) | refine vm_dreg (fun K hK => ?_) | refine vm_dregx (fun K hK => ?_)); simp (disch := (first | omega | assumption)) only [S1, ↓reduceIte, Nat.reduceEqDiff, Nat.reduceAdd, Nat.reduceMul, Nat.reduceDiv, AOp.sb, AOp.mut, frzf, ↓Bool.false_eq_true, beq_self_eq_true, ite_self, Nat.reduceLeDiff, Int.reduceEq, Int.reduceSub, Int.reduceAdd, Int.reduceNeg, Int.reduceLT, Int.reduceLE, Nat.reduceLT, bz_AP24, q2]; refine hK _ ?_; clear hK K)
    | simp only [Sv, ↓reduceIte, Nat.reduceEqDiff]
  refine he2 _ _ ?_
  exact ⟨0, rfl, rfl⟩
theorem sortSK (L : List (Value × List Nat)) (n : Nat) (hn : L.length = n) (h1 : 1 ≤ n) (hs : KOk L) (hl : n < 20) : AFun Try.prog J0 35 [.o 23 1 (KV L), .c (.func (.func 26) #[] #[])] (.mu (.t []) (KV (insI (n - 1) 1 L))) := by
  have c1 := stableK L n hn h1 hs hl
  refine AFun.mkm (m := 0) fol J0s Try.func35 rfl (ac := a35) (by kernel_rfl) rfl rfl rfl rfl (by kernel_rfl) ?_
  apply vm_start
  unfold a35
  simp only [initL_eq, initE, lent, qm, qr, qn]
  rw [show (KV L).length / 1 = n from by rw [KV_len, Nat.div_one, hn]]
  refine wkQ @bz_AP24 ?_
  exact ⟨0, rfl, rfl⟩
theorem KV_rep {w : World} {H : Nat → Prop} {xs : List Value} {L : List (Value × List Nat)} (h : RepAll w H xs (KV L)) : xs = L.map fun p => p.1 := by
  have hl : xs.length = L.length := by rw [h.1, KV_len]
  refine List.ext_getElem? fun j => ?_
  rcases Nat.lt_or_ge j L.length with hj | hj
  · have h1 : xs[j]? = some xs[j] := List.getElem?_eq_getElem (by omega)
    have h2 : (KV L)[j]? = some (.kn L[j].1 (.l 1 (W L[j].2))) := by simp [KV, hj]
    have h3 := h.2 j _ _ h1 h2
    obtain ⟨e, _⟩ := (Rep.up (ov := fun _ => none) h3).inv_kn
    rw [h1, e]
    simp [hj]
  · rw [List.getElem?_eq_none (by omega), List.getElem?_eq_none (by simp; exact hj)]
end Go.Proofs.Ytdafakcccjjpiaa
namespace Go.Proofs.Ytdafakcccjjpiaa
open Go Go.RowKit Go.Proofs Ab
set_option linter.unusedSimpArgs false
set_option linter.unusedVariables false
set_option maxHeartbeats 10000000
set_option maxHeartbeats 4000000
set_option maxRecDepth 2000000
theorem sortS_raw {w : World} {v : Value} {L : List (Value × List Nat)} {n : Nat} (hn : L.length = n) (h1 : 1 ≤ n) (hl : n < 20) (hs : KOk L) (hrow : w.ownsRow 0 23 1 v n (L.map fun p => p.1)) (hown : ∀ p, p ∈ L → ∃ m : Nat, m ≤ maxLen ∧ w.ownsRow 0 45 1 p.1 m (Wv p.2)) :
    Calls Try.prog 35 #[v, .func (.func 26) #[] #[]] w (fun e w' => ∃ M : List (Value × List Nat), e = .returned (.tuple #[]) ∧ BelE w (fun b => v.ownBlock = some b) w' ∧ M.Perm L ∧ w'.ownsRow 0 23 1 v n (M.map fun p => p.1)) := by
  have c : MFun Try.prog J0 35 [.o 23 1 (KV L), .c (.func (.func 26) #[] #[])] (.t []) (KV (insI (n - 1) 1 L)) := sortSK L n hn h1 hs hl
  obtain ⟨m, e, sz, cs, hm, k⟩ := c
  have hblk := blk_ob hrow
  match m, hm with
  | 0, hm =>
    cases hm
    refine (k w (fun q => ∃ p, p ∈ L ∧ p.1.ownBlock = some q) [v, .func (.func 26) #[] #[]] v n (L.map fun p => p.1) trivial (tj0 _ _) (fun q ⟨p, hp, hq⟩ => by obtain ⟨m, _, ho⟩ := hown p hp; exact (ho.lt q hq).2) rfl rfl (fun j u x hj h1 h2 => ?_) Nat.one_pos hrow ⟨by simp [KV], fun j u x h1 h2 => ?_⟩ (fun x hx => ?_) (by unfold maxLen; omega) (fun q hq ⟨p, hp, hq'⟩ => ?_)).mono ?_
    · match j, hj, h1, h2 with
      | 1, _, h1, h2 => cases h1; cases h2; exact .c _
    · simp only [List.getElem?_map, Option.map_eq_some_iff] at h1
      obtain ⟨p, hp, rfl⟩ := h1
      simp only [KV, List.getElem?_map, hp, Option.map_some, Option.some.injEq] at h2
      subst h2
      have hpm : p ∈ L := List.mem_of_getElem? hp
      obtain ⟨m, hmm, ho⟩ := hown p hpm
      exact .kn _ _ (row_l Nat.one_pos ho (Wv_rep _) hmm fun q hq => ⟨p, hpm, hq⟩)
    · obtain ⟨p, hp, rfl⟩ := List.mem_map.1 hx
      exact (hs p hp).2.2
    · obtain ⟨m, _, ho⟩ := hown p hp
      exact ow_ne hrow ho (by decide) (hblk ▸ hq) hq'
    · rintro e w' ⟨rv, rfl, hbel, hrv, _, _, xs', N, ho, _, hra⟩
      have hx := KV_rep hra
      subst hx
      refine ⟨_, ?_, ⟨hbel.os, hbel.tape, hbel.output, hbel.size, fun q hq hne => hbel.block q hq fun h => hne (hblk ▸ h)⟩, insI_perm (n - 1) 1 L (by omega), ho⟩
      cases hrv with
      | t vs cs hn hr =>
        have : vs = [] := List.eq_nil_of_length_eq_zero (by simpa using hn)
        subst this; rfl
  | 1, hm => cases hm
  | m + 2, hm => cases hm
end Go.Proofs.Ytdafakcccjjpiaa
namespace Go.Proofs.Ytdafakcccjjpiaa
open Go Go.RowKit Go.Proofs Ab
set_option linter.unusedSimpArgs false
set_option linter.unusedVariables false
set_option maxHeartbeats 10000000
set_option maxHeartbeats 4000000
set_option maxRecDepth 2000000
def soB (f : Func) : Code := ql (qb (q2 (q1 (q2 (q2 (qf f))))))
theorem own_raw {w : World} {x : Value} {a : List Nat} {Ha : Nat → Prop} (hH : ∀ q, Ha q → q < w.heap.size) (hx : Rep0 w Ha x (.l 1 (W a))) (la : a.length ≤ 1099511627776) :
    Calls Try.prog 28 #[x] w (fun e w' => ∃ (u : Value) (n : Nat), e = .returned u ∧ Below w.heap.size w w' ∧ w'.ownsRow w.heap.size 45 1 u n (Wv (tz a)) ∧ n ≤ maxLen) := by
  refine ((own_spec a la).to0 rfl w Ha [x] trivial (tj0 _ _) hH ⟨rfl, fun j v y h1 h2 => ?_⟩).mono ?_
  · match j, h1, h2 with
    | 0, h1, h2 => cases h1; cases h2; exact hx
  · rintro e w' ⟨v, rfl, hB, N, hN, h⟩
    rcases h with h | ⟨e, sz, cs, n, xs, he, _, ho, hr, _, hm, _⟩ | ⟨r, h, _⟩
    · cases h
    · cases he
      have := Wv_of hr
      subst this
      exact ⟨v, n, rfl, hB, ho, hm⟩
    · cases h
theorem so_head {a : Act} {w : World} {R : Exit → Act → World → Prop} {m i : Nat} (hz : a.tmps.size = 21) (h7 : a.tmps.getD 7 undef = .int .i64 (m : Int)) (h8 : a.tmps.getD 8 undef = .int .i64 (i : Int))
    (kt : (i : Int) < (m : Int) → ∀ a' : Act, a'.tmps.size = 21 → (∀ t, t < 9 → a'.tmps.getD t undef = a.tmps.getD t undef) → a'.defers = a.defers → (q2 (q2 (soB Try.f13))).wp Try.prog R a' w)
    (kf : ¬ (i : Int) < (m : Int) → ∀ a' : Act, a'.tmps.size = 21 → (∀ t, t < 9 → a'.tmps.getD t undef = a.tmps.getD t undef) → a'.defers = a.defers → R (.exit 0) a' w) : (soB Try.f13).wp Try.prog R a w := by
  have g7 := gI hz h7 (by decide)
  have g8 := gI hz h8 (by decide)
  have hA := PLift.up (And.intro kt kf)
  clear kt kf
  by_cases hi : (i : Int) < (m : Int)
  · refine wp_seq_k fun K0 hK0 => ?_
    have hk0 := PLift.up hK0
    clear hK0
    refine wp_region_lit ?_
    go_wp2
    refine hk0.down _ _ ?_
    refine wp_seq ?_
    refine wp_cond_true (by rw [eval_tmp]; dsimp only; rw [gset_eq (by simp [hz])]) ?_
    refine wp_skip ?_
    refine hA.down.1 hi _ (by simp [hz]) (fun t ht => ?_) rfl
    dsimp only
    rw [gset_ne (by omega)]
  · refine wp_seq_k fun K0 hK0 => ?_
    have hk0 := PLift.up hK0
    clear hK0
    refine wp_region_lit ?_
    go_wp2
    refine hk0.down _ _ ?_
    refine wp_seq ?_
    refine wp_cond_false (by rw [eval_tmp]; dsimp only; rw [gset_eq (by simp [hz])]) ?_
    go_wp2
    refine hA.down.2 (by omega) _ (by simp [hz]) (fun t ht => ?_) rfl
    dsimp only
    rw [gset_ne (by omega)]
theorem so_load {a : Act} {w : World} {R : Exit → Act → World → Prop} {g m c i : Nat} {x : Value} (hz : a.tmps.size = 21) (h6 : a.tmps.getD 6 undef = .slice (some ⟨g, 0, none⟩) m c) (h8 : a.tmps.getD 8 undef = .int .i64 (i : Int)) (hi : (i : Int) < (m : Int)) (hm : m ≤ 1000) (hx : w.cell? ⟨g, i, none⟩ = some x)
    (kk : ∀ a' : Act, a'.tmps.size = 21 → (∀ t, t < 9 → t ≠ 5 → a'.tmps.getD t undef = a.tmps.getD t undef) → a'.tmps.getD 5 undef = x → a'.defers = a.defers → R .normal a' w) : (q1 (qb (q1 (q2 (q2 (soB Try.f13)))))).wp Try.prog R a w := by
  have g6 := gI hz h6 (by decide)
  have g8 := gI hz h8 (by decide)
  have kkA := PLift.up kk
  clear kk
  refine wp_region_lit ?_
  go_wp2
  refine kkA.down _ (by simp [hz]) (fun t ht hne => ?_) ?_ rfl
  · dsimp only
    rw [gset_ne (by omega), gset_ne (by omega), gset_ne (by omega)]
  · dsimp only
    rw [gset_eq (by simp [hz])]
theorem so_step {a : Act} {w : World} {R : Exit → Act → World → Prop} {i : Nat} (hz : a.tmps.size = 21) (h8 : a.tmps.getD 8 undef = .int .i64 (i : Int)) (hi : i ≤ 1000)
    (kk : ∀ a' : Act, a'.tmps.size = 21 → (∀ t, t < 9 → t ≠ 8 → a'.tmps.getD t undef = a.tmps.getD t undef) → a'.tmps.getD 8 undef = .int .i64 ((i : Int) + 1) → a'.defers = a.defers → R .normal a' w) : (q2 (q2 (q2 (soB Try.f13)))).wp Try.prog R a w := by
  have g8 := gI hz h8 (by decide)
  have kkA := PLift.up kk
  clear kk
  refine wp_region_lit ?_
  go_wp2
  refine kkA.down _ (by simp [hz]) (fun t ht hne => ?_) ?_ rfl
  · dsimp only
    rw [gset_ne (by omega), gset_ne (by omega)]
  · dsimp only
    rw [gset_eq (by simp [hz])]
end Go.Proofs.Ytdafakcccjjpiaa
namespace Go.Proofs.Ytdafakcccjjpiaa
open Go Go.RowKit Go.Proofs Ab
set_option linter.unusedSimpArgs false
set_option linter.unusedVariables false
set_option maxHeartbeats 10000000
set_option maxHeartbeats 4000000
set_option maxRecDepth 2000000
theorem info_nat : (Try.prog.info? 23).map (fun i => (i.zero, i.size, i.bytes)) = some (some (.slice none 0 0), 1, 24) := by kernel_rfl
theorem so_app {a : Act} {w : World} {R : Exit → Act → World → Prop} {v x : Value} {xs : List Value} {i : Nat} {A : List Nat} (hz : a.tmps.size = 21) (h3 : a.tmps.getD 3 undef = v) (h5 : a.tmps.getD 5 undef = x) (ho : w.ownsRow 0 23 1 v i xs) (hi : i ≤ 1000)
    (hcall : Calls Try.prog 28 #[x] w (fun e w' => ∃ (u : Value) (n : Nat), e = .returned u ∧ Below w.heap.size w w' ∧ w'.ownsRow w.heap.size 45 1 u n (Wv A) ∧ n ≤ maxLen))
    (kk : ∀ (a' : Act) (w1 w1' w' : World) (u v' : Value) (n : Nat), a'.tmps.size = 21 → (∀ t, t < 9 → t ≠ 3 → a'.tmps.getD t undef = a.tmps.getD t undef) → a'.tmps.getD 3 undef = v' → a'.defers = a.defers → Below w.heap.size w w1 → w1.ownsRow w.heap.size 45 1 u n (Wv A) → n ≤ maxLen → Below w1.heap.size w1 w1' → w'.ownsRow 0 23 1 v' (i + 1) (xs ++ [u]) → Gr w1' w' v v' i 1 → R .normal a' w') : (q2 (qb (q1 (q2 (q2 (soB Try.f13)))))).wp Try.prog R a w := by
  have g3 := gI hz h3 (by decide)
  have g5 := gI hz h5 (by decide)
  obtain ⟨i0, hi0, hi1, hi2, hi3⟩ := info_parts info_nat
  have hoA := PLift.up ho
  clear ho
  have kkA := PLift.up kk
  clear kk
  have hmax : (i + 1) * 24 ≤ 140737488355328 := by omega
  refine wp_region_lit ?_
  go_wp2_with (first
    | (go_at_call 28; refine hcall.mono ?_; rintro e w1 ⟨u, n, rfl, hB1, hu, hun⟩; obtain ⟨ua, uc, rfl⟩ := ow_shape hu; have hr1 := PLift.up (ow_below hoA.down fun q hq => hB1.block q (hoA.down.lt q hq).2); have hU := PLift.up (And.intro hB1 hu); clear hB1 hu)
    | (at_builtin; refine wpList_app _ rfl (.tmp 12) (.tmp 15) 39 rfl 23 i0 (.slice none 0 0) 24 Try.underlying39 hi0 hi1 hi2 hi3 rfl v i xs ?hs ?own ⟨w1.heap.size, 0, none⟩ 1 1 [.slice ua n uc] ?hx ?hn ?c3 ?c4 Nat.one_pos ?mx ?bys ?fin))
  case hs => rw [eval_tmp]; dsimp only; rw [gset_ne (by decide), gset_ne (by decide), gset_ne (by decide), gset_eq (by simp [hz])]
  case own => exact hr1.down.alloc _
  case hx => rw [eval_tmp]; dsimp only; rw [gset_eq (by simp [hz])]
  case hn => rfl
  case c3 =>
    intro j u hj
    rw [Addr.add_lit, Nat.zero_add, cell_of_row _ _ j _ _ _ (heap_alloc_new w1 _)]
    simpa using hj
  case c4 =>
    intro u hu
    simp only [List.mem_cons, List.not_mem_nil, or_false] at hu
    rw [hu]; rfl
  case mx => unfold maxLen; omega
  case bys => exact hmax
  case fin =>
    intro v' w' ho' hgr
    go_wp2
    refine kkA.down _ w1 _ w' _ v' n (by simp [hz]) (fun t ht hne => ?_) ?_ rfl hU.down.1 hU.down.2 hun ((Below.refl _ _).alloc (Nat.le_refl _) _) ho' hgr
    · dsimp only
      rw [gset_ne (by omega), gset_ne (by omega), gset_ne (by omega), gset_ne (by omega), gset_ne (by omega), gset_ne (by omega)]
    · dsimp only
      rw [gset_eq (by simp [hz])]
structure Cl (w0 w : World) (L : List (Value × List Nat)) : Prop where
  own : ∀ p, p ∈ L → ∃ m : Nat, m ≤ maxLen ∧ w.ownsRow w0.heap.size 45 1 p.1 m (Wv p.2)
  apt : Apt (L.map fun p => p.1)
theorem Cl.keep {w0 w w' : World} {L : List (Value × List Nat)} (h : Cl w0 w L) (hb : ∀ p q, p ∈ L → p.1.ownBlock = some q → w'.heap[q]? = w.heap[q]?) : Cl w0 w' L :=
  ⟨fun p hp => by obtain ⟨m, hm, ho⟩ := h.own p hp; exact ⟨m, hm, ow_below ho fun q hq => hb p q hp hq⟩, h.apt⟩
theorem Cl.snoc {w0 w : World} {L : List (Value × List Nat)} {u : Value} {A : List Nat} {n B : Nat} (h : Cl w0 w L) (hu : w.ownsRow w0.heap.size 45 1 u n (Wv A)) (hn : n ≤ maxLen) (hB : ∀ p q, p ∈ L → p.1.ownBlock = some q → q < B) (hu2 : ∀ q, u.ownBlock = some q → B ≤ q) : Cl w0 w (L ++ [(u, A)]) := by
  refine ⟨fun p hp => ?_, fun i j vi vj q hij hi hj hq => ?_⟩
  · rcases List.mem_append.1 hp with hp | hp
    · exact h.own p hp
    · rw [List.mem_singleton.1 hp]; exact ⟨n, hn, hu⟩
  · rw [List.map_append] at hi hj
    have key : ∀ (k : Nat) (z : Value), (L.map (fun p => p.1) ++ [(u, A)].map fun p => p.1)[k]? = some z → (k < L.length ∧ (L.map fun p => p.1)[k]? = some z) ∨ (k = L.length ∧ z = u) := fun k z hk => by
      rcases Nat.lt_or_ge k L.length with hk' | hk'
      · rw [List.getElem?_append_left (by rw [List.length_map]; exact hk')] at hk
        exact .inl ⟨hk', hk⟩
      · rw [List.getElem?_append_right (by rw [List.length_map]; exact hk'), List.length_map] at hk
        have h1 : k - L.length < 1 := (List.getElem?_eq_some_iff.1 hk).1
        have h2 : k = L.length := by omega
        subst h2
        rw [Nat.sub_self] at hk
        cases hk
        exact .inr ⟨rfl, rfl⟩
    have mem : ∀ (k : Nat) (z : Value), (L.map fun p => p.1)[k]? = some z → ∃ p, p ∈ L ∧ p.1 = z := fun k z hk => List.mem_map.1 (List.mem_of_getElem? hk)
    rcases key i vi hi with ⟨h1, h2⟩ | ⟨h1, rfl⟩
    · rcases key j vj hj with ⟨h3, h4⟩ | ⟨h3, rfl⟩
      · exact h.apt i j vi vj q hij h2 h4 hq
      · obtain ⟨p, hp, rfl⟩ := mem i vi h2
        exact fun e => by have := hB p q hp hq; have := hu2 q e; omega
    · rcases key j vj hj with ⟨h3, h4⟩ | ⟨h3, rfl⟩
      · obtain ⟨p, hp, rfl⟩ := mem j vj h4
        exact fun e => by have := hB p q hp e; have := hu2 q hq; omega
      · omega
theorem Apt.perm {L M : List Value} (h : Apt L) (hp : M.Perm L) : Apt M := by
  have pw : ∀ {X : List Value}, Apt X ↔ X.Pairwise fun a b => ∀ q, a.ownBlock = some q → b.ownBlock ≠ some q := fun {X} => by
    rw [List.pairwise_iff_getElem]
    refine ⟨fun h i j hi hj hij q hq => h i j _ _ q (by omega) (List.getElem?_eq_getElem hi) (List.getElem?_eq_getElem hj) hq, fun h i j vi vj q hij hi hj hq => ?_⟩
    obtain ⟨h1, rfl⟩ := List.getElem?_eq_some_iff.1 hi
    obtain ⟨h2, rfl⟩ := List.getElem?_eq_some_iff.1 hj
    rcases Nat.lt_or_gt_of_ne hij with hlt | hgt
    · exact h i j h1 h2 hlt q hq
    · exact fun e => h j i h2 h1 hgt q e hq
  rw [pw] at h ⊢
  exact hp.symm.pairwise h fun {a b} hab q hq e => hab q e hq
end Go.Proofs.Ytdafakcccjjpiaa
namespace Go.Proofs.Ytdafakcccjjpiaa
open Go Go.RowKit Go.Proofs Ab
set_option linter.unusedSimpArgs false
set_option linter.unusedVariables false
set_option maxHeartbeats 10000000
set_option maxHeartbeats 4000000
set_option maxRecDepth 2000000
theorem so_loop {a : Act} {w : World} {R : Exit → Act → World → Prop} {g m c : Nat} {Xs : List Value} {As : List (List Nat)} {Ha : Nat → Prop} (hz : a.tmps.size = 21) (h0 : a.tmps.getD 0 undef = .slice (some ⟨g, 0, none⟩) m c) (h3 : a.tmps.getD 3 undef = .slice none 0 0) (hm : m ≤ 1000)
    (hX : Xs.length = m) (hA : As.length = m) (hg : g < w.heap.size) (hcell : ∀ (j : Nat) (x : Value), Xs[j]? = some x → w.cell? ⟨g, j, none⟩ = some x) (hrep : ∀ (j : Nat) (x : Value) (b : List Nat), Xs[j]? = some x → As[j]? = some b → Rep0 w Ha x (.l 1 (W b))) (hH : ∀ q, Ha q → q < w.heap.size) (hAs : ∀ b, b ∈ As → Wd b ∧ b.length ≤ 1000000000)
    (kk : ∀ (a' : Act) (w' : World) (v : Value) (L : List (Value × List Nat)), a'.tmps.size = 21 → a'.tmps.getD 3 undef = v → a'.defers = a.defers → Below w.heap.size w w' → L.length = m → KOk L → (∀ p, p ∈ L → p.2.length ≤ 1000000000) → Cl w w' L → w'.ownsRow w.heap.size 23 1 v m (L.map fun p => p.1) → R .normal a' w') : (q1 (q2 (q2 (qf Try.f13)))).wp Try.prog R a w := by
  have g0 := gI hz h0 (by decide)
  refine wp_seq_k fun K0 hK0 => ?_
  have hk0 := PLift.up hK0
  clear hK0
  have kkA := PLift.up kk
  clear kk
  refine wp_region_lit ?_
  go_wp2
  refine hk0.down _ _ ?_
  clear hk0
  refine wp_block ?_
  refine wp_loop (fun a' wr => ∃ (i : Nat) (v : Value) (L : List (Value × List Nat)), i ≤ m ∧ a'.tmps.size = 21 ∧ a'.tmps.getD 6 undef = .slice (some ⟨g, 0, none⟩) m c ∧ a'.tmps.getD 7 undef = .int .i64 (m : Int) ∧ a'.tmps.getD 8 undef = .int .i64 (i : Int) ∧ a'.tmps.getD 3 undef = v ∧ a'.defers = a.defers ∧ Below w.heap.size w wr ∧ L.length = i ∧ KOk L ∧ (∀ p, p ∈ L → p.2.length ≤ 1000000000) ∧ Cl w wr L ∧ wr.ownsRow w.heap.size 23 1 v i (L.map fun p => p.1))
    (fun a' _ => m - (intOf (a'.tmps.getD 8 undef)).toNat) ?_ ?_
  · refine ⟨0, .slice none 0 0, [], Nat.zero_le _, by simp [hz], ?_, ?_, ?_, ?_, rfl, Below.refl _ _, rfl, fun p hp => (by cases hp), fun p hp => (by cases hp), ⟨fun p hp => (by cases hp), fun i j vi vj q _ h => (by simp at h)⟩, World.ownsRow_nil _ _ _ _⟩
    · dsimp only
      rw [gset_ne (by omega), gset_ne (by omega), gset_eq (by simp [hz])]
    · dsimp only
      rw [gset_ne (by omega), gset_eq (by simp [hz])]
    · dsimp only
      rw [gset_eq (by simp [hz])]; rfl
    · dsimp only
      rw [gset_ne (by omega), gset_ne (by omega), gset_ne (by omega)]; exact h3
  · rintro a' wr ⟨i, v, L, hi, hz, h6, h7, h8, h3, hd, hB, hL, hK, hKl, hC, hrow⟩
    have hsz := hB.size
    refine so_head hz h7 h8 (fun hlt a1 z1 s1 d1 => ?_) (fun hge a1 z1 s1 d1 => ?_)
    · have hilt : i < m := by omega
      have hXi : Xs[i]? = some Xs[i] := List.getElem?_eq_getElem (by omega)
      have hAi : As[i]? = some As[i] := List.getElem?_eq_getElem (by omega)
      obtain ⟨hWd, hAl⟩ := hAs As[i] (List.getElem_mem _)
      generalize Xs[i] = x at hXi
      generalize As[i] = b at hAi hWd hAl
      have hxr : Rep0 wr Ha x (.l 1 (W b)) := (hrep i x b hXi hAi).mono (fun _ h => h) fun q hq => hB.block q (hH q hq)
      have hcx : wr.cell? ⟨g, i, none⟩ = some x := (cell_heap (hB.block g hg)).trans (hcell i x hXi)
      refine wp_seq ?_
      refine wp_block ?_
      refine wp_seq ?_
      refine so_load z1 ((s1 6 (by decide)).trans h6) ((s1 8 (by decide)).trans h8) hlt hm hcx fun a2 z2 s2 e2 d2 => ?_
      refine so_app z2 ((s2 3 (by decide) (by decide)).trans ((s1 3 (by decide)).trans h3)) e2 (ow_base hrow (Nat.zero_le _)) (by omega) (own_raw (fun q hq => Nat.lt_of_lt_of_le (hH q hq) hsz) hxr (by omega)) fun a3 w1 w1' w' u v' n z3 s3 e3 d3 hB1 hu hun hB1' hrow' hG => ?_
      refine so_step z3 ((s3 8 (by decide) (by decide)).trans ((s2 8 (by decide) (by decide)).trans ((s1 8 (by decide)).trans h8))) (by omega) fun a4 z4 s4 j4 d4 => ?_
      have hbel := hG.bel
      have k1 := hB1.size
      have k2 := hB1'.size
      have k3 := hbel.size
      have hvlt : ∀ q, v.ownBlock = some q → w.heap.size ≤ q ∧ q < wr.heap.size := fun q hq => hrow.lt q hq
      have hulen := tz_len b
      obtain ⟨ua, uc, hua⟩ := ow_shape hu
      refine ⟨⟨i + 1, v', L ++ [(u, tz b)], hilt, z4, (s4 6 (by decide) (by decide)).trans ((s3 6 (by decide) (by decide)).trans ((s2 6 (by decide) (by decide)).trans ((s1 6 (by decide)).trans h6))), (s4 7 (by decide) (by decide)).trans ((s3 7 (by decide) (by decide)).trans ((s2 7 (by decide) (by decide)).trans ((s1 7 (by decide)).trans h7))), by rw [j4]; rfl, (s4 3 (by decide) (by decide)).trans e3, d4.trans (d3.trans (d2.trans (d1.trans hd))), ?_, by rw [List.length_append, hL]; rfl, fun p hp => ?_, fun p hp => ?_, ?_, ?_⟩, ?_⟩
      · exact ⟨hbel.os.trans (hB1'.os.trans (hB1.os.trans hB.os)), hbel.tape.trans (hB1'.tape.trans (hB1.tape.trans hB.tape)), hbel.output.trans (hB1'.output.trans (hB1.output.trans hB.output)), by omega, fun q hq => (hbel.block q (by omega) (fun e => by have := (hvlt q e).1; omega)).trans ((hB1'.block q (by omega)).trans ((hB1.block q (by omega)).trans (hB.block q hq)))⟩
      · rcases List.mem_append.1 hp with hp | hp
        · exact hK p hp
        · rw [List.mem_singleton.1 hp]
          exact ⟨Lt_tz hWd, by show (tz b).length ≤ _; omega, by show u.oneCell' = true; rw [hua]; rfl⟩
      · rcases List.mem_append.1 hp with hp | hp
        · exact hKl p hp
        · rw [List.mem_singleton.1 hp]
          show (tz b).length ≤ _; omega
      · have hCw : Cl w w' L := hC.keep fun p q hp hq => by
          obtain ⟨mm, _, hpo⟩ := hC.own p hp
          have := (hpo.lt q hq).2
          exact (hbel.block q (by omega) (fun e => ow_ne hrow hpo (by decide) e hq)).trans ((hB1'.block q (by omega)).trans (hB1.block q (by omega)))
        refine hCw.snoc (B := wr.heap.size) (ow_base (ow_below hu fun q hq => ?_) hsz) hun (fun p q hp hq => ?_) (fun q hq => (hu.lt q hq).1)
        · obtain ⟨l1, l2⟩ := hu.lt q hq
          exact (hbel.block q (by omega) (fun e => by have := (hvlt q e).2; omega)).trans (hB1'.block q (by omega))
        · obtain ⟨mm, _, hpo⟩ := hC.own p hp
          exact (hpo.lt q hq).2
      · rw [List.map_append]
        refine ownB hrow' fun q hq => ?_
        rcases hG.ob ((blk_ob hrow') ▸ hq) with h | h
        · exact (hvlt q h).1
        · omega
      · rw [j4, h8]
        simp only [intOf]; omega
    · obtain rfl : i = m := by omega
      exact kkA.down _ _ v L z1 ((s1 3 (by decide)).trans h3) (d1.trans hd) hB hL hK hKl hC hrow
end Go.Proofs.Ytdafakcccjjpiaa
namespace Go.Proofs.Ytdafakcccjjpiaa
open Go Go.RowKit Go.Proofs Ab
set_option linter.unusedSimpArgs false
set_option linter.unusedVariables false
set_option maxHeartbeats 10000000
set_option maxHeartbeats 4000000
set_option maxRecDepth 2000000
theorem so_sort {a : Act} {w : World} {R : Exit → Act → World → Prop} {v : Value} {Q : World → Prop} (hz : a.tmps.size = 21) (h3 : a.tmps.getD 3 undef = v)
    (hcall : Calls Try.prog 35 #[v, .func (.func 26) #[] #[]] w (fun e w' => e = .returned (.tuple #[]) ∧ Q w'))
    (kk : ∀ (a' : Act) (w' : World), a'.tmps.size = 21 → (∀ t, t < 9 → a'.tmps.getD t undef = a.tmps.getD t undef) → a'.defers = a.defers → Q w' → R .normal a' w') : (q1 (q2 (q2 (q2 (qf Try.f13))))).wp Try.prog R a w := by
  have g3 := gI hz h3 (by decide)
  have kkA := PLift.up kk
  clear kk
  refine wp_region_lit ?_
  go_wp2_with (go_at_call 35; refine hcall.mono ?_; rintro e w1 ⟨rfl, hq⟩)
  refine kkA.down _ w1 (by simp [hz]) (fun t ht => ?_) rfl hq
  dsimp only
  rw [gset_ne (by omega), gset_ne (by omega)]
def SortedR (w : World) (m : Nat) (e : Ending) (w' : World) : Prop :=
  ∃ (v : Value) (L : List (Value × List Nat)), e = .returned v ∧ Below w.heap.size w w' ∧ L.length = m ∧ (∀ p, p ∈ L → p.2.length ≤ 1000000000) ∧ Cl w w' L ∧ w'.ownsRow w.heap.size 23 1 v m (L.map fun p => p.1)
theorem sorted_raw {w : World} {g m c : Nat} {Xs : List Value} {As : List (List Nat)} {Ha : Nat → Prop} (h1 : 1 ≤ m) (hm : m < 20)
    (hX : Xs.length = m) (hA : As.length = m) (hg : g < w.heap.size) (hcell : ∀ (j : Nat) (x : Value), Xs[j]? = some x → w.cell? ⟨g, j, none⟩ = some x) (hrep : ∀ (j : Nat) (x : Value) (b : List Nat), Xs[j]? = some x → As[j]? = some b → Rep0 w Ha x (.l 1 (W b))) (hH : ∀ q, Ha q → q < w.heap.size) (hAs : ∀ b, b ∈ As → Wd b ∧ b.length ≤ 1000000000) :
    Calls Try.prog 13 #[.slice (some ⟨g, 0, none⟩) m c] w (SortedR w m) := by
  refine calls_at (vs := [.slice (some ⟨g, 0, none⟩) m c]) Try.func13 (c := qf Try.f13) rfl (by show 1 ≤ _; decide) fun a0 z0 e0 d0 => ?_
  have e0 : a0.tmps.getD 0 undef = .slice (some ⟨g, 0, none⟩) m c := e0 0 (by show 0 < 1; decide)
  change a0.tmps.size = 21 at z0
  refine wp_seq_k fun K0 hK0 => ?_
  have hk0 := PLift.up hK0
  clear hK0
  refine wp_region_lit ?_
  go_wp2
  refine hk0.down _ _ ?_
  clear hk0
  refine wp_seq_k fun K1 hK1 => ?_
  have hk1 := PLift.up hK1
  clear hK1
  refine wp_region_lit ?_
  go_wp2
  refine hk1.down _ _ ?_
  clear hk1
  refine wp_seq ?_
  refine so_loop (by simp [z0]) (by dsimp only; rw [gset_ne (by decide), gset_ne (by decide)]; exact e0) (by dsimp only; rw [gset_eq (by simp [z0])]) (by omega) hX hA hg hcell hrep hH hAs fun a1 w1 v L z1 h3 d1 hB hL hK hKl hC hrow => ?_
  have hs := hB.size
  refine wp_seq ?_
  refine so_sort z1 h3 (Q := fun w' => ∃ M : List (Value × List Nat), BelE w1 (fun b => v.ownBlock = some b) w' ∧ M.Perm L ∧ w'.ownsRow 0 23 1 v m (M.map fun p => p.1)) ((sortS_raw hL h1 hm hK (ow_base hrow (Nat.zero_le _)) (fun p hp => by obtain ⟨k, hk, ho⟩ := hC.own p hp; exact ⟨k, hk, ow_base ho (Nat.zero_le _)⟩)).mono (by rintro e w' ⟨M, rfl, x1, x2, x3⟩; exact ⟨rfl, M, x1, x2, x3⟩)) fun a2 w2 z2 s2 d2 hQ => ?_
  obtain ⟨M, hbel, hperm, hrow2⟩ := hQ
  have g3 : a2.tmps.getD 3 undef = v := (s2 3 (by decide)).trans h3
  have g3i := gI z2 g3 (by decide)
  refine wp_seq_k fun K2 hK2 => ?_
  have hk2 := PLift.up hK2
  clear hK2
  refine wp_region_lit ?_
  go_wp2
  refine hk2.down _ _ ?_
  clear hk2
  refine wp_ret ?_
  have hvb : ∀ q, v.ownBlock = some q → w.heap.size ≤ q := fun q hq => (hrow.lt q hq).1
  refine ⟨by first | rfl | exact d2.trans d1, _, resSlots_run (show resSlots Try.f13.results.toList = some [2] from rfl) _ _, v, M, ?_, ?_, hperm.length_eq.trans hL, fun p hp => hKl p (hperm.mem_iff.1 hp), ⟨fun p hp => ?_, hC.apt.perm (hperm.map _)⟩, ownB hrow2 fun q hq => hvb q ((blk_ob hrow2) ▸ hq)⟩
  · refine congrArg Ending.returned ?_
    show Array.getD _ 2 undef = v
    exact gset_eq (by simp [z2])
  · exact ⟨hbel.os.trans hB.os, hbel.tape.trans hB.tape, hbel.output.trans hB.output, Nat.le_trans hs hbel.size, fun q hq => (hbel.block q (by omega) (fun e => by have := hvb q e; omega)).trans (hB.block q hq)⟩
  · obtain ⟨k, hk, ho⟩ := hC.own p (hperm.mem_iff.1 hp)
    exact ⟨k, hk, ow_below ho fun q hq => hbel.block q (ho.lt q hq).2 (fun e => ow_ne hrow ho (by decide) e hq)⟩
end Go.Proofs.Ytdafakcccjjpiaa
