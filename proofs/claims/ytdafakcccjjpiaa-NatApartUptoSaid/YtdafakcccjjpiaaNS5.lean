/-
  slices.SortStableFunc; the sorted lists of numbers.
-/
import Derived.Test.YtdafakcccjjpiaaNS4
namespace Go.Proofs.Ytdafakcccjjpiaa
open Go Go.RowKit Ab
set_option linter.unusedSimpArgs false
set_option linter.unusedVariables false
set_option maxHeartbeats 10000000
theorem bz_NS5 : type_of% (And.intro @W_len (And.intro @Nat.div_one (And.intro @Nat.mul_one (And.intro @tn_nat (And.intro @W_nf (@W_nil)))))) := And.intro @W_len (And.intro @Nat.div_one (And.intro @Nat.mul_one (And.intro @tn_nat (And.intro @W_nf (@W_nil)))))
theorem Run.none (M : List Nat) (c : Nat) : Run M c 0 0 := fun p q _ _ h => by omega
theorem Run.ge {c t p q : Nat} (hc : 0 < c) (hq : c * t ≤ q) (he : p / c = q / c) : c * t ≤ p := by
  refine Nat.le_of_not_lt fun hl => ?_
  have h1 := Nat.div_lt_of_lt_mul hl
  have h2 := (Nat.le_div_iff_mul_le hc).2 (by rw [Nat.mul_comm]; exact hq : t * c ≤ q)
  omega
theorem Run.add {M : List Nat} {c t y : Nat} (hc : 0 < c) (h : Run M c 0 (c * t)) (hx : c * t ≤ y) (hy : y ≤ M.length) : Run (srt M (c * t) y) c 0 y := fun p q _ hpq hq he => by
  obtain ⟨s1, s2⟩ := srt_spec M hx hy
  by_cases c1 : q < c * t
  · rw [s1.2.2 p (by omega), s1.2.2 q (.inl c1)]; exact h p q (Nat.zero_le _) hpq c1 he
  · exact s2 p q (Run.ge hc (by omega) he) hpq hq
theorem Run.blk {M : List Nat} {c x n t v : Nat} (h : Run M c x n) (hc : 0 < c) (h1 : x ≤ c * t) (h2 : v ≤ c * t + c) (h3 : v ≤ n) : SoB M (c * t) v := fun p q hp hpq hq => by
  have e : ∀ z, c * t ≤ z → z < v → z / c = t := fun z h4 h5 => Nat.div_eq_of_lt_le (by rw [Nat.mul_comm]; exact h4) (by rw [Nat.mul_comm, Nat.mul_succ]; omega)
  exact h p q (by omega) hpq (by omega) (by rw [e p hp (by omega), e q (by omega) hq])
theorem Run.rest {M : List Nat} {c x y n : Nat} (h : Run M c x n) (hx : x ≤ y) (hy : y ≤ M.length) : Run (srt M x y) c y n := fun p q hp hpq hq he => by
  obtain ⟨s1, _⟩ := srt_spec M hx hy
  rw [s1.2.2 p (.inr hp), s1.2.2 q (by omega)]; exact h p q (by omega) hpq hq he
theorem Run.last {M : List Nat} {c t n : Nat} (h : Run M (2 * c) 0 (2 * c * t)) (k : Run M c (2 * c * t) n) (hc : 0 < c) (hn : n ≤ 2 * c * t + c) : Run M (2 * c) 0 n := fun p q _ hpq hq he => by
  by_cases c1 : q < 2 * c * t
  · exact h p q (Nat.zero_le _) hpq c1 he
  · have hp := Run.ge (by omega) (Nat.le_of_not_lt c1) he
    have e2 : 2 * c * t = c * (2 * t) := by rw [Nat.mul_comm 2 c, Nat.mul_assoc]
    have := k.blk (t := 2 * t) (v := n) hc (by omega) (by omega) (Nat.le_refl _)
    exact this p q (by omega) hpq hq
theorem Run.all {M : List Nat} {c n : Nat} (h : Run M c 0 n) (hn : n ≤ c) : SoB M 0 n := fun p q _ hpq hq => h p q (Nat.zero_le _) hpq hq (by rw [Nat.div_eq_of_lt (by omega), Nat.div_eq_of_lt (by omega)])
theorem SmL_AlO {L M : List Nat} {a b : Nat} (h : SmL L) (k : AlO L M a b) : SmL M := fun x hx => h x (k.2.1.mem_iff.1 hx)
theorem mul2 {c : Nat} (hc : c ≤ 2305843009213693952) : IntKind.i64.wrap (2 * (c : Int)) = ((2 * c : Nat) : Int) := by rw [wi (by omega)]; omega
theorem mul2' {c : Nat} (hc : c ≤ 2305843009213693952) : IntKind.i64.wrap ((c : Int) * 2) = ((2 * c : Nat) : Int) := by rw [wi (by omega)]; omega
theorem iaddB {a b : Nat} (ha : a ≤ 2305843009213693952) (hb : b ≤ 2305843009213693952) : IntKind.i64.wrap ((a : Int) + (b : Int)) = ((a + b : Nat) : Int) := by rw [wi (by omega)]; omega
def a48 : AC := .seq (.reg [qr 6 (.mv (.k (.i .i64 20)))])
 (.seq (.reg [qm 10 6,
 qr 7 (.mv (.k (.i .i64 0))),
 qm 8 10])
 (.seq (.blk 0
 (.loop
 (.seq (.seq (.reg [qm 11 8,
 qm 12 1,
 qr 13 (.bin .leq (.t 11) (.t 12))])
 (.cond (.t 13)
 (.skip)
 (.exit 0)))
 (.blk 1
 (.seq (.reg [qm 14 0,
 qm 15 7,
 qm 16 8,
 qm 17 2,
 qr 18 (.mcall 54 0 [(1, (.t 14)), (1, (.t 15)), (1, (.t 16)), (1, (.t 17))])])
 (.seq (.reg [qm 19 8,
 qm 7 19])
 (.reg [qm 20 8,
 qm 21 6,
 qr 22 (.bin .add (.t 20) (.t 21)),
 qm 8 22])))))))
 (.seq (.reg [qm 23 0,
 qm 24 7,
 qm 25 1,
 qm 26 2,
 qr 27 (.mcall 54 0 [(1, (.t 23)), (1, (.t 24)), (1, (.t 25)), (1, (.t 26))])])
 (.blk 2
 (.loop
 (.seq (.seq (.reg [qm 28 6,
 qm 29 1,
 qr 30 (.bin .lss (.t 28) (.t 29))])
 (.cond (.t 30)
 (.skip)
 (.exit 2)))
 (.blk 3
 (.seq (.reg [qm 31 6,
 qr 32 (.bin .mul (.k (.i .i64 2)) (.t 31)),
 qr 7 (.mv (.k (.i .i64 0))),
 qm 8 32])
 (.seq (.blk 4
 (.loop
 (.seq (.seq (.reg [qm 33 8,
 qm 34 1,
 qr 35 (.bin .leq (.t 33) (.t 34))])
 (.cond (.t 35)
 (.skip)
 (.exit 4)))
 (.blk 5
 (.seq (.reg [qm 36 0,
 qm 37 7,
 qm 38 7,
 qm 39 6,
 qr 40 (.bin .add (.t 38) (.t 39)),
 qm 41 8,
 qm 42 2,
 qr 43 (.mcall 55 0 [(1, (.t 36)), (1, (.t 37)), (1, (.t 40)), (1, (.t 41)), (1, (.t 42))])])
 (.seq (.reg [qm 44 8,
 qm 7 44])
 (.reg [qm 45 8,
 qm 46 6,
 qr 47 (.bin .mul (.k (.i .i64 2)) (.t 46)),
 qr 48 (.bin .add (.t 45) (.t 47)),
 qm 8 48])))))))
 (.seq (.seq (.reg [qm 49 7,
 qm 50 6,
 qr 51 (.bin .add (.t 49) (.t 50)),
 qm 9 51])
 (.seq (.reg [qm 52 9,
 qm 53 1,
 qr 54 (.bin .lss (.t 52) (.t 53))])
 (.cond (.t 54)
 (.reg [qm 55 0,
 qm 56 7,
 qm 57 9,
 qm 58 1,
 qm 59 2,
 qr 60 (.mcall 55 0 [(1, (.t 55)), (1, (.t 56)), (1, (.t 57)), (1, (.t 58)), (1, (.t 59))])])
 (.skip))))
 (.reg [qm 61 6,
 qr 62 (.bin .mul (.t 61) (.k (.i .i64 2))),
 qm 6 62])))))))))))
theorem stable_spec (L : List Nat) (hs : SmL L) (hl : L.length ≤ 1099511627776) : AFun Try.prog J0 48 [.o 23 1 (NV L), .i .i64 (L.length : Int), .c (.func (.func 26) #[] #[])] (.mu (.t []) (NV (srt L 0 L.length))) := by
  obtain ⟨n, hn⟩ : ∃ n, n = L.length := ⟨_, rfl⟩
  rw [← hn] at hl ⊢
  refine AFun.mkm (m := 0) fol J0s Try.func48 rfl (ac := a48) (by kernel_rfl) rfl rfl rfl rfl (by kernel_rfl) ?_
  apply vm_start
  unfold a48
  simp only [initL_eq, initE, lent, qm, qr, qn]
  rw [show (NV L).length / 1 = n from by rw [NV_len, Nat.div_one, hn]]
  refine spQ @bz_NS5 ?_
  refine vm_loopA [] (Nat × List Nat) (fun x => ⟨[(0, .ow 1 0 n), (1, .i .i64 (n : Int)), (2, .c (.func (.func 26) #[] #[])), (6, .i .i64 20), (7, .i .i64 ((20 * x.1 : Nat) : Int)), (8, .i .i64 ((20 * x.1 + 20 : Nat) : Int))], [(0, some ⟨23, 1, NV x.2, true, false⟩)], 1⟩)
    (fun x => 20 * x.1 ≤ n ∧ AlO L x.2 0 n ∧ Run x.2 20 0 (20 * x.1)) (fun x => n - 20 * x.1) (0, L) ⟨Nat.zero_le _, AlO.rfl, Run.none L 20⟩ (by exact leQ) (by
    exact ltQ) ?_
  rintro ⟨t, M⟩ ⟨ht, hM, hR⟩ Q' hQ he hr
  simp only [] at ht hM hR ⊢
  have lM : M.length = n := by rw [hM.1, hn]
  by_cases h : 20 * t + 20 ≤ n
  · have h' : ((20 * t + 20 : Nat) : Int) ≤ (n : Int) := by omega
    have c1 := insSort_spec M (20 * t) (20 * t + 20) (SmL_AlO hs hM) (by omega) (by omega) (by omega)
    obtain ⟨s1, s2⟩ := srt_spec M (show 20 * t ≤ 20 * t + 20 by omega) (by omega)
    have r1 := Run.add (M := M) (t := t) (y := 20 * t + 20) (by decide) hR (by omega) (by omega)
    have wa : IntKind.i64.wrap (((20 * t + 20 : Nat) : Int) + 20) = ((20 * (t + 1) + 20 : Nat) : Int) := by rw [wi (by omega)]; omega
    have e1 : ((20 * t + 20 : Nat) : Int) = ((20 * (t + 1) : Nat) : Int) := by omega
    refine wkQ (ai @wa (ai @h' @bz_NS5)) ?_
    refine hQ _ (t + 1, srt M (20 * t) (20 * t + 20)) ⟨by simp only; omega, hM.trans s1 (Nat.zero_le _) h, by simp only; rw [show 20 * (t + 1) = 20 * t + 20 from by omega]; exact r1⟩ (by simp only; omega) ?_
    simp (disch := (first | omega | assumption)) only [Sl, Sa, Sw, ↓reduceIte, Nat.reduceEqDiff, Nat.reduceLT, List.all_nil, List.all_cons, Nat.reduceBneDiff, Nat.reduceAdd, bne_iff_ne, ne_eq, reduceCtorEq, not_false_eq_true, not_true_eq_false, Bool.and_true, Bool.true_and, and_true, true_and, and_self, i_eq, e1]
    repeat' first | rfl | omega | (simp only [List.length_append, List.length_cons, List.length_nil]; done) | apply And.intro
  · have h' : ¬ ((20 * t + 20 : Nat) : Int) ≤ (n : Int) := by omega
    have c1 := insSort_spec M (20 * t) n (SmL_AlO hs hM) ht (by omega) (by omega)
    obtain ⟨s1, s2⟩ := srt_spec M (show 20 * t ≤ n by omega) (by omega)
    have r1 := Run.add (M := M) (t := t) (y := n) (by decide) hR ht (by omega)
    have hM1 := hM.trans s1 (Nat.zero_le _) (Nat.le_refl n)
    refine spQ (ai @h' @bz_NS5) ?_
    refine he _ _ ?_
    refine wkQ @bz_NS5 ?_
    generalize srt M (20 * t) n = N1 at *
    clear hM hR s1 s2 h h' lM hQ he hr c1
    refine vm_loopA [] (Nat × List Nat) (fun x => ⟨[(0, .ow 1 0 n), (1, .i .i64 (n : Int)), (2, .c (.func (.func 26) #[] #[])), (6, .i .i64 (x.1 : Int))], [(0, some ⟨23, 1, NV x.2, true, false⟩)], 1⟩)
      (fun x => 0 < x.1 ∧ x.1 ≤ 2 * n + 40 ∧ AlO L x.2 0 n ∧ Run x.2 x.1 0 n) (fun x => n - x.1) (20, N1) ⟨show 0 < 20 by decide, by simp only; omega, hM1, r1⟩ (by exact leQ) (by
      exact ltQ) ?_
    rintro ⟨c, M⟩ ⟨hc, hcn, hM, hR⟩ Q2 hQ2 he2 hr2
    simp only [] at hc hcn hM hR ⊢
    by_cases h : c < n
    · have h' : (c : Int) < (n : Int) := by omega
      have wm := mul2 (show c ≤ 2305843009213693952 by omega)
      have wm' := mul2' (show c ≤ 2305843009213693952 by omega)
      refine spQ (ai @wm (ai @h' @bz_NS5)) ?_
      refine vm_loopA [] (Nat × List Nat) (fun x => ⟨[(0, .ow 1 0 n), (1, .i .i64 (n : Int)), (2, .c (.func (.func 26) #[] #[])), (6, .i .i64 (c : Int)), (7, .i .i64 ((2 * c * x.1 : Nat) : Int)), (8, .i .i64 ((2 * c * x.1 + 2 * c : Nat) : Int))], [(0, some ⟨23, 1, NV x.2, true, false⟩)], 1⟩)
        (fun x => 2 * c * x.1 ≤ n ∧ AlO L x.2 0 n ∧ Run x.2 (2 * c) 0 (2 * c * x.1) ∧ Run x.2 c (2 * c * x.1) n) (fun x => n - 2 * c * x.1) (0, M) ⟨Nat.zero_le _, hM, by simp only; rw [Nat.mul_zero]; exact Run.none M _, by simp only; rw [Nat.mul_zero]; exact hR⟩ (by exact leQ) (by
        exact ltQ) ?_
      clear hM hR
      rintro ⟨t, M⟩ ⟨ht, hM, hR, hR2⟩ Q3 hQ3 he3 hr3
      simp only [] at ht hM hR hR2 ⊢
      have lM : M.length = n := by rw [hM.1, hn]
      have e2 : 2 * c * t = c * (2 * t) := by rw [Nat.mul_comm 2 c, Nat.mul_assoc]
      have e3 : c * (2 * t) + c = c * (2 * t + 1) := by rw [Nat.mul_succ]
      have e4 : 2 * c * (t + 1) = 2 * c * t + 2 * c := Nat.mul_succ _ _
      have sa := fun (v : Nat) (h1 : v ≤ 2 * c * t + c) (h2 : v ≤ n) => hR2.blk (t := 2 * t) (v := v) hc (by omega) (by omega) h2
      have sb := fun (v : Nat) (h1 : v ≤ 2 * c * t + c + c) (h2 : v ≤ n) => hR2.blk (t := 2 * t + 1) (v := v) hc (by omega) (by omega) h2
      rw [← e3, ← e2] at sb
      rw [← e2] at sa
      have ra := fun (y : Nat) (h1 : 2 * c * t ≤ y) (h2 : y ≤ n) => Run.add (M := M) (c := 2 * c) (t := t) (y := y) (by omega) hR h1 (by omega)
      have rb := fun (y : Nat) (h1 : 2 * c * t ≤ y) (h2 : y ≤ n) => hR2.rest (y := y) h1 (by omega)
      have rl := fun (h1 : n ≤ 2 * c * t + c) => Run.last (t := t) hR hR2 hc h1
      generalize 2 * c * t = a at *
      have wm2 := iaddB (show a ≤ 2305843009213693952 by omega) (show c ≤ 2305843009213693952 by omega)
      by_cases g : a + 2 * c ≤ n
      · have g' : ((a + 2 * c : Nat) : Int) ≤ (n : Int) := by omega
        have c1 := symM_spec (2 * c) M a (a + c) (a + 2 * c) (by omega) (SmL_AlO hs hM) (by omega) (by omega) (by omega) (by omega) (sa _ (Nat.le_refl _) (by omega)) (sb _ (by omega) g)
        obtain ⟨s1, s2⟩ := srt_spec M (show a ≤ a + 2 * c by omega) (by omega)
        have wn := iaddB (show a + 2 * c ≤ 2305843009213693952 by omega) (show 2 * c ≤ 2305843009213693952 by omega)
        refine wkQ (ai @wn (ai @wm2 (ai @wm (ai @g' @bz_NS5)))) ?_
        refine hQ3 _ (t + 1, srt M a (a + 2 * c)) ⟨by simp only; omega, hM.trans s1 (Nat.zero_le _) g, by simp only; rw [e4]; exact ra _ (by omega) g, by simp only; rw [e4]; exact rb _ (by omega) g⟩ (by simp only; omega) ?_
        simp (disch := (first | omega | assumption)) only [Sl, Sa, Sw, ↓reduceIte, Nat.reduceEqDiff, Nat.reduceLT, List.all_nil, List.all_cons, Nat.reduceBneDiff, Nat.reduceAdd, bne_iff_ne, ne_eq, reduceCtorEq, not_false_eq_true, not_true_eq_false, Bool.and_true, Bool.true_and, and_true, true_and, and_self, i_eq, e4]
        repeat' first | rfl | omega | (simp only [List.length_append, List.length_cons, List.length_nil]; done) | apply And.intro
      · have g' : ¬ ((a + 2 * c : Nat) : Int) ≤ (n : Int) := by omega
        refine spQ (ai @g' @bz_NS5) ?_
        refine he3 _ _ ?_
        by_cases k : a + c < n
        · have k' : ((a + c : Nat) : Int) < (n : Int) := by omega
          have c1 := symM_spec n M a (a + c) n (by omega) (SmL_AlO hs hM) (by omega) k (by omega) (by omega) (sa _ (Nat.le_refl _) (by omega)) (sb _ (by omega) (Nat.le_refl _))
          obtain ⟨s1, s2⟩ := srt_spec M (show a ≤ n by omega) (by omega)
          refine wkQ (ai @wm' (ai @wm2 (ai @k' @bz_NS5))) ?_
          refine hQ2 _ (2 * c, srt M a n) ⟨by simp only; omega, by simp only; omega, hM.trans s1 (Nat.zero_le _) (Nat.le_refl n), ra n ht (Nat.le_refl n)⟩ (by simp only; omega) ?_
          exact ltQ
        · have k' : ¬ ((a + c : Nat) : Int) < (n : Int) := by omega
          refine spQ (ai @wm' (ai @wm2 (ai @k' @bz_NS5))) ?_
          refine hQ2 _ (2 * c, M) ⟨by simp only; omega, by simp only; omega, hM, rl (by omega)⟩ (by simp only; omega) ?_
          exact ltQ
    · have h' : ¬ (c : Int) < (n : Int) := by omega
      have e : M = srt L 0 n := srt_of hM (hR.all (by omega)) (Nat.zero_le _) (by omega)
      subst e
      refine spQ (ai @h' @bz_NS5) ?_
      refine he2 _ _ ?_
      exact ⟨0, rfl, rfl⟩
def a35 : AC := .reg [qm 4 0,
 qm 5 0,
 qr 6 (.len (.t 5)),
 qm 7 1,
 qr 8 (.mcall 48 0 [(1, (.t 4)), (1, (.t 6)), (1, (.t 7))])]
end Go.Proofs.Ytdafakcccjjpiaa
