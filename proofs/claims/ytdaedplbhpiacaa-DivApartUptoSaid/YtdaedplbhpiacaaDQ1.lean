/-
  div: answers as memory of the caller's own.
-/
import Derived.Test.YtdaedplbhpiacaaDQ0
import Derived.Test.YtdaedplbhpiacaaHD
import Derived.Test.YtdaedplbhpiacaaGG
import Derived.Test.YtdaedplbhpiacaaDG
namespace Go.Proofs.Ytdaedplbhpiacaa
open Go Go.RowKit Ab
set_option linter.unusedSimpArgs false
set_option linter.unusedVariables false
set_option maxHeartbeats 10000000
theorem bz_DQ1 : type_of% (And.intro @wi (And.intro @tn_nat (And.intro @Nat.div_one (And.intro @Nat.mul_one (And.intro @W_len (And.intro @W_nf (And.intro @W_cell (And.intro @W_nil (@W_get))))))))) := And.intro @wi (And.intro @tn_nat (And.intro @Nat.div_one (And.intro @Nat.mul_one (And.intro @W_len (And.intro @W_nf (And.intro @W_cell (And.intro @W_nil (@W_get))))))))
theorem wordO (a : List Nat) (w : Nat) (ha : Wd a) (hw0 : 0 < w) (hw : w < 18446744073709551616) (la : a.length ≤ 1099511627776) :
    AFun Try.prog J0 10 [.l 1 (W a), .i .u64 (w : Int)] (.to 24 1 (W (dg B (nv B a / w))) [.i .u64 ((nv B a % w : Nat) : Int), .i .i64 0]) := by
  have hno := norm_spec (fl B a.length (nv B a / w)) (by rw [fl_len]; omega)
  rw [dg_fl B2 (Nat.lt_of_le_of_lt (Nat.div_le_self _ _) (nv_lt ha))] at hno
  refine AFun.mkt fol J0s Try.func10 rfl (ac := a10) (by kernel_rfl) rfl (by decide) rfl (by decide) ?_
  apply vm_start
  unfold a10
  simp only [init_eq, initE, qm, qr, qn]
  have zc1 := divOne_spec a w ha hw0 hw la
  refine wkQ (ai @lnilA @bz_DQ1) ?_
  exact ⟨⟨_, _, rfl, rfl, rfl⟩, ⟨rfl, rfl⟩, ⟨rfl, rfl⟩, trivial⟩
theorem digO (a : List Nat) (b : Nat) (ha : Wd a) (hb : b < 18446744073709551616) (hb2 : 2 ≤ b) (la : a.length ≤ 10000000) :
    AFun Try.prog J0 12 [.l 1 (W a), .i .u64 (b : Int)] (.to 24 1 (W (dg b (nv B a))) [.i .i64 0]) := by
  refine AFun.mkt fol J0s Try.func12 rfl (ac := a12) (by kernel_rfl) rfl (by decide) rfl (by decide) ?_
  apply vm_start
  unfold a12
  simp only [init_eq, initE, qm, qr, qn]
  have h0 : ¬ (b : Int) < 2 := by omega
  have hn := (norm_dg a ha (by omega)).frozen
  have hA := nv_lt ha
  have hw := fun x (hx : x < B ^ a.length) => word_spec (dg B x) b (Wd_dg x) (by omega) hb (by have := dlen hx; omega)
  simp only [nv_dgB] at hw
  generalize nv B a = u at *
  have hbig : ∀ i, 0 < u / b ^ i → i < 64 * a.length := fun i h => by
    have h1 : b ^ i ≤ u := by
      rcases Nat.lt_or_ge u (b ^ i) with h2 | h2
      · rw [Nat.div_eq_of_lt h2] at h; omega
      · exact h2
    have h2 : 2 ^ i ≤ b ^ i := Nat.pow_le_pow_left hb2 i
    have h3 : 2 ^ i < 2 ^ (64 * a.length) := by rw [Nat.pow_mul, show (2 : Nat) ^ 64 = B from rfl]; omega
    exact (Nat.pow_lt_pow_iff_right (by decide : 1 < 2)).1 h3
  have hbigl : ∀ i, (i = 0 ∨ 0 < u / b ^ (i - 1)) → i ≤ 64 * a.length := fun i h => by
    rcases h with h | h
    · omega
    · have := hbig _ h; omega
  refine wkQ (ai @h0 (ai @lnilA @bz_DQ1)) ?_
  refine vm_loopA [(6, 24, 1)] Nat (fun i => ⟨[(1, .i .u64 (b : Int)), (6, .ow 1 0 i), (7, .l 1 (W (dg B (u / b ^ i))))], [(0, some ⟨24, 1, W (fl b i u), true, false⟩)], 1⟩)
    (fun i => i = 0 ∨ 0 < u / b ^ (i - 1)) (fun i => u / b ^ i) 0 (.inl rfl) (by exact leQ) (by
    simp (disch := (first | omega | assumption)) only [Sl, Sa, Sw, ↓reduceIte, Nat.reduceEqDiff, Nat.reduceLT, List.all_nil, List.all_cons, Nat.reduceBneDiff, Nat.reduceAdd, bne_iff_ne, ne_eq, reduceCtorEq, not_false_eq_true, not_true_eq_false, Bool.and_true, Bool.true_and, and_true, true_and, and_self, i_eq]
    rw [Nat.pow_zero, Nat.div_one]
    repeat' first | rfl | omega | (simp only [List.length_append, List.length_cons, List.length_nil]; done) | apply And.intro) ?_
  intro i hi Q' hQ he hr
  have hil := hbigl i hi
  by_cases h1 : u / b ^ i = 0
  · have e : fl b i u = dg b u := by
      refine fl_full hb2 (hi.imp id fun h => ?_) ?_
      · rcases Nat.lt_or_ge u (b ^ (i - 1)) with h2 | h2
        · rw [Nat.div_eq_of_lt h2] at h; omega
        · exact h2
      · rcases Nat.lt_or_ge u (b ^ i) with h2 | h2
        · exact h2
        · have := (Nat.le_div_iff_mul_le (Nat.pow_pos (by omega : 0 < b))).2 (by rw [Nat.one_mul]; exact h2 : 1 * b ^ i ≤ u)
          omega
    rw [h1, dg_zero]
    refine spQ (ai @lnilA @bz_DQ1) ?_
    refine he _ _ ?_
    refine spQ (ai @e (ai @lnilA @bz_DQ1)) ?_
    exact ⟨⟨_, _, rfl, rfl, rfl⟩, ⟨rfl, rfl⟩, trivial⟩
  · have hp : 0 < u / b ^ i := Nat.pos_of_ne_zero h1
    have hx : u / b ^ i < B ^ a.length := Nat.lt_of_le_of_lt (Nat.div_le_self _ _) hA
    have hwi := hw _ hx
    have hlt : u / b ^ i / b < u / b ^ i := Nat.div_lt_self hp (by omega)
    rw [Nat.div_div_eq_div_mul, ← Nat.pow_succ] at hwi hlt
    have hpos : (0 : Int) < (((dg B (u / b ^ i)).length : Nat) : Int) := by
      have : (dg B (u / b ^ i)).length ≠ 0 := fun h => h1 ((dg_nil B2).1 (List.eq_nil_of_length_eq_zero h))
      omega
    repeat first | (refine hK _ ?_; clear hK K) | simp only [Sv, ↓reduceIte, Nat.reduceEqDiff] | ((first | refine vm_reg (fun K hK => ?_) | refine vm_dreg (fun K hK => ?_) | refine vm_dregx (fun K hK => ?_) | refine clp_q ?_ | refine clq_mk (by assumption) ?_ | refine mcq_q ?_ | (apply mcr_mk; assumption) | (apply ocr_mk; assumption)); simp (disch := (first | omega | assumption)) only [S1, ↓reduceIte, Nat.reduceEqDiff, Nat.reduceAdd, Nat.reduceMul, Nat.reduceDiv, AOp.sb, AOp.mut, frzf, ↓Bool.false_eq_true, beq_self_eq_true, ite_self, Nat.reduceLeDiff, Int.reduceEq, Int.reduceSub, Int.reduceAdd, Int.reduceNeg, Int.reduceLT, Int.reduceLE, Nat.reduceLT, bz_DQ1, List.length_nil, hpos, W_app1, ← fl_succ])
    refine hQ _ (i + 1) (.inr hp) hlt ?_
    exact ltQ
end Go.Proofs.Ytdaedplbhpiacaa
