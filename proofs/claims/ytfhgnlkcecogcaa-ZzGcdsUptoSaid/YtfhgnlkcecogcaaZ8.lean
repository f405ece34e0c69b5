/-
  surdref07.Gcd.
-/
import Derived.Test.YtfhgnlkcecogcaaZ7
namespace Go.Proofs.Ytfhgnlkcecogcaa
open Go Go.RowKit Ab
set_option linter.unusedSimpArgs false
set_option linter.unusedVariables false
set_option maxHeartbeats 10000000
theorem bz_Z8 : type_of% (And.intro @Bool.false_and (And.intro @wi (And.intro @tn_nat (And.intro @Nat.div_one (And.intro @Nat.mul_one (And.intro @W_len (And.intro @W_nf (And.intro @W_cell (And.intro @W_nil (And.intro @W_get (@nf_g))))))))))) := And.intro @Bool.false_and (And.intro @wi (And.intro @tn_nat (And.intro @Nat.div_one (And.intro @Nat.mul_one (And.intro @W_len (And.intro @W_nf (And.intro @W_cell (And.intro @W_nil (And.intro @W_get (@nf_g))))))))))

def gV : Bool → Nat → V
  | false, _ => .nl
  | true, g => .l 1 (W (dg B g))
theorem leV_gV {s : St} {r : List (Nat × Nat)} {nx t : Nat} {f : Bool} {g : Nat} : leV s r nx t (gV f g) = (s.get t = gV f g) := by cases f <;> rfl
-- surd/surdref07.Gcd
def a9 : AC := .seq (.reg [⟨some 2, none, .mv (.k .nl)⟩])
  (.seq (.reg [⟨some 3, none, .mv (.k .nl)⟩])
  (.seq (.seq (.reg [⟨some 4, none, .mv (.k (.i .i64 0))⟩])
    (.blk 0
    (.loop
      (.seq (.seq (.reg [⟨some 8, none, .mv (.t 4)⟩, 
              ⟨some 9, none, .mv (.t 0)⟩, 
              ⟨some 10, none, .len (.t 9)⟩, 
              ⟨some 11, none, .bin .lss (.t 8) (.t 10)⟩])
          (.cond (.t 11)
          (.skip)
          (.exit 0)))
        (.seq (.blk 1
          (.seq (.reg [⟨some 14, none, .mv (.t 0)⟩, 
                ⟨some 15, none, .mv (.t 4)⟩, 
                ⟨some 16, none, .idx 2 (.t 14) (.t 15)⟩, 
                ⟨some 17, none, .fad 1 (.t 16)⟩, 
                ⟨some 18, none, .ld false 1 (.t 17)⟩, 
                ⟨some 19, none, .call 31 [(1, (.t 18))]⟩, 
                ⟨some 5, none, .mv (.t 19)⟩])
            (.blk 2
            (.loop
              (.seq (.seq (.reg [⟨some 20, none, .mv (.t 5)⟩, 
                      ⟨some 21, none, .len (.t 20)⟩, 
                      ⟨some 22, none, .bin .gtr (.t 21) (.k (.i .i64 0))⟩])
                  (.cond (.t 22)
                  (.skip)
                  (.exit 2)))
                (.blk 3
                (.seq (.reg [⟨some 24, none, .mv (.t 3)⟩, 
                      ⟨some 25, none, .mv (.t 5)⟩, 
                      ⟨some 26, none, .call 32 [(1, (.t 24)), (1, (.t 25))]⟩, 
                      ⟨some 23, none, .mv (.t 26)⟩, 
                      ⟨some 27, none, .ext (.t 23) 0⟩, 
                      ⟨some 28, none, .ext (.t 23) 1⟩, 
                      ⟨some 6, none, .mv (.t 27)⟩, 
                      ⟨some 7, none, .mv (.t 28)⟩])
                  (.reg [⟨some 29, none, .mv (.t 5)⟩, 
                    ⟨some 30, none, .mv (.t 6)⟩, 
                    ⟨some 3, none, .mv (.t 29)⟩, 
                    ⟨some 5, none, .mv (.t 30)⟩]))))))))
        (.reg [⟨some 12, none, .mv (.t 4)⟩, 
          ⟨some 13, none, .bin .add (.t 12) (.k (.i .i64 1))⟩, 
          ⟨some 4, none, .mv (.t 13)⟩]))))))
  (.seq (.reg [⟨some 31, none, .mv (.t 3)⟩, 
      ⟨some 2, none, .mv (.t 31)⟩])
  (.ret))))
theorem rzgcd_spec (l : List (Bool × List Nat)) (m : Nat) (hm : m ≤ 1000000000) (ll : l.length ≤ 1000000000) (hl : ∀ p, p ∈ l → Wd p.2 ∧ p.2.length ≤ m) :
    AFun Try.prog J0 9 [.l 2 (ZC l)] (.l 1 (W (dg B (gf l)))) := by
  have hlen : (ZC l).length / 2 = l.length := by rw [ZC_len]; omega
  have hmo := fun x y (hx : x < B ^ m) (hy : y < B ^ m) => rmod_spec (dg B x) (dg B y) (Wd_dg _) (Wd_dg _) (Nat.le_trans (dlen hx) hm) (Nat.le_trans (dlen hy) hm)
  simp only [nv_dgB] at hmo
  have e0 : W (dg B 0) = [] := by rw [dg_zero]; rfl
  refine AFun.mk fol J0s Try.func9 rfl (ac := a9) (by kernel_rfl) rfl rfl ?_
  apply vm_start
  unfold a9
  simp only [init_eq, initE]
  repeat first
    | (refine hK _ ?_; clear hK K)
    | ((first | refine vm_reg (fun K hK => ?_) | refine vm_dreg (fun K hK => ?_)); simp (disch := (first | omega | assumption)) only [S1, ↓reduceIte, Nat.reduceEqDiff, Nat.reduceAdd, Nat.reduceMul, Nat.reduceDiv, AOp.sb, AOp.mut, ↓Bool.false_eq_true, beq_self_eq_true, ite_self, Nat.reduceLeDiff, Int.reduceEq, Int.reduceSub, Int.reduceAdd, Int.reduceNeg, Int.reduceLT, Int.reduceLE, Nat.reduceLT, bz_Z8, List.length_nil]; refine hK _ ?_; clear hK K)
    | simp only [Sv, ↓reduceIte, Nat.reduceEqDiff]
  refine vm_loopA [] (Nat × Bool) (fun s => ⟨[(0, .l 2 (ZC l)), (3, gV s.2 (gf (l.take s.1))), (4, .i .i64 (s.1 : Int))], [], 0⟩)
    (fun s => s.1 ≤ l.length ∧ (s.2 = false → gf (l.take s.1) = 0)) (fun s => l.length - s.1) (0, false) ⟨Nat.zero_le _, fun _ => rfl⟩ (by simp (disch := (first | omega | assumption)) only [Sl, Sa, Sw, ↓reduceIte, Nat.reduceEqDiff, Nat.reduceLT, List.all_nil, List.all_cons, Nat.reduceBneDiff, Nat.reduceAdd, bne_iff_ne, ne_eq, reduceCtorEq, not_false_eq_true, not_true_eq_false, Bool.and_true, Bool.true_and, and_true, true_and, and_self]) (by
    simp (disch := (first | omega | assumption)) only [Sl, Sa, Sw, ↓reduceIte, Nat.reduceEqDiff, Nat.reduceLT, List.all_nil, List.all_cons, Nat.reduceBneDiff, Nat.reduceAdd, bne_iff_ne, ne_eq, reduceCtorEq, not_false_eq_true, not_true_eq_false, Bool.and_true, Bool.true_and, and_true, true_and, and_self, i_eq, gV]
    try rfl) ?_
  rintro ⟨i, f⟩ ⟨hi, hf⟩ Q' hQ he hr
  simp only [] at hi hf ⊢
  by_cases h : (i : Int) < (l.length : Int)
  · have h0 : i < l.length := by omega
    obtain ⟨r1, r2⟩ := ZC_row l i h0
    have hz := ZC_len l
    have hmem : l.getD i (false, []) ∈ l := by rw [List.getD_eq_getElem?_getD, List.getElem?_eq_getElem h0]; exact List.getElem_mem h0
    obtain ⟨wa, la⟩ := hl _ hmem
    have hgs := gf_succ h0
    have hgl := gf_lt (l := l.take i) (m := m) fun p hp => hl p (List.mem_of_mem_take hp)
    have hn := (rnorm_spec (l.getD i (false, [])).2 wa (by omega)).frozen
    have hb := nvlt wa la
    generalize l.getD i (false, []) = p at *
    have hd : l.length * 2 / 2 = l.length := by omega
    have zc1 := hn
    repeat first | (refine hK _ ?_; clear hK K) | simp only [Sv, ↓reduceIte, Nat.reduceEqDiff] | ((first | refine vm_reg (fun K hK => ?_) | refine vm_dreg (fun K hK => ?_) | refine clp_q ?_ | refine clq_mk (by assumption) ?_); simp (disch := (first | omega | assumption)) only [S1, ↓reduceIte, Nat.reduceEqDiff, Nat.reduceAdd, Nat.reduceMul, Nat.reduceDiv, AOp.sb, AOp.mut, ↓Bool.false_eq_true, beq_self_eq_true, ite_self, Nat.reduceLeDiff, Int.reduceEq, Int.reduceSub, Int.reduceAdd, Int.reduceNeg, Int.reduceLT, Int.reduceLE, Nat.reduceLT, bz_Z8, List.length_nil, hlen, hd, h, r2, hz, i_eq])
    refine vm_loopA [] (Bool × Nat × Nat) (fun s => ⟨[(0, .l 2 (ZC l)), (3, gV s.1 s.2.1), (4, .i .i64 (i : Int)), (5, .l 1 (W (dg B s.2.2)))], [], 0⟩)
      (fun s => s.2.1 < B ^ m ∧ s.2.2 < B ^ m ∧ Nat.gcd s.2.1 s.2.2 = gf (l.take (i + 1)) ∧ (s.1 = false → s.2.1 = 0)) (fun s => s.2.2) (f, gf (l.take i), nv B p.2) ⟨hgl, hb, hgs.symm, hf⟩ (by simp (disch := (first | omega | assumption)) only [Sl, Sa, Sw, ↓reduceIte, Nat.reduceEqDiff, Nat.reduceLT, List.all_nil, List.all_cons, Nat.reduceBneDiff, Nat.reduceAdd, bne_iff_ne, ne_eq, reduceCtorEq, not_false_eq_true, not_true_eq_false, Bool.and_true, Bool.true_and, and_true, true_and, and_self]) (by
      simp (disch := (first | omega | assumption)) only [Sl, Sa, Sw, ↓reduceIte, Nat.reduceEqDiff, Nat.reduceLT, List.all_nil, List.all_cons, Nat.reduceBneDiff, Nat.reduceAdd, bne_iff_ne, ne_eq, reduceCtorEq, not_false_eq_true, not_true_eq_false, Bool.and_true, Bool.true_and, and_true, true_and, and_self, i_eq, leV_gV]
      try rfl) ?_
    rintro ⟨f', x, y⟩ ⟨hx, hy, hg, hf'⟩ Q2 hQ2 he2 hr2
    simp only [] at hx hy hg hf' ⊢
    by_cases h1 : y = 0
    · subst h1
      rw [Nat.gcd_zero_right] at hg
      have hp : ¬ (0 : Int) < (((dg B 0).length : Nat) : Int) := by rw [dg_zero]; decide
      repeat first
        | (refine hK _ ?_; clear hK K)
        | ((first | refine vm_reg (fun K hK => ?_) | refine vm_dreg (fun K hK => ?_)); simp (disch := (first | omega | assumption)) only [S1, ↓reduceIte, Nat.reduceEqDiff, Nat.reduceAdd, Nat.reduceMul, Nat.reduceDiv, AOp.sb, AOp.mut, ↓Bool.false_eq_true, beq_self_eq_true, ite_self, Nat.reduceLeDiff, Int.reduceEq, Int.reduceSub, Int.reduceAdd, Int.reduceNeg, Int.reduceLT, Int.reduceLE, Nat.reduceLT, bz_Z8, List.length_nil, hp]; refine hK _ ?_; clear hK K)
        | simp only [Sv, ↓reduceIte, Nat.reduceEqDiff]
      refine he2 _ _ ?_
      repeat first
        | (refine hK _ ?_; clear hK K)
        | ((first | refine vm_reg (fun K hK => ?_) | refine vm_dreg (fun K hK => ?_)); simp (disch := (first | omega | assumption)) only [S1, ↓reduceIte, Nat.reduceEqDiff, Nat.reduceAdd, Nat.reduceMul, Nat.reduceDiv, AOp.sb, AOp.mut, ↓Bool.false_eq_true, beq_self_eq_true, ite_self, Nat.reduceLeDiff, Int.reduceEq, Int.reduceSub, Int.reduceAdd, Int.reduceNeg, Int.reduceLT, Int.reduceLE, Nat.reduceLT, bz_Z8, List.length_nil]; refine hK _ ?_; clear hK K)
        | simp only [Sv, ↓reduceIte, Nat.reduceEqDiff]
      refine hQ _ (i + 1, f') ⟨h0, fun h => by rw [← hg]; exact hf' h⟩ (by simp only; omega) ?_
      simp only []
      rw [← hg]
      simp (disch := (first | omega | assumption)) only [Sl, Sa, Sw, ↓reduceIte, Nat.reduceEqDiff, Nat.reduceLT, List.all_nil, List.all_cons, Nat.reduceBneDiff, Nat.reduceAdd, bne_iff_ne, ne_eq, reduceCtorEq, not_false_eq_true, not_true_eq_false, Bool.and_true, Bool.true_and, and_true, true_and, and_self, i_eq, leV_gV]
      repeat' first | rfl | omega | (simp only [List.length_append, List.length_cons, List.length_nil]; done) | apply And.intro
    · have hp : 0 < y := Nat.pos_of_ne_zero h1
      have hc := hmo x y hx hy
      rw [qR_p hp, qE_p hp] at hc
      have hp2 := dg_pos (n := y)
      have hlt := Nat.mod_lt x hp
      cases f' with
      | false =>
        obtain rfl := hf' rfl
        rw [e0] at hc
        simp only [gV]
        have zc2 := hc
        repeat first | (refine hK _ ?_; clear hK K) | simp only [Sv, ↓reduceIte, Nat.reduceEqDiff] | ((first | refine vm_reg (fun K hK => ?_) | refine vm_dreg (fun K hK => ?_) | refine clp_q ?_ | refine clq_mk (by assumption) ?_); simp (disch := (first | omega | assumption)) only [S1, ↓reduceIte, Nat.reduceEqDiff, Nat.reduceAdd, Nat.reduceMul, Nat.reduceDiv, AOp.sb, AOp.mut, ↓Bool.false_eq_true, beq_self_eq_true, ite_self, Nat.reduceLeDiff, Int.reduceEq, Int.reduceSub, Int.reduceAdd, Int.reduceNeg, Int.reduceLT, Int.reduceLE, Nat.reduceLT, bz_Z8, List.length_nil, hp2, hp])
        refine hQ2 _ (true, y, 0 % y) ⟨hy, Nat.lt_trans hlt hy, ?_, fun h => by cases h⟩ hlt ?_
        · simp only []
          rw [← hg, Nat.gcd_comm 0 y, Nat.gcd_rec y 0, Nat.gcd_comm]
        · simp (disch := (first | omega | assumption)) only [Sl, Sa, Sw, ↓reduceIte, Nat.reduceEqDiff, Nat.reduceLT, List.all_nil, List.all_cons, Nat.reduceBneDiff, Nat.reduceAdd, bne_iff_ne, ne_eq, reduceCtorEq, not_false_eq_true, not_true_eq_false, Bool.and_true, Bool.true_and, and_true, true_and, and_self, i_eq, gV]
          repeat' first | rfl | omega | (simp only [List.length_append, List.length_cons, List.length_nil]; done) | apply And.intro
      | true =>
        simp only [gV]
        have zc3 := hc
        repeat first | (refine hK _ ?_; clear hK K) | simp only [Sv, ↓reduceIte, Nat.reduceEqDiff] | ((first | refine vm_reg (fun K hK => ?_) | refine vm_dreg (fun K hK => ?_) | refine clp_q ?_ | refine clq_mk (by assumption) ?_); simp (disch := (first | omega | assumption)) only [S1, ↓reduceIte, Nat.reduceEqDiff, Nat.reduceAdd, Nat.reduceMul, Nat.reduceDiv, AOp.sb, AOp.mut, ↓Bool.false_eq_true, beq_self_eq_true, ite_self, Nat.reduceLeDiff, Int.reduceEq, Int.reduceSub, Int.reduceAdd, Int.reduceNeg, Int.reduceLT, Int.reduceLE, Nat.reduceLT, bz_Z8, List.length_nil, hp2, hp])
        refine hQ2 _ (true, y, x % y) ⟨hy, Nat.lt_trans hlt hy, ?_, fun h => by cases h⟩ hlt ?_
        · simp only []
          rw [← hg, Nat.gcd_comm x y, Nat.gcd_rec y x, Nat.gcd_comm]
        · simp (disch := (first | omega | assumption)) only [Sl, Sa, Sw, ↓reduceIte, Nat.reduceEqDiff, Nat.reduceLT, List.all_nil, List.all_cons, Nat.reduceBneDiff, Nat.reduceAdd, bne_iff_ne, ne_eq, reduceCtorEq, not_false_eq_true, not_true_eq_false, Bool.and_true, Bool.true_and, and_true, true_and, and_self, i_eq, gV]
          repeat' first | rfl | omega | (simp only [List.length_append, List.length_cons, List.length_nil]; done) | apply And.intro
  · have hil : i = l.length := by omega
    have ht : l.take i = l := by rw [hil, List.take_length]
    rw [ht] at hf ⊢
    repeat first
      | (refine hK _ ?_; clear hK K)
      | ((first | refine vm_reg (fun K hK => ?_) | refine vm_dreg (fun K hK => ?_)); simp (disch := (first | omega | assumption)) only [S1, ↓reduceIte, Nat.reduceEqDiff, Nat.reduceAdd, Nat.reduceMul, Nat.reduceDiv, AOp.sb, AOp.mut, ↓Bool.false_eq_true, beq_self_eq_true, ite_self, Nat.reduceLeDiff, Int.reduceEq, Int.reduceSub, Int.reduceAdd, Int.reduceNeg, Int.reduceLT, Int.reduceLE, Nat.reduceLT, bz_Z8, List.length_nil, hlen, h]; refine hK _ ?_; clear hK K)
      | simp only [Sv, ↓reduceIte, Nat.reduceEqDiff]
    refine he _ _ ?_
    cases f with
    | false =>
      rw [hf rfl, e0]
      repeat first
        | (refine hK _ ?_; clear hK K)
        | ((first | refine vm_reg (fun K hK => ?_) | refine vm_dreg (fun K hK => ?_)); simp (disch := (first | omega | assumption)) only [S1, ↓reduceIte, Nat.reduceEqDiff, Nat.reduceAdd, Nat.reduceMul, Nat.reduceDiv, AOp.sb, AOp.mut, ↓Bool.false_eq_true, beq_self_eq_true, ite_self, Nat.reduceLeDiff, Int.reduceEq, Int.reduceSub, Int.reduceAdd, Int.reduceNeg, Int.reduceLT, Int.reduceLE, Nat.reduceLT, bz_Z8, List.length_nil, gV]; refine hK _ ?_; clear hK K)
        | simp only [Sv, ↓reduceIte, Nat.reduceEqDiff]
      simp (disch := (first | omega | assumption)) only [retOk, retN, ret1, retF, ret1F, V.okArg, and_true, true_and, S1, ↓reduceIte, Nat.reduceEqDiff, Nat.reduceAdd, Nat.reduceMul, Nat.reduceDiv, AOp.sb, AOp.mut, ↓Bool.false_eq_true, beq_self_eq_true, ite_self, Nat.reduceLeDiff, Int.reduceEq, Int.reduceSub, Int.reduceAdd, Int.reduceNeg, Int.reduceLT, Int.reduceLE, Nat.reduceLT, bz_Z8, List.length_nil]
    | true =>
      repeat first
        | (refine hK _ ?_; clear hK K)
        | ((first | refine vm_reg (fun K hK => ?_) | refine vm_dreg (fun K hK => ?_)); simp (disch := (first | omega | assumption)) only [S1, ↓reduceIte, Nat.reduceEqDiff, Nat.reduceAdd, Nat.reduceMul, Nat.reduceDiv, AOp.sb, AOp.mut, ↓Bool.false_eq_true, beq_self_eq_true, ite_self, Nat.reduceLeDiff, Int.reduceEq, Int.reduceSub, Int.reduceAdd, Int.reduceNeg, Int.reduceLT, Int.reduceLE, Nat.reduceLT, bz_Z8, List.length_nil, gV]; refine hK _ ?_; clear hK K)
        | simp only [Sv, ↓reduceIte, Nat.reduceEqDiff]
      simp (disch := (first | omega | assumption)) only [retOk, retN, ret1, retF, ret1F, V.okArg, and_true, true_and, S1, ↓reduceIte, Nat.reduceEqDiff, Nat.reduceAdd, Nat.reduceMul, Nat.reduceDiv, AOp.sb, AOp.mut, ↓Bool.false_eq_true, beq_self_eq_true, ite_self, Nat.reduceLeDiff, Int.reduceEq, Int.reduceSub, Int.reduceAdd, Int.reduceNeg, Int.reduceLT, Int.reduceLE, Nat.reduceLT, bz_Z8, List.length_nil]
end Go.Proofs.Ytfhgnlkcecogcaa
