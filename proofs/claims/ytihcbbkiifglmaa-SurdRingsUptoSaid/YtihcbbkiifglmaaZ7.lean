/-
  gcd, zz.Gcd, surdref07.Gcd.
-/
import Derived.Test.YtihcbbkiifglmaaZ4
import Derived.Test.YtihcbbkiifglmaaZC
namespace Go.Proofs.Ytihcbbkiifglmaa
open Go Go.RowKit Ab
set_option linter.unusedSimpArgs false
set_option linter.unusedVariables false
set_option maxHeartbeats 10000000
theorem bz_Z7 : type_of% (And.intro @Bool.false_and (And.intro @wi (And.intro @tn_nat (And.intro @Nat.div_one (And.intro @Nat.mul_one (And.intro @W_len (And.intro @W_nf (And.intro @W_cell (And.intro @W_nil (And.intro @W_get (@nf_g))))))))))) := And.intro @Bool.false_and (And.intro @wi (And.intro @tn_nat (And.intro @Nat.div_one (And.intro @Nat.mul_one (And.intro @W_len (And.intro @W_nf (And.intro @W_cell (And.intro @W_nil (And.intro @W_get (@nf_g))))))))))

/-- the gcd so far -/
def gf (l : List (Bool × List Nat)) : Nat := l.foldl (fun g p => Nat.gcd g (nv B p.2)) 0
theorem gf_succ {l : List (Bool × List Nat)} {i : Nat} (h : i < l.length) : gf (l.take (i + 1)) = Nat.gcd (gf (l.take i)) (nv B (l.getD i (false, [])).2) := by
  unfold gf
  rw [List.take_succ_eq_append_getElem h, List.foldl_append, List.getD_eq_getElem?_getD, List.getElem?_eq_getElem h]; rfl
theorem gf_lt {l : List (Bool × List Nat)} {m : Nat} (h : ∀ p, p ∈ l → Wd p.2 ∧ p.2.length ≤ m) : gf l < B ^ m := by
  have key : ∀ (l : List (Bool × List Nat)) (g : Nat), g < B ^ m → (∀ p, p ∈ l → Wd p.2 ∧ p.2.length ≤ m) → l.foldl (fun g p => Nat.gcd g (nv B p.2)) g < B ^ m := by
    intro l
    induction l with
    | nil => intro g hg _; exact hg
    | cons p r ih =>
      intro g hg hp
      refine ih _ ?_ fun q hq => hp q (List.mem_cons_of_mem _ hq)
      obtain ⟨h1, h2⟩ := hp p List.mem_cons_self
      rcases Nat.eq_zero_or_pos g with h0 | h0
      · show Nat.gcd g (nv B p.2) < B ^ m
        rw [h0, Nat.gcd_zero_left]; exact nvlt h1 h2
      · exact Nat.lt_of_le_of_lt (Nat.le_of_dvd h0 (Nat.gcd_dvd_left _ _)) hg
  exact key l 0 (Nat.pow_pos (by decide)) h
-- surd/gcd.mod
def a48 : AC := .seq (.reg [⟨some 4, none, .mv (.k .nl)⟩])
  (.seq (.reg [⟨some 8, none, .mv (.t 0)⟩, 
      ⟨some 9, none, .mv (.t 1)⟩, 
      ⟨some 10, none, .call 56 [(1, (.t 8)), (1, (.t 9))]⟩, 
      ⟨some 7, none, .mv (.t 10)⟩, 
      ⟨some 11, none, .ext (.t 7) 0⟩, 
      ⟨some 12, none, .ext (.t 7) 1⟩, 
      ⟨some 5, none, .mv (.t 11)⟩, 
      ⟨some 6, none, .mv (.t 12)⟩])
  (.seq (.reg [⟨some 13, none, .mv (.t 5)⟩, 
      ⟨some 4, none, .mv (.t 13)⟩])
  (.ret)))
theorem gmod_spec (a b : List Nat) (ha : Wd a) (hb : Wd b) (la : a.length ≤ 1000000000) (lb : b.length ≤ 1000000000) :
    AFun Try.prog J0 48 [.l 1 (W a), .l 1 (W b)] (.l 1 (W (qR (nv B a) (nv B b)))) := by
  have h := mod_spec a b ha hb la lb
  refine AFun.mk fol J0s Try.func48 rfl (ac := a48) (by kernel_rfl) rfl rfl rfl ?_
  apply vm_start
  unfold a48
  simp only [init_eq, initE]
  have zc1 := h
  repeat first | (refine hK _ ?_; clear hK K) | simp only [Sv, ↓reduceIte, Nat.reduceEqDiff] | ((first | refine vm_reg (fun K hK => ?_) | refine vm_dreg (fun K hK => ?_) | refine vm_dregx (fun K hK => ?_) | refine clp_q ?_ | refine clq_mk (by assumption) ?_ | refine mcq_q ?_ | (apply mcr_mk; assumption)); simp (disch := (first | omega | assumption)) only [S1, ↓reduceIte, Nat.reduceEqDiff, Nat.reduceAdd, Nat.reduceMul, Nat.reduceDiv, AOp.sb, AOp.mut, ↓Bool.false_eq_true, beq_self_eq_true, ite_self, Nat.reduceLeDiff, Int.reduceEq, Int.reduceSub, Int.reduceAdd, Int.reduceNeg, Int.reduceLT, Int.reduceLE, Nat.reduceLT, bz_Z7, List.length_nil])
  simp (disch := (first | omega | assumption)) only [retOk, retN, ret1, retF, ret1F, V.okArg, and_true, true_and, S1, ↓reduceIte, Nat.reduceEqDiff, Nat.reduceAdd, Nat.reduceMul, Nat.reduceDiv, AOp.sb, AOp.mut, ↓Bool.false_eq_true, beq_self_eq_true, ite_self, Nat.reduceLeDiff, Int.reduceEq, Int.reduceSub, Int.reduceAdd, Int.reduceNeg, Int.reduceLT, Int.reduceLE, Nat.reduceLT, bz_Z7, List.length_nil]
-- surd/gcd.Gcd
def a41 : AC := .seq (.reg [⟨some 4, none, .mv (.k .nl)⟩])
  (.seq (.reg [⟨some 5, none, .mv (.t 0)⟩, 
      ⟨some 6, none, .call 38 [(1, (.t 5))]⟩, 
      ⟨some 7, none, .mv (.t 1)⟩, 
      ⟨some 8, none, .call 38 [(1, (.t 7))]⟩, 
      ⟨some 0, none, .mv (.t 6)⟩, 
      ⟨some 1, none, .mv (.t 8)⟩])
  (.seq (.blk 0
    (.loop
      (.seq (.seq (.reg [⟨some 9, none, .mv (.t 1)⟩, 
              ⟨some 10, none, .len (.t 9)⟩, 
              ⟨some 11, none, .bin .gtr (.t 10) (.k (.i .i64 0))⟩])
          (.cond (.t 11)
          (.skip)
          (.exit 0)))
        (.blk 1
        (.reg [⟨some 12, none, .mv (.t 1)⟩, 
            ⟨some 13, none, .mv (.t 0)⟩, 
            ⟨some 14, none, .mv (.t 1)⟩, 
            ⟨some 15, none, .call 48 [(1, (.t 13)), (1, (.t 14))]⟩, 
            ⟨some 0, none, .mv (.t 12)⟩, 
            ⟨some 1, none, .mv (.t 15)⟩])))))
  (.seq (.reg [⟨some 16, none, .mv (.t 0)⟩, 
      ⟨some 4, none, .mv (.t 16)⟩])
  (.ret))))
theorem gcd_spec (a b : List Nat) (m : Nat) (hm : m ≤ 1000000000) (ha : Wd a) (hb : Wd b) (la : a.length ≤ m) (lb : b.length ≤ m) :
    AFun Try.prog J0 41 [.l 1 (W a), .l 1 (W b)] (.l 1 (W (dg B (Nat.gcd (nv B a) (nv B b))))) := by
  have h1 := (norm_dg a ha (by omega)).frozen
  have h2 := (norm_dg b hb (by omega)).frozen
  have l1 := nvlt ha la
  have l2 := nvlt hb lb
  have hmo := fun x y (hx : x < B ^ m) (hy : y < B ^ m) => gmod_spec (dg B x) (dg B y) (Wd_dg _) (Wd_dg _) (Nat.le_trans (dlen hx) hm) (Nat.le_trans (dlen hy) hm)
  simp only [nv_dgB] at hmo
  generalize nv B a = u at *
  generalize nv B b = v at *
  refine AFun.mk fol J0s Try.func41 rfl (ac := a41) (by kernel_rfl) rfl rfl rfl ?_
  apply vm_start
  unfold a41
  simp only [init_eq, initE]
  have zc2 := h1
  have zc3 := h2
  repeat first | (refine hK _ ?_; clear hK K) | simp only [Sv, ↓reduceIte, Nat.reduceEqDiff] | ((first | refine vm_reg (fun K hK => ?_) | refine vm_dreg (fun K hK => ?_) | refine vm_dregx (fun K hK => ?_) | refine clp_q ?_ | refine clq_mk (by assumption) ?_ | refine mcq_q ?_ | (apply mcr_mk; assumption)); simp (disch := (first | omega | assumption)) only [S1, ↓reduceIte, Nat.reduceEqDiff, Nat.reduceAdd, Nat.reduceMul, Nat.reduceDiv, AOp.sb, AOp.mut, ↓Bool.false_eq_true, beq_self_eq_true, ite_self, Nat.reduceLeDiff, Int.reduceEq, Int.reduceSub, Int.reduceAdd, Int.reduceNeg, Int.reduceLT, Int.reduceLE, Nat.reduceLT, bz_Z7, List.length_nil])
  refine vm_loopA [] (Nat × Nat) (fun s => ⟨[(0, .l 1 (W (dg B s.1))), (1, .l 1 (W (dg B s.2)))], [], 0⟩)
    (fun s => s.1 < B ^ m ∧ s.2 < B ^ m ∧ Nat.gcd s.1 s.2 = Nat.gcd u v) (fun s => s.2) (u, v) ⟨l1, l2, rfl⟩ (by simp (disch := (first | omega | assumption)) only [Sl, Sa, Sw, ↓reduceIte, Nat.reduceEqDiff, Nat.reduceLT, List.all_nil, List.all_cons, Nat.reduceBneDiff, Nat.reduceAdd, bne_iff_ne, ne_eq, reduceCtorEq, not_false_eq_true, not_true_eq_false, Bool.and_true, Bool.true_and, and_true, true_and, and_self]) (by
    simp (disch := (first | omega | assumption)) only [Sl, Sa, Sw, ↓reduceIte, Nat.reduceEqDiff, Nat.reduceLT, List.all_nil, List.all_cons, Nat.reduceBneDiff, Nat.reduceAdd, bne_iff_ne, ne_eq, reduceCtorEq, not_false_eq_true, not_true_eq_false, Bool.and_true, Bool.true_and, and_true, true_and, and_self, i_eq]
    try rfl) ?_
  rintro ⟨x, y⟩ ⟨hx, hy, hg⟩ Q' hQ he hr
  simp only [] at hx hy hg ⊢
  by_cases h0 : y = 0
  · subst h0
    rw [Nat.gcd_zero_right] at hg
    have hp : ¬ (0 : Int) < (((dg B 0).length : Nat) : Int) := by rw [dg_zero]; decide
    rw [hg]
    repeat first
      | (refine hK _ ?_; clear hK K)
      | ((first | refine vm_reg (fun K hK => ?_) | refine vm_dreg (fun K hK => ?_) | refine vm_dregx (fun K hK => ?_)); simp (disch := (first | omega | assumption)) only [S1, ↓reduceIte, Nat.reduceEqDiff, Nat.reduceAdd, Nat.reduceMul, Nat.reduceDiv, AOp.sb, AOp.mut, ↓Bool.false_eq_true, beq_self_eq_true, ite_self, Nat.reduceLeDiff, Int.reduceEq, Int.reduceSub, Int.reduceAdd, Int.reduceNeg, Int.reduceLT, Int.reduceLE, Nat.reduceLT, bz_Z7, List.length_nil, hp]; refine hK _ ?_; clear hK K)
      | simp only [Sv, ↓reduceIte, Nat.reduceEqDiff]
    refine he _ _ ?_
    repeat first | (refine hK _ ?_; clear hK K) | simp only [Sv, ↓reduceIte, Nat.reduceEqDiff] | ((first | refine vm_reg (fun K hK => ?_) | refine vm_dreg (fun K hK => ?_) | refine vm_dregx (fun K hK => ?_)); simp (disch := (first | omega | assumption)) only [S1, ↓reduceIte, Nat.reduceEqDiff, Nat.reduceAdd, Nat.reduceMul, Nat.reduceDiv, AOp.sb, AOp.mut, ↓Bool.false_eq_true, beq_self_eq_true, ite_self, Nat.reduceLeDiff, Int.reduceEq, Int.reduceSub, Int.reduceAdd, Int.reduceNeg, Int.reduceLT, Int.reduceLE, Nat.reduceLT, bz_Z7, List.length_nil])
    simp (disch := (first | omega | assumption)) only [retOk, retN, ret1, retF, ret1F, V.okArg, and_true, true_and, S1, ↓reduceIte, Nat.reduceEqDiff, Nat.reduceAdd, Nat.reduceMul, Nat.reduceDiv, AOp.sb, AOp.mut, ↓Bool.false_eq_true, beq_self_eq_true, ite_self, Nat.reduceLeDiff, Int.reduceEq, Int.reduceSub, Int.reduceAdd, Int.reduceNeg, Int.reduceLT, Int.reduceLE, Nat.reduceLT, bz_Z7, List.length_nil]
  · have hp : 0 < y := Nat.pos_of_ne_zero h0
    have hc := hmo x y hx hy
    rw [qR_p hp] at hc
    have hp2 := dg_pos (n := y)
    have hlt := Nat.mod_lt x hp
    have zc4 := hc
    repeat first | (refine hK _ ?_; clear hK K) | simp only [Sv, ↓reduceIte, Nat.reduceEqDiff] | ((first | refine vm_reg (fun K hK => ?_) | refine vm_dreg (fun K hK => ?_) | refine vm_dregx (fun K hK => ?_) | refine clp_q ?_ | refine clq_mk (by assumption) ?_ | refine mcq_q ?_ | (apply mcr_mk; assumption)); simp (disch := (first | omega | assumption)) only [S1, ↓reduceIte, Nat.reduceEqDiff, Nat.reduceAdd, Nat.reduceMul, Nat.reduceDiv, AOp.sb, AOp.mut, ↓Bool.false_eq_true, beq_self_eq_true, ite_self, Nat.reduceLeDiff, Int.reduceEq, Int.reduceSub, Int.reduceAdd, Int.reduceNeg, Int.reduceLT, Int.reduceLE, Nat.reduceLT, bz_Z7, List.length_nil, hp2, hp])
    refine hQ _ (y, x % y) ⟨hy, Nat.lt_trans hlt hy, ?_⟩ hlt ?_
    · simp only []
      rw [← hg, Nat.gcd_comm x y, Nat.gcd_rec y x, Nat.gcd_comm]
    · simp (disch := (first | omega | assumption)) only [Sl, Sa, Sw, ↓reduceIte, Nat.reduceEqDiff, Nat.reduceLT, List.all_nil, List.all_cons, Nat.reduceBneDiff, Nat.reduceAdd, bne_iff_ne, ne_eq, reduceCtorEq, not_false_eq_true, not_true_eq_false, Bool.and_true, Bool.true_and, and_true, true_and, and_self, i_eq]
      repeat' first | rfl | omega | (simp only [List.length_append, List.length_cons, List.length_nil]; done) | apply And.intro

-- surd/zz.Gcd
def a30 : AC := .seq (.reg [⟨some 2, none, .mv (.k .nl)⟩])
  (.seq (.reg [⟨some 6, none, .bsl 43 1 0 [] []⟩, 
      ⟨some 3, none, .mv (.t 6)⟩])
  (.seq (.seq (.reg [⟨some 7, none, .mv (.t 0)⟩, 
        ⟨some 8, none, .len (.t 7)⟩, 
        ⟨some 9, none, .mv (.k (.i .i64 0))⟩])
    (.blk 0
    (.loop
      (.seq (.reg [⟨some 10, none, .bin .lss (.t 9) (.t 8)⟩])
        (.seq (.cond (.t 10)
          (.skip)
          (.exit 0))
        (.seq (.blk 1
          (.seq (.reg [⟨some 11, none, .idx 2 (.t 7) (.t 9)⟩, 
                ⟨some 12, none, .ld true 2 (.t 11)⟩, 
                ⟨some 5, none, .al 33 [(.b false), (.l 1 [])]⟩, 
                ⟨none, none, .st 2 (.t 5) (.t 12)⟩])
            (.reg [⟨some 13, none, .mv (.t 3)⟩, 
              ⟨some 14, none, .fad 1 (.t 5)⟩, 
              ⟨some 15, none, .ld false 1 (.t 14)⟩, 
              ⟨some 16, none, .call 41 [(1, (.t 13)), (1, (.t 15))]⟩, 
              ⟨some 3, none, .mv (.t 16)⟩])))
        (.reg [⟨some 17, none, .bin .add (.t 9) (.k (.i .i64 1))⟩, 
          ⟨some 9, none, .mv (.t 17)⟩])))))))
  (.seq (.reg [⟨some 18, none, .mv (.t 3)⟩, 
      ⟨some 2, none, .mv (.t 18)⟩])
  (.ret))))
theorem zgcd_spec (l : List (Bool × List Nat)) (m : Nat) (hm : m ≤ 1000000000) (ll : l.length ≤ 1000000000) (hl : ∀ p, p ∈ l → Wd p.2 ∧ p.2.length ≤ m) :
    AFun Try.prog J0 30 [.l 2 (ZC l)] (.l 1 (W (dg B (gf l)))) := by
  have hlen : (ZC l).length / 2 = l.length := by rw [ZC_len]; omega
  refine AFun.mk fol J0s Try.func30 rfl (ac := a30) (by kernel_rfl) rfl rfl rfl ?_
  apply vm_start
  unfold a30
  simp only [init_eq, initE]
  repeat first
    | (refine hK _ ?_; clear hK K)
    | ((first | refine vm_reg (fun K hK => ?_) | refine vm_dreg (fun K hK => ?_) | refine vm_dregx (fun K hK => ?_)); simp (disch := (first | omega | assumption)) only [S1, ↓reduceIte, Nat.reduceEqDiff, Nat.reduceAdd, Nat.reduceMul, Nat.reduceDiv, AOp.sb, AOp.mut, ↓Bool.false_eq_true, beq_self_eq_true, ite_self, Nat.reduceLeDiff, Int.reduceEq, Int.reduceSub, Int.reduceAdd, Int.reduceNeg, Int.reduceLT, Int.reduceLE, Nat.reduceLT, bz_Z7, List.length_nil, hlen]; refine hK _ ?_; clear hK K)
    | simp only [Sv, ↓reduceIte, Nat.reduceEqDiff]
  refine vm_loopA [] (Nat × Bool) (fun s => match s.2 with
      | false => ⟨[(3, .ow 1 0 0), (7, .l 2 (ZC l)), (8, .i .i64 (l.length : Int)), (9, .i .i64 0)], [(0, some ⟨43, 1, [], true, false⟩)], 1⟩
      | true => ⟨[(3, .l 1 (W (dg B (gf (l.take s.1))))), (7, .l 2 (ZC l)), (8, .i .i64 (l.length : Int)), (9, .i .i64 (s.1 : Int))], [], 0⟩)
    (fun s => s.1 ≤ l.length ∧ (s.2 = false → s.1 = 0)) (fun s => l.length - s.1) (0, false) ⟨Nat.zero_le _, fun _ => rfl⟩ (by simp (disch := (first | omega | assumption)) only [Sl, Sa, Sw, ↓reduceIte, Nat.reduceEqDiff, Nat.reduceLT, List.all_nil, List.all_cons, Nat.reduceBneDiff, Nat.reduceAdd, bne_iff_ne, ne_eq, reduceCtorEq, not_false_eq_true, not_true_eq_false, Bool.and_true, Bool.true_and, and_true, true_and, and_self]) (by
    simp (disch := (first | omega | assumption)) only [Sl, Sa, Sw, ↓reduceIte, Nat.reduceEqDiff, Nat.reduceLT, List.all_nil, List.all_cons, Nat.reduceBneDiff, Nat.reduceAdd, bne_iff_ne, ne_eq, reduceCtorEq, not_false_eq_true, not_true_eq_false, Bool.and_true, Bool.true_and, and_true, true_and, and_self, i_eq]
    try rfl) ?_
  rintro ⟨i, f⟩ ⟨hi, hf⟩ Q' hQ he hr
  cases f with
  | false =>
    obtain rfl : i = 0 := hf rfl
    simp only []
    by_cases h : (0 : Int) < (l.length : Int)
    · have h0 : 0 < l.length := by omega
      obtain ⟨r1, r2⟩ := ZC_row l 0 h0
      have hz := ZC_len l
      have hmem : l.getD 0 (false, []) ∈ l := by rw [List.getD_eq_getElem?_getD, List.getElem?_eq_getElem h0]; exact List.getElem_mem h0
      obtain ⟨wa, la⟩ := hl _ hmem
      have hgs := gf_succ h0
      rw [List.take_zero, show gf [] = 0 from rfl] at hgs
      have hc := gcd_spec [] (l.getD 0 (false, [])).2 m hm Wd_nil wa (Nat.zero_le _) la
      rw [show nv B [] = 0 from rfl, ← hgs] at hc
      rw [Nat.zero_mul, List.drop_zero] at r1
      rw [Nat.zero_mul] at r2
      generalize l.getD 0 (false, []) = p at *
      have zc5 := hc
      repeat first | (refine hK _ ?_; clear hK K) | simp only [Sv, ↓reduceIte, Nat.reduceEqDiff] | ((first | refine vm_reg (fun K hK => ?_) | refine vm_dreg (fun K hK => ?_) | refine vm_dregx (fun K hK => ?_) | refine clp_q ?_ | refine clq_mk (by assumption) ?_ | refine mcq_q ?_ | (apply mcr_mk; assumption)); simp (disch := (first | omega | assumption)) only [S1, ↓reduceIte, Nat.reduceEqDiff, Nat.reduceAdd, Nat.reduceMul, Nat.reduceDiv, AOp.sb, AOp.mut, ↓Bool.false_eq_true, beq_self_eq_true, ite_self, Nat.reduceLeDiff, Int.reduceEq, Int.reduceSub, Int.reduceAdd, Int.reduceNeg, Int.reduceLT, Int.reduceLE, Nat.reduceLT, bz_Z7, List.length_nil, h, Int.toNat_zero, Nat.zero_mul, r1, hz])
      refine hQ _ (1, true) ⟨h0, fun h => by cases h⟩ (by simp only; omega) ?_
      simp (disch := (first | omega | assumption)) only [Sl, Sa, Sw, ↓reduceIte, Nat.reduceEqDiff, Nat.reduceLT, List.all_nil, List.all_cons, Nat.reduceBneDiff, Nat.reduceAdd, bne_iff_ne, ne_eq, reduceCtorEq, not_false_eq_true, not_true_eq_false, Bool.and_true, Bool.true_and, and_true, true_and, and_self, i_eq]
      repeat' first | rfl | omega | (simp only [List.length_append, List.length_cons, List.length_nil]; done) | apply And.intro
    · have hl0 : l = [] := List.eq_nil_of_length_eq_zero (by omega)
      subst hl0
      have e0 : W (dg B (gf [])) = [] := by rw [show gf [] = 0 from rfl, dg_zero]; rfl
      repeat first
        | (refine hK _ ?_; clear hK K)
        | ((first | refine vm_reg (fun K hK => ?_) | refine vm_dreg (fun K hK => ?_) | refine vm_dregx (fun K hK => ?_)); simp (disch := (first | omega | assumption)) only [S1, ↓reduceIte, Nat.reduceEqDiff, Nat.reduceAdd, Nat.reduceMul, Nat.reduceDiv, AOp.sb, AOp.mut, ↓Bool.false_eq_true, beq_self_eq_true, ite_self, Nat.reduceLeDiff, Int.reduceEq, Int.reduceSub, Int.reduceAdd, Int.reduceNeg, Int.reduceLT, Int.reduceLE, Nat.reduceLT, bz_Z7, List.length_nil, h]; refine hK _ ?_; clear hK K)
        | simp only [Sv, ↓reduceIte, Nat.reduceEqDiff]
      refine he _ _ ?_
      repeat first
        | (refine hK _ ?_; clear hK K)
        | ((first | refine vm_reg (fun K hK => ?_) | refine vm_dreg (fun K hK => ?_) | refine vm_dregx (fun K hK => ?_)); simp (disch := (first | omega | assumption)) only [S1, ↓reduceIte, Nat.reduceEqDiff, Nat.reduceAdd, Nat.reduceMul, Nat.reduceDiv, AOp.sb, AOp.mut, ↓Bool.false_eq_true, beq_self_eq_true, ite_self, Nat.reduceLeDiff, Int.reduceEq, Int.reduceSub, Int.reduceAdd, Int.reduceNeg, Int.reduceLT, Int.reduceLE, Nat.reduceLT, bz_Z7, List.length_nil]; refine hK _ ?_; clear hK K)
        | simp only [Sv, ↓reduceIte, Nat.reduceEqDiff]
      simp (disch := (first | omega | assumption)) only [retOk, retN, ret1, retF, ret1F, V.okArg, and_true, true_and, S1, ↓reduceIte, Nat.reduceEqDiff, Nat.reduceAdd, Nat.reduceMul, Nat.reduceDiv, AOp.sb, AOp.mut, ↓Bool.false_eq_true, beq_self_eq_true, ite_self, Nat.reduceLeDiff, Int.reduceEq, Int.reduceSub, Int.reduceAdd, Int.reduceNeg, Int.reduceLT, Int.reduceLE, Nat.reduceLT, bz_Z7, List.length_nil, e0]
  | true =>
    simp only []
    by_cases h : (i : Int) < (l.length : Int)
    · have h0 : i < l.length := by simp only at hi; omega
      obtain ⟨r1, r2⟩ := ZC_row l i h0
      have hz := ZC_len l
      have hmem : l.getD i (false, []) ∈ l := by rw [List.getD_eq_getElem?_getD, List.getElem?_eq_getElem h0]; exact List.getElem_mem h0
      obtain ⟨wa, la⟩ := hl _ hmem
      have hgs := gf_succ h0
      have hgl := gf_lt (l := l.take i) (m := m) fun p hp => hl p (List.mem_of_mem_take hp)
      have hc := gcd_spec (dg B (gf (l.take i))) (l.getD i (false, [])).2 m hm (Wd_dg _) wa (dlen hgl) la
      rw [nv_dgB, ← hgs] at hc
      generalize l.getD i (false, []) = p at *
      have zc6 := hc
      repeat first | (refine hK _ ?_; clear hK K) | simp only [Sv, ↓reduceIte, Nat.reduceEqDiff] | ((first | refine vm_reg (fun K hK => ?_) | refine vm_dreg (fun K hK => ?_) | refine vm_dregx (fun K hK => ?_) | refine clp_q ?_ | refine clq_mk (by assumption) ?_ | refine mcq_q ?_ | (apply mcr_mk; assumption)); simp (disch := (first | omega | assumption)) only [S1, ↓reduceIte, Nat.reduceEqDiff, Nat.reduceAdd, Nat.reduceMul, Nat.reduceDiv, AOp.sb, AOp.mut, ↓Bool.false_eq_true, beq_self_eq_true, ite_self, Nat.reduceLeDiff, Int.reduceEq, Int.reduceSub, Int.reduceAdd, Int.reduceNeg, Int.reduceLT, Int.reduceLE, Nat.reduceLT, bz_Z7, List.length_nil, h, r1, hz])
      refine hQ _ (i + 1, true) ⟨h0, fun h => by cases h⟩ (by simp only; omega) ?_
      simp (disch := (first | omega | assumption)) only [Sl, Sa, Sw, ↓reduceIte, Nat.reduceEqDiff, Nat.reduceLT, List.all_nil, List.all_cons, Nat.reduceBneDiff, Nat.reduceAdd, bne_iff_ne, ne_eq, reduceCtorEq, not_false_eq_true, not_true_eq_false, Bool.and_true, Bool.true_and, and_true, true_and, and_self, i_eq]
      repeat' first | rfl | omega | (simp only [List.length_append, List.length_cons, List.length_nil]; done) | apply And.intro
    · have hil : i = l.length := by simp only at hi; omega
      have ht : l.take i = l := by rw [hil, List.take_length]
      rw [ht]
      repeat first
        | (refine hK _ ?_; clear hK K)
        | ((first | refine vm_reg (fun K hK => ?_) | refine vm_dreg (fun K hK => ?_) | refine vm_dregx (fun K hK => ?_)); simp (disch := (first | omega | assumption)) only [S1, ↓reduceIte, Nat.reduceEqDiff, Nat.reduceAdd, Nat.reduceMul, Nat.reduceDiv, AOp.sb, AOp.mut, ↓Bool.false_eq_true, beq_self_eq_true, ite_self, Nat.reduceLeDiff, Int.reduceEq, Int.reduceSub, Int.reduceAdd, Int.reduceNeg, Int.reduceLT, Int.reduceLE, Nat.reduceLT, bz_Z7, List.length_nil, h]; refine hK _ ?_; clear hK K)
        | simp only [Sv, ↓reduceIte, Nat.reduceEqDiff]
      refine he _ _ ?_
      repeat first
        | (refine hK _ ?_; clear hK K)
        | ((first | refine vm_reg (fun K hK => ?_) | refine vm_dreg (fun K hK => ?_) | refine vm_dregx (fun K hK => ?_)); simp (disch := (first | omega | assumption)) only [S1, ↓reduceIte, Nat.reduceEqDiff, Nat.reduceAdd, Nat.reduceMul, Nat.reduceDiv, AOp.sb, AOp.mut, ↓Bool.false_eq_true, beq_self_eq_true, ite_self, Nat.reduceLeDiff, Int.reduceEq, Int.reduceSub, Int.reduceAdd, Int.reduceNeg, Int.reduceLT, Int.reduceLE, Nat.reduceLT, bz_Z7, List.length_nil]; refine hK _ ?_; clear hK K)
        | simp only [Sv, ↓reduceIte, Nat.reduceEqDiff]
      simp (disch := (first | omega | assumption)) only [retOk, retN, ret1, retF, ret1F, V.okArg, and_true, true_and, S1, ↓reduceIte, Nat.reduceEqDiff, Nat.reduceAdd, Nat.reduceMul, Nat.reduceDiv, AOp.sb, AOp.mut, ↓Bool.false_eq_true, beq_self_eq_true, ite_self, Nat.reduceLeDiff, Int.reduceEq, Int.reduceSub, Int.reduceAdd, Int.reduceNeg, Int.reduceLT, Int.reduceLE, Nat.reduceLT, bz_Z7, List.length_nil]
end Go.Proofs.Ytihcbbkiifglmaa
