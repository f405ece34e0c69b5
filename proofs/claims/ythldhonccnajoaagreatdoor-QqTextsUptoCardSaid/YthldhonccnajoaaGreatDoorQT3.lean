/-
  Texts of rationals, read by the document.
-/
import Derived.Test.YthldhonccnajoaaGreatDoorQT2
import Derived.Test.YthldhonccnajoaaGreatDoorFB
namespace Go.Proofs.YthldhonccnajoaaGreatDoor
open Go Go.RowKit Ab
set_option linter.unusedSimpArgs false
set_option linter.unusedVariables false
set_option maxHeartbeats 10000000
theorem bz_QT3 : type_of% (And.intro @W_len (And.intro @D_len (And.intro @Nat.div_one (And.intro @Nat.mul_one (And.intro @tn_nat (And.intro @W_nf (And.intro @D_nf (And.intro @W_nil (And.intro @D_nil (And.intro @wi (And.intro @nf_g (And.intro @Bool.false_and (@W_cell))))))))))))) := And.intro @W_len (And.intro @D_len (And.intro @Nat.div_one (And.intro @Nat.mul_one (And.intro @tn_nat (And.intro @W_nf (And.intro @D_nf (And.intro @W_nil (And.intro @D_nil (And.intro @wi (And.intro @nf_g (And.intro @Bool.false_and (@W_cell))))))))))))
theorem numT_lt2 {t : List UInt8} (h : ∀ c, c ∈ t → isDg c = true) : numT t < B ^ t.length := by
  have h1 := nv_lt (dgsT_lt h)
  have hl : (dgsT t).length = t.length := by unfold dgsT; rw [List.length_map, List.length_reverse]
  rw [hl] at h1
  exact Nat.lt_of_lt_of_le h1 (Nat.pow_le_pow_left (by decide) _)
def nmS (t : List UInt8) : Nat → St
  | 0 => ⟨[(0, .s t), (4, .ow 1 0 0), (5, .i .i64 0)], [(0, some ⟨46, 1, [], true, false⟩)], 1⟩
  | i + 1 => ⟨[(0, .s t), (4, .l 1 (W (dg B (numT (t.take (i + 1)))))), (5, .i .i64 ((i + 1 : Nat) : Int))], [], 0⟩
theorem nmS_0 (t : List UInt8) : nmS t 0 = ⟨[(0, .s t), (4, .ow 1 0 0), (5, .i .i64 0)], [(0, some ⟨46, 1, [], true, false⟩)], 1⟩ := rfl
theorem nmS_1 (t : List UInt8) (i : Nat) : nmS t (i + 1) = ⟨[(0, .s t), (4, .l 1 (W (dg B (numT (t.take (i + 1)))))), (5, .i .i64 ((i + 1 : Nat) : Int))], [], 0⟩ := rfl
def a49 : AC := .seq (.reg [qr 2 (.mv (.k .nl)),
 qr 3 (.mv (.k (.b false)))])
 (.seq (.reg [qr 6 (.bsl 46 1 0 [] []),
 qm 4 6])
 (.seq (.seq (.reg [qr 5 (.mv (.k (.i .i64 0)))])
 (.blk 0
 (.loop
 (.seq (.seq (.reg [qm 7 5,
 qm 8 0,
 qr 9 (.slen (.t 8)),
 qr 10 (.bin .lss (.t 7) (.t 9))])
 (.cond (.t 10)
 (.skip)
 (.exit 0)))
 (.seq (.blk 1
 (.seq (.seq (.reg [qm 13 0,
 qm 14 5,
 qr 15 (.six (.t 13) (.t 14)),
 qr 16 (.bin .lss (.t 15) (.k (.i .u8 48))),
 qm 17 16,
 ⟨some 18, some (17, false), .mv (.t 0)⟩,
 ⟨some 19, some (17, false), .mv (.t 5)⟩,
 ⟨some 20, some (17, false), .six (.t 18) (.t 19)⟩,
 ⟨some 21, some (17, false), .bin .gtr (.t 20) (.k (.i .u8 57))⟩,
 qr 22 (.pick (.t 17) (.k (.b true)) (.t 21))])
 (.cond (.t 22)
 (.seq (.reg [qr 2 (.mv (.k .nl)),
 qr 3 (.mv (.k (.b false)))])
 (.ret))
 (.skip)))
 (.dreg [qm 23 4,
 qr 24 (.call 44 [(1, (.k (.i .i64 10)))]),
 qr 25 (.call 91 [(1, (.t 23)), (1, (.t 24))]),
 qm 26 0,
 qm 27 5,
 qr 28 (.six (.t 26) (.t 27)),
 qr 29 (.bin .sub (.t 28) (.k (.i .u8 48))),
 qr 30 (.cvt .i64 (.t 29)),
 qr 31 (.call 44 [(1, (.t 30))]),
 qr 32 (.call 90 [(1, (.t 25)), (1, (.t 31))]),
 qm 4 32])))
 (.reg [qm 11 5,
 qr 12 (.bin .add (.t 11) (.k (.i .i64 1))),
 qm 5 12]))))))
 (.seq (.reg [qm 33 4,
 qm 34 0,
 qr 35 (.slen (.t 34)),
 qr 36 (.bin .gtr (.t 35) (.k (.i .i64 0))),
 qm 2 33,
 qm 3 36])
 (.ret))))
theorem rnumeral_spec (t : List UInt8) (ht : t.length ≤ 90000000) : AFun Tryz.prog J0 49 [.s t] (.t [.l 1 (W (digV t)), .b (digB t)]) := by
  obtain ⟨v, hv⟩ : ∃ v, v = digV t := ⟨_, rfl⟩
  obtain ⟨bb, hbb⟩ : ∃ bb, bb = digB t := ⟨_, rfl⟩
  rw [← hv, ← hbb]
  have w10 := (hword_spec 10 (by decide)).frozen
  have hbad : ∀ i, i < t.length → isDg (t.getD i 0) = false → v = [] ∧ bb = false := fun i hi h => by
    have hm : t.getD i 0 ∈ t := by rw [List.getD_eq_getElem?_getD, List.getElem?_eq_getElem hi]; exact List.getElem_mem hi
    have ha : t.all isDg = false := List.all_eq_false.2 ⟨_, hm, by rw [h]; decide⟩
    rw [hv, hbb]
    unfold digV digB
    rw [ha, Bool.and_false]
    exact ⟨rfl, rfl⟩
  have hmu := fun (k m : Nat) (hk : k < B ^ m) (hm : m ≤ 90000000) => (hmul_spec (dg B k) (dg B 10) (Wd_dg _) (Wd_dg _) (Nat.le_trans (dlen hk) (by omega)) (Nat.le_trans (dlen (k := 1) (by decide)) (by decide))).frozen
  have had := fun (k d m : Nat) (hk : k * 10 < B ^ m) (hd : d < 10) (hm : m ≤ 90000002) => (hadd_spec (dg B (k * 10)) (dg B d) (Wd_dg _) (Wd_dg _) (Nat.le_trans (dlen hk) (by omega)) (Nat.le_trans (dlen (k := 1) (Nat.lt_of_lt_of_le hd (by decide))) (by decide))).frozen
  simp only [nv_dgB] at hmu had
  have e0 : W (dg B 0) = [] := by rw [dg_zero]; rfl
  refine mkQ fol J0s Tryz.func49 a49 ?_
  unfold a49
  simp only [init_eq, initE, qm, qr, qn]
  refine spQ @bz_QT3 ?_
  refine vm_loopA [] Nat (nmS t) (fun i => i ≤ t.length ∧ ∀ c, c ∈ t.take i → isDg c = true) (fun i => t.length - i) 0 ⟨Nat.zero_le _, fun c hc => by rw [List.take_zero] at hc; cases hc⟩ (by exact leQ) (by
    rw [nmS_0]
    simp (disch := (first | omega | assumption)) only [Sl, Sa, Sw, ↓reduceIte, Nat.reduceEqDiff, Nat.reduceLT, List.all_nil, List.all_cons, Nat.reduceBneDiff, Nat.reduceAdd, bne_iff_ne, ne_eq, reduceCtorEq, not_false_eq_true, not_true_eq_false, Bool.and_true, Bool.true_and, and_true, true_and, and_self, i_eq]
    try rfl) ?_
  rintro i ⟨hi, hall⟩ Q' hQ he hr
  by_cases h : (i : Int) < (t.length : Int)
  · have hil : i < t.length := by omega
    have hnx := numT_snoc hil
    have hb1 := numT_lt2 hall
    have hlen : (t.take i).length = i := by rw [List.length_take]; omega
    rw [hlen] at hb1
    have hdig : isDg (t.getD i 0) = true → ∀ c, c ∈ t.take (i + 1) → isDg c = true := fun hd c hc => by
      rw [List.take_succ_eq_append_getElem hil, List.mem_append, List.mem_singleton] at hc
      rcases hc with hc | hc
      · exact hall c hc
      · rw [hc]; rwa [List.getD_eq_getElem?_getD, List.getElem?_eq_getElem hil] at hd
    have hbd := hbad i hil
    obtain ⟨c, hc⟩ : ∃ c, c = t.getD i 0 := ⟨_, rfl⟩
    rw [← hc] at hnx hdig hbd
    have hc256 := c.toNat_lt
    by_cases h1 : (c.toNat : Int) < 48
    · obtain ⟨e1, e2⟩ := hbd (by unfold isDg; rw [decide_eq_false_iff_not]; omega)
      cases i with
      | zero =>
        rw [nmS_0]
        have hz : (0 : Int) < (t.length : Int) := by omega
        have tz0 : Int.toNat 0 = 0 := rfl
        repeat first
          | (refine hK _ ?_; clear hK K)
          | ((first | refine vm_reg (fun K hK => ?_) | refine vm_dreg (fun K hK => ?_) | refine vm_dregx (fun K hK => ?_)); simp (disch := (first | omega | assumption)) only [S1, ↓reduceIte, Nat.reduceEqDiff, Nat.reduceAdd, Nat.reduceMul, Nat.reduceDiv, AOp.sb, AOp.mut, frzf, ↓Bool.false_eq_true, beq_self_eq_true, ite_self, Nat.reduceLeDiff, Int.reduceEq, Int.reduceSub, Int.reduceAdd, Int.reduceNeg, Int.reduceLT, Int.reduceLE, Nat.reduceLT, bz_QT3, hz, tz0, ← hc, h1]; refine hK _ ?_; clear hK K)
          | simp only [Sv, ↓reduceIte, Nat.reduceEqDiff]
        refine hr _ ?_
        exact pdQ (ai @e2 (ai @e1 @bz_QT3))
      | succ j =>
        rw [nmS_1]
        repeat first
          | (refine hK _ ?_; clear hK K)
          | ((first | refine vm_reg (fun K hK => ?_) | refine vm_dreg (fun K hK => ?_) | refine vm_dregx (fun K hK => ?_)); simp (disch := (first | omega | assumption)) only [S1, ↓reduceIte, Nat.reduceEqDiff, Nat.reduceAdd, Nat.reduceMul, Nat.reduceDiv, AOp.sb, AOp.mut, frzf, ↓Bool.false_eq_true, beq_self_eq_true, ite_self, Nat.reduceLeDiff, Int.reduceEq, Int.reduceSub, Int.reduceAdd, Int.reduceNeg, Int.reduceLT, Int.reduceLE, Nat.reduceLT, bz_QT3, h, ← hc, h1]; refine hK _ ?_; clear hK K)
          | simp only [Sv, ↓reduceIte, Nat.reduceEqDiff]
        refine hr _ ?_
        exact pdQ (ai @e2 (ai @e1 @bz_QT3))
    · by_cases h2 : (57 : Int) < (c.toNat : Int)
      · obtain ⟨e1, e2⟩ := hbd (by unfold isDg; rw [decide_eq_false_iff_not]; omega)
        cases i with
        | zero =>
          rw [nmS_0]
          have hz : (0 : Int) < (t.length : Int) := by omega
          have tz0 : Int.toNat 0 = 0 := rfl
          repeat first
            | (refine hK _ ?_; clear hK K)
            | ((first | refine vm_reg (fun K hK => ?_) | refine vm_dreg (fun K hK => ?_) | refine vm_dregx (fun K hK => ?_)); simp (disch := (first | omega | assumption)) only [S1, ↓reduceIte, Nat.reduceEqDiff, Nat.reduceAdd, Nat.reduceMul, Nat.reduceDiv, AOp.sb, AOp.mut, frzf, ↓Bool.false_eq_true, beq_self_eq_true, ite_self, Nat.reduceLeDiff, Int.reduceEq, Int.reduceSub, Int.reduceAdd, Int.reduceNeg, Int.reduceLT, Int.reduceLE, Nat.reduceLT, bz_QT3, hz, tz0, ← hc, h1, h2]; refine hK _ ?_; clear hK K)
            | simp only [Sv, ↓reduceIte, Nat.reduceEqDiff]
          refine hr _ ?_
          exact pdQ (ai @e2 (ai @e1 @bz_QT3))
        | succ j =>
          rw [nmS_1]
          repeat first
            | (refine hK _ ?_; clear hK K)
            | ((first | refine vm_reg (fun K hK => ?_) | refine vm_dreg (fun K hK => ?_) | refine vm_dregx (fun K hK => ?_)); simp (disch := (first | omega | assumption)) only [S1, ↓reduceIte, Nat.reduceEqDiff, Nat.reduceAdd, Nat.reduceMul, Nat.reduceDiv, AOp.sb, AOp.mut, frzf, ↓Bool.false_eq_true, beq_self_eq_true, ite_self, Nat.reduceLeDiff, Int.reduceEq, Int.reduceSub, Int.reduceAdd, Int.reduceNeg, Int.reduceLT, Int.reduceLE, Nat.reduceLT, bz_QT3, h, ← hc, h1, h2]; refine hK _ ?_; clear hK K)
            | simp only [Sv, ↓reduceIte, Nat.reduceEqDiff]
          refine hr _ ?_
          exact pdQ (ai @e2 (ai @e1 @bz_QT3))
      · have hd : isDg c = true := by unfold isDg; rw [decide_eq_true_eq]; omega
        have hdl := dvl_lt hd
        have w1 : IntKind.u8.wrap ((c.toNat : Int) - 48) = ((dvl c : Nat) : Int) := by
          unfold dvl
          show ((c.toNat : Int) - 48) % 256 = _
          omega
        have w2 : IntKind.i64.wrap ((dvl c : Nat) : Int) = ((dvl c : Nat) : Int) := wi (by omega)
        have wd := (hword_spec (dvl c) (by omega)).frozen
        have hp10 : numT (t.take i) * 10 < B ^ (i + 1) := by rw [Nat.pow_succ]; exact Nat.mul_lt_mul_of_lt_of_lt hb1 (by decide)
        have m1 := hmu _ i hb1 (by omega)
        have a1 := had _ _ _ hp10 hdl (by omega)
        rw [← hnx] at a1
        have hdd := hdig hd
        cases i with
        | zero =>
          rw [nmS_0]
          have hz : (0 : Int) < (t.length : Int) := by omega
          have tz0 : Int.toNat 0 = 0 := rfl
          rw [List.take_zero, numT_nil, e0] at m1
          rw [List.take_zero, numT_nil] at a1
          repeat first | (refine hK _ ?_; clear hK K) | simp only [Sv, ↓reduceIte, Nat.reduceEqDiff] | ((first | refine vm_reg (fun K hK => ?_) | refine vm_dreg (fun K hK => ?_) | refine vm_dregx (fun K hK => ?_) | refine clp_q ?_ | refine clq_mk (by assumption) ?_ | refine mcq_q ?_ | (apply mcr_mk; assumption)); simp (disch := (first | omega | assumption)) only [S1, ↓reduceIte, Nat.reduceEqDiff, Nat.reduceAdd, Nat.reduceMul, Nat.reduceDiv, AOp.sb, AOp.mut, frzf, ↓Bool.false_eq_true, beq_self_eq_true, ite_self, Nat.reduceLeDiff, Int.reduceEq, Int.reduceSub, Int.reduceAdd, Int.reduceNeg, Int.reduceLT, Int.reduceLE, Nat.reduceLT, bz_QT3, hz, tz0, ← hc, h1, h2, w1, w2])
          refine hQ _ 1 ⟨by omega, hdd⟩ (by omega) ?_
          rw [nmS_1]
          exact ltQ
        | succ j =>
          rw [nmS_1]
          repeat first | (refine hK _ ?_; clear hK K) | simp only [Sv, ↓reduceIte, Nat.reduceEqDiff] | ((first | refine vm_reg (fun K hK => ?_) | refine vm_dreg (fun K hK => ?_) | refine vm_dregx (fun K hK => ?_) | refine clp_q ?_ | refine clq_mk (by assumption) ?_ | refine mcq_q ?_ | (apply mcr_mk; assumption)); simp (disch := (first | omega | assumption)) only [S1, ↓reduceIte, Nat.reduceEqDiff, Nat.reduceAdd, Nat.reduceMul, Nat.reduceDiv, AOp.sb, AOp.mut, frzf, ↓Bool.false_eq_true, beq_self_eq_true, ite_self, Nat.reduceLeDiff, Int.reduceEq, Int.reduceSub, Int.reduceAdd, Int.reduceNeg, Int.reduceLT, Int.reduceLE, Nat.reduceLT, bz_QT3, h, ← hc, h1, h2, w1, w2])
          refine hQ _ (j + 1 + 1) ⟨by omega, hdd⟩ (by omega) ?_
          rw [nmS_1]
          exact ltQ
  · obtain rfl : i = t.length := by omega
    rw [List.take_length] at hall
    have hv2 := hv.trans (digV_nv hall)
    cases hti : t.length with
    | zero =>
      have ht0 := List.eq_nil_of_length_eq_zero hti
      subst ht0
      have e1 : v = [] := hv
      have e2 : bb = false := hbb
      show vm _ _ _ _ (nmS [] 0)
      rw [nmS_0]
      have hz : ¬ (0 : Int) < (([] : List UInt8).length : Int) := by decide
      refine spQ (ai @hz @bz_QT3) ?_
      refine he _ _ ?_
      refine spQ (ai @hz @bz_QT3) ?_
      exact rtQ (ai @hz (ai @e2 (ai @e1 @bz_QT3)))
    | succ j =>
      have hpos : (0 : Int) < (t.length : Int) := by omega
      have e2 : bb = true := by rw [hbb]; exact digB_iff.2 ⟨fun e => by rw [e] at hti; simp at hti, hall⟩
      have hjj : ¬ ((j + 1 : Nat) : Int) < ((j + 1 : Nat) : Int) := by omega
      have hjp : (0 : Int) < ((j + 1 : Nat) : Int) := by omega
      rw [nmS_1, ← hti, List.take_length, ← hv2]
      refine spQ (ai @hjj (ai @hti (ai @h @bz_QT3))) ?_
      refine he _ _ ?_
      refine spQ (ai @hjp (ai @hti @bz_QT3)) ?_
      exact rtQ (ai @hjp (ai @hti (ai @e2 @bz_QT3)))
end Go.Proofs.YthldhonccnajoaaGreatDoor
