/-
  Texts: integers read by the document.
-/
import Derived.Test.YtgbcjikcgckhbaaDoorZT2
namespace Go.Proofs.YtgbcjikcgckhbaaDoor
open Go Go.RowKit Ab
set_option linter.unusedSimpArgs false
set_option linter.unusedVariables false
set_option maxHeartbeats 10000000
theorem bz_ZT3 : type_of% (And.intro @W_len (And.intro @Nat.div_one (And.intro @Nat.mul_one (And.intro @tn_nat (And.intro @W_nf (And.intro @W_nil (And.intro @wi (And.intro @nf_g (And.intro @Bool.false_and (And.intro @W_cell (@W_get))))))))))) := And.intro @W_len (And.intro @Nat.div_one (And.intro @Nat.mul_one (And.intro @tn_nat (And.intro @W_nf (And.intro @W_nil (And.intro @wi (And.intro @nf_g (And.intro @Bool.false_and (And.intro @W_cell (@W_get))))))))))
theorem okZ_iff {s : List UInt8} : okZ s = true ↔ bdT s ≠ [] ∧ ¬ ((bdT s).getD 0 0 = 48 ∧ s ≠ [48]) ∧ ∀ c, c ∈ bdT s → isDg c = true := by
  constructor
  · intro h
    have h' := h
    unfold okZ at h
    rw [Bool.and_eq_true] at h
    obtain ⟨h1, h2, h3⟩ := okN_iff.1 h.1
    refine ⟨h1, fun ⟨e, hne⟩ => ?_, h3⟩
    have hl : (bdT s).length = 1 := by
      have := List.length_pos_iff.2 h1
      rcases Nat.lt_or_ge 1 (bdT s).length with h4 | h4
      · exact absurd ⟨h4, e⟩ h2
      · omega
    have hb : bdT s = [48] := by
      match hbs : bdT s, hl with
      | [c], _ => rw [hbs] at e; have : c = 48 := e; rw [this]
    have hz := zS_okZ h'
    have hn : numT (bdT s) = 0 := by rw [hb]; rfl
    have hv : valZ s = 0 := by unfold valZ; rw [hn]; split <;> rfl
    rw [hv] at hz
    exact hne hz.symm
  · rintro ⟨h1, h2, h3⟩
    by_cases e : (bdT s).getD 0 0 = 48
    · have hs : s = [48] := by
        rcases Classical.em (s = [48]) with h | h
        · exact h
        · exact absurd ⟨e, h⟩ h2
      rw [hs]; decide
    · have hok : okN (bdT s) = true := okN_iff.2 ⟨h1, fun h => e h.2, h3⟩
      unfold okZ
      rw [hok, Bool.true_and, Bool.not_eq_true', Bool.and_eq_false_iff]
      refine .inr (decide_eq_false fun h0 => e ?_)
      have hd := dec_numT hok
      rw [h0] at hd
      rw [← hd]; rfl
theorem drop_revD {t : List UInt8} {i : Nat} (hi : i < t.length) : (t.drop i).reverse.map dvl = (t.drop (i + 1)).reverse.map dvl ++ [dvl (t.getD i 0)] := by
  rw [List.drop_eq_getElem_cons hi, List.reverse_cons, List.map_append, List.getD_eq_getElem?_getD, List.getElem?_eq_getElem hi]; rfl
def a6 : AC := .seq (.reg [qr 2 (.al 25 [(.b false), (.l 1 [])]),
 qr 3 (.mv (.k (.i .i64 0)))])
 (.seq (.reg [qm 10 0,
 qm 4 10])
 (.seq (.reg [qm 11 4,
 qr 12 (.bin .neq (.t 11) (.k (.s []))),
 qm 13 12,
 ⟨some 14, some (13, true), .mv (.t 4)⟩,
 ⟨some 15, some (13, true), .six (.t 14) (.k (.i .i64 0))⟩,
 ⟨some 16, some (13, true), .bin .eql (.t 15) (.k (.i .u8 45))⟩,
 qr 17 (.pick (.t 13) (.t 16) (.k (.b false))),
 qm 5 17])
 (.seq (.seq (.reg [qm 18 5])
 (.cond (.t 18)
 (.reg [qm 19 4,
 qr 20 (.ssub (.t 19) (some (.k (.i .i64 1))) none),
 qm 4 20])
 (.skip)))
 (.seq (.seq (.reg [qm 21 4,
 qr 22 (.bin .eql (.t 21) (.k (.s []))),
 qm 23 22,
 ⟨some 24, some (23, false), .mv (.t 4)⟩,
 ⟨some 25, some (23, false), .six (.t 24) (.k (.i .i64 0))⟩,
 ⟨some 26, some (23, false), .bin .eql (.t 25) (.k (.i .u8 48))⟩,
 ⟨some 27, some (23, false), .mv (.t 26)⟩,
 ⟨some 28, some (27, true), .mv (.t 0)⟩,
 ⟨some 29, some (27, true), .bin .neq (.t 28) (.k (.s [48]))⟩,
 ⟨some 30, some (23, false), .pick (.t 27) (.t 29) (.k (.b false))⟩,
 qr 31 (.pick (.t 23) (.k (.b true)) (.t 30))])
 (.cond (.t 31)
 (.seq (.reg [qr 32 (.bld [(.b false), (.l 1 [])] []),
 qn (.st 2 (.t 2) (.t 32)),
 qr 3 (.mv (.k (.i .i64 5)))])
 (.ret))
 (.skip)))
 (.seq (.reg [qr 6 (.mv (.k .nl))])
 (.seq (.seq (.reg [qm 33 4,
 qr 34 (.slen (.t 33)),
 qr 35 (.bin .sub (.t 34) (.k (.i .i64 1))),
 qm 7 35])
 (.blk 0
 (.loop
 (.seq (.seq (.reg [qm 36 7,
 qr 37 (.bin .geq (.t 36) (.k (.i .i64 0)))])
 (.cond (.t 37)
 (.skip)
 (.exit 0)))
 (.seq (.blk 1
 (.seq (.seq (.reg [qm 40 4,
 qm 41 7,
 qr 42 (.six (.t 40) (.t 41)),
 qr 43 (.bin .lss (.t 42) (.k (.i .u8 48))),
 qm 44 43,
 ⟨some 45, some (44, false), .mv (.t 4)⟩,
 ⟨some 46, some (44, false), .mv (.t 7)⟩,
 ⟨some 47, some (44, false), .six (.t 45) (.t 46)⟩,
 ⟨some 48, some (44, false), .bin .gtr (.t 47) (.k (.i .u8 57))⟩,
 qr 49 (.pick (.t 44) (.k (.b true)) (.t 48))])
 (.cond (.t 49)
 (.seq (.reg [qr 50 (.bld [(.b false), (.l 1 [])] []),
 qn (.st 2 (.t 2) (.t 50)),
 qr 3 (.mv (.k (.i .i64 5)))])
 (.ret))
 (.skip)))
 (.reg [qm 51 6,
 qm 52 4,
 qm 53 7,
 qr 54 (.six (.t 52) (.t 53)),
 qr 55 (.bin .sub (.t 54) (.k (.i .u8 48))),
 qr 56 (.cvt .u64 (.t 55)),
 qr 57 (.bsl 38 1 1 [(.i .u64 0)] [(0, (.t 56))]),
 qr 58 (.app 38 1 8 (.t 51) (.t 57)),
 qm 6 58])))
 (.reg [qm 38 7,
 qr 39 (.bin .sub (.t 38) (.k (.i .i64 1))),
 qm 7 39]))))))
 (.seq (.reg [qm 60 6,
 qr 61 (.call 16 [(1, (.t 60)), (1, (.k (.i .u64 10)))]),
 qm 59 61,
 qr 62 (.ext (.t 59) 0),
 qr 63 (.ext (.t 59) 1),
 qm 8 62,
 qm 9 63])
 (.seq (.reg [qm 64 5,
 qm 65 8,
 qr 66 (.call 17 [(1, (.t 64)), (1, (.t 65))]),
 qn (.st 2 (.t 2) (.t 66)),
 qr 3 (.mv (.k (.i .i64 0)))])
 (.ret)))))))))
theorem rzparse_spec (s : List UInt8) (hs : s.length ≤ 10000000) : AFun Tryd.prog J0 6 [.s s] (.t [zN (pzV s), .i .i64 (pzE s)]) := by
  have hb := bdT_len s
  obtain ⟨t, ht⟩ : ∃ t, t = bdT s := ⟨_, rfl⟩
  have hiff := okZ_iff (s := s)
  have htl : t.length ≤ 10000000 := by rw [ht]; omega
  have hval : valZ s = zI (ngT s) (numT t) := by rw [ht]; rfl
  rw [← ht] at hiff
  obtain ⟨g, hg⟩ : ∃ g, g = ngT s := ⟨_, rfl⟩
  rw [← hg] at hval
  have hneg : ∀ h : ¬ okZ s = true, pzV s = 0 ∧ pzE s = 5 := fun h => pz_neg h
  have hpos : ∀ h : okZ s = true, pzV s = zI g (numT t) ∧ pzE s = 0 := fun h => by rw [← hval]; exact pz_pos h
  refine mkcQ fol J0s Tryd.func6 a6 [.c 2 true 2, .t 3] ?_
  unfold a6
  simp only [init_eq, initE, qm, qr, qn]
  have tz0 : Int.toNat 0 = 0 := rfl
  have tz1 : List.drop (Int.toNat 1) s = s.drop 1 := rfl
  by_cases hs0 : s = []
  · obtain ⟨e1, e2⟩ := hneg (fun h => by rw [hs0] at ht; exact (hiff.1 h).1 ht)
    rw [e1, e2]
    have bs : (s == []) = true := by simpa using hs0
    refine spQ (ai @bs (ai @lconsA (ai @lnilA @bz_ZT3))) ?_
    exact rcQ (ai @zN_0 (ai @lconsA (ai @lnilA @bz_ZT3)))
  · have bs : (s == []) = false := by simpa using hs0
    have hsl : (0 : Int) < (s.length : Int) := by have := List.length_pos_iff.2 hs0; omega
    by_cases h45 : ((s.getD 0 0).toNat : Int) = 45
    · have hs45 : s.getD 0 0 = 45 := UInt8.toNat_inj.1 (by show (s.getD 0 0).toNat = 45; omega)
      have hgt : g = true := by
        rw [hg]; unfold ngT
        match s, hs0, hs45 with
        | c :: r, _, h => have : c = 45 := h; rw [this]; rfl
      have hts : s.drop 1 = t := by rw [ht]; unfold bdT; rw [← hg, hgt, if_pos rfl]
      have h1l : (1 : Int) ≤ (s.length : Int) := by omega
      have hs48 : ¬ s = [48] := fun e => by rw [e] at hs45; exact absurd hs45 (by decide)
      have bs48 : (s == [48]) = false := by simpa using hs48
      rw [hts] at tz1
      have hst := tz1
      have hgb := hgt
      by_cases ht0 : t = []
      · obtain ⟨e1, e2⟩ := hneg (fun h => (hiff.1 h).1 ht0)
        rw [e1, e2]
        have bt : (t == []) = true := by simpa using ht0
        repeat first
          | (refine hK _ ?_; clear hK K)
          | ((first | refine vm_reg (fun K hK => ?_) | refine vm_dreg (fun K hK => ?_) | refine vm_dregx (fun K hK => ?_)); simp (disch := (first | omega | assumption)) only [S1, ↓reduceIte, Nat.reduceEqDiff, Nat.reduceAdd, Nat.reduceMul, Nat.reduceDiv, AOp.sb, AOp.mut, frzf, ↓Bool.false_eq_true, beq_self_eq_true, ite_self, Nat.reduceLeDiff, Int.reduceEq, Int.reduceSub, Int.reduceAdd, Int.reduceNeg, Int.reduceLT, Int.reduceLE, Nat.reduceLT, bz_ZT3, List.length_nil, List.length_cons, bs, hsl, tz0, h45, h1l, tz1, bt]; refine hK _ ?_; clear hK K)
          | simp only [Sv, ↓reduceIte, Nat.reduceEqDiff]
        exact rcQ (ai @zN_0 (ai @lconsA (ai @lnilA @bz_ZT3)))
      · have bt : (t == []) = false := by simpa using ht0
        have hlen : (0 : Int) < (t.length : Int) := by have := List.length_pos_iff.2 ht0; omega
        by_cases h1 : ((t.getD 0 0).toNat : Int) = 48
        · have ht48 : t.getD 0 0 = 48 := UInt8.toNat_inj.1 (by show (t.getD 0 0).toNat = 48; omega)
          obtain ⟨e1, e2⟩ := hneg (fun h => (hiff.1 h).2.1 ⟨ht48, hs48⟩)
          rw [e1, e2]
          repeat first
            | (refine hK _ ?_; clear hK K)
            | ((first | refine vm_reg (fun K hK => ?_) | refine vm_dreg (fun K hK => ?_) | refine vm_dregx (fun K hK => ?_)); simp (disch := (first | omega | assumption)) only [S1, ↓reduceIte, Nat.reduceEqDiff, Nat.reduceAdd, Nat.reduceMul, Nat.reduceDiv, AOp.sb, AOp.mut, frzf, ↓Bool.false_eq_true, beq_self_eq_true, ite_self, Nat.reduceLeDiff, Int.reduceEq, Int.reduceSub, Int.reduceAdd, Int.reduceNeg, Int.reduceLT, Int.reduceLE, Nat.reduceLT, bz_ZT3, List.length_nil, List.length_cons, bs, hsl, tz0, h45, h1l, tz1, bt, h1, hlen, bs48]; refine hK _ ?_; clear hK K)
            | simp only [Sv, ↓reduceIte, Nat.reduceEqDiff]
          exact rcQ (ai @zN_0 (ai @lconsA (ai @lnilA @bz_ZT3)))
        · have hok1 : ¬ (t.getD 0 0 = 48 ∧ s ≠ [48]) := fun h => h1 (by rw [h.1]; rfl)
          repeat first
            | (refine hK _ ?_; clear hK K)
            | ((first | refine vm_reg (fun K hK => ?_) | refine vm_dreg (fun K hK => ?_) | refine vm_dregx (fun K hK => ?_)); simp (disch := (first | omega | assumption)) only [S1, ↓reduceIte, Nat.reduceEqDiff, Nat.reduceAdd, Nat.reduceMul, Nat.reduceDiv, AOp.sb, AOp.mut, frzf, ↓Bool.false_eq_true, beq_self_eq_true, ite_self, Nat.reduceLeDiff, Int.reduceEq, Int.reduceSub, Int.reduceAdd, Int.reduceNeg, Int.reduceLT, Int.reduceLE, Nat.reduceLT, bz_ZT3, List.length_nil, List.length_cons, bs, hsl, tz0, h45, h1l, tz1, bt, h1, hlen]; refine hK _ ?_; clear hK K)
            | simp only [Sv, ↓reduceIte, Nat.reduceEqDiff]
          have htp : 0 < t.length := List.length_pos_iff.2 ht0
          refine vm_loopA [(6, 38, 1)] Nat (fun k => ⟨[(2, .pt 0 0), (4, .s t), (5, .b g), (6, .ow 1 1 (t.length - k)), (7, .i .i64 ((k : Int) - 1))], [(0, some ⟨25, 2, [.b false, .l 1 []], true, true⟩), (1, some ⟨38, 1, W ((t.drop k).reverse.map dvl), true, false⟩)], 2⟩)
            (fun k => k ≤ t.length ∧ ∀ c, c ∈ t.drop k → isDg c = true) (fun k => k) t.length ⟨Nat.le_refl _, fun c hc => by rw [List.drop_length] at hc; cases hc⟩ (by exact leQ) (by
            simp (disch := (first | omega | assumption)) only [Sl, Sa, Sw, ↓reduceIte, Nat.reduceEqDiff, Nat.reduceLT, List.all_nil, List.all_cons, Nat.reduceBneDiff, Nat.reduceAdd, bne_iff_ne, ne_eq, reduceCtorEq, not_false_eq_true, not_true_eq_false, Bool.and_true, Bool.true_and, and_true, true_and, and_self, i_eq, hgb, hst]
            rw [Nat.sub_self, List.drop_length]
            repeat' first | rfl | omega | (simp only [List.length_append, List.length_cons, List.length_nil]; done) | apply And.intro) ?_
          rintro k ⟨hk, hall⟩ Q' hQ he hr
          by_cases hk0 : k = 0
          · subst hk0
            rw [List.drop_zero] at hall
            obtain ⟨e1, e2⟩ := hpos (hiff.2 ⟨ht0, hok1, hall⟩)
            have hL := dgsT_lt hall
            have hlt := numT_lt hall
            have hdl : (dgsT t).length = t.length := by unfold dgsT; rw [List.length_map, List.length_reverse]
            have hu := rundigs_spec (dgsT t) 10 (fun x hx => Nat.lt_trans (hL x hx) (by decide)) (by decide) (by omega)
            obtain ⟨u1, u2⟩ := unD_pos (b := 10) (by decide) hL
            rw [u1, u2, show nv 10 (dgsT t) = numT t from rfl] at hu
            have hmk := rmakeD g hlt (by omega)
            have hn : ¬ (0 : Int) ≤ ((0 : Nat) : Int) - 1 := by omega
            rw [Nat.sub_zero, List.drop_zero, show t.reverse.map dvl = dgsT t from rfl]
            generalize dgsT t = ds at *
            generalize numT t = nn at *
            refine spQ (ai @hn (ai @lconsA (ai @lnilA @bz_ZT3))) ?_
            refine he _ _ ?_
            exact wcQ (ai @e2 (ai @e1 (ai @lconsA (ai @lnilA @bz_ZT3))))
          · obtain ⟨i, rfl⟩ : ∃ i, k = i + 1 := ⟨k - 1, by omega⟩
            rw [show ((i + 1 : Nat) : Int) - 1 = (i : Int) from by omega]
            have hge : (0 : Int) ≤ (i : Int) := by omega
            have hil : i < t.length := by omega
            have hil2 : (i : Int) < (t.length : Int) := by omega
            have hmem : t.getD i 0 ∈ t := by rw [List.getD_eq_getElem?_getD, List.getElem?_eq_getElem hil]; exact List.getElem_mem hil
            have happ := drop_revD hil
            have hc256 := (t.getD i 0).toNat_lt
            have hdd : t.drop i = t.getD i 0 :: t.drop (i + 1) := by
              rw [List.drop_eq_getElem_cons hil, List.getD_eq_getElem?_getD, List.getElem?_eq_getElem hil]; rfl
            obtain ⟨c, hc⟩ : ∃ c, c = t.getD i 0 := ⟨_, rfl⟩
            rw [← hc] at hmem happ hc256 hdd
            have hbad : ¬ isDg c = true → pzV s = 0 ∧ pzE s = 5 := fun h => hneg fun hz => h ((hiff.1 hz).2.2 c hmem)
            by_cases h1 : (c.toNat : Int) < 48
            · obtain ⟨e1, e2⟩ := hbad (by unfold isDg; rw [decide_eq_true_eq]; omega)
              repeat first
                | (refine hK _ ?_; clear hK K)
                | ((first | refine vm_reg (fun K hK => ?_) | refine vm_dreg (fun K hK => ?_) | refine vm_dregx (fun K hK => ?_)); simp (disch := (first | omega | assumption)) only [S1, ↓reduceIte, Nat.reduceEqDiff, Nat.reduceAdd, Nat.reduceMul, Nat.reduceDiv, AOp.sb, AOp.mut, frzf, ↓Bool.false_eq_true, beq_self_eq_true, ite_self, Nat.reduceLeDiff, Int.reduceEq, Int.reduceSub, Int.reduceAdd, Int.reduceNeg, Int.reduceLT, Int.reduceLE, Nat.reduceLT, bz_ZT3, List.length_nil, List.length_cons, hge, hil2, ← hc, h1]; refine hK _ ?_; clear hK K)
                | simp only [Sv, ↓reduceIte, Nat.reduceEqDiff]
              refine hr _ ?_
              exact pcQ (ai @zN_0 (ai @e2 (ai @e1 (ai @lconsA (ai @lnilA @bz_ZT3)))))
            · by_cases h2 : (57 : Int) < (c.toNat : Int)
              · obtain ⟨e1, e2⟩ := hbad (by unfold isDg; rw [decide_eq_true_eq]; omega)
                repeat first
                  | (refine hK _ ?_; clear hK K)
                  | ((first | refine vm_reg (fun K hK => ?_) | refine vm_dreg (fun K hK => ?_) | refine vm_dregx (fun K hK => ?_)); simp (disch := (first | omega | assumption)) only [S1, ↓reduceIte, Nat.reduceEqDiff, Nat.reduceAdd, Nat.reduceMul, Nat.reduceDiv, AOp.sb, AOp.mut, frzf, ↓Bool.false_eq_true, beq_self_eq_true, ite_self, Nat.reduceLeDiff, Int.reduceEq, Int.reduceSub, Int.reduceAdd, Int.reduceNeg, Int.reduceLT, Int.reduceLE, Nat.reduceLT, bz_ZT3, List.length_nil, List.length_cons, hge, hil2, ← hc, h1, h2]; refine hK _ ?_; clear hK K)
                  | simp only [Sv, ↓reduceIte, Nat.reduceEqDiff]
                refine hr _ ?_
                exact pcQ (ai @zN_0 (ai @e2 (ai @e1 (ai @lconsA (ai @lnilA @bz_ZT3)))))
              · have hd : isDg c = true := by unfold isDg; rw [decide_eq_true_eq]; omega
                have w1 : IntKind.u8.wrap ((c.toNat : Int) - 48) = ((dvl c : Nat) : Int) := by
                  unfold dvl
                  show ((c.toNat : Int) - 48) % 256 = _
                  omega
                have w2 : IntKind.u64.wrap ((dvl c : Nat) : Int) = ((dvl c : Nat) : Int) := wu (by have := dvl_lt hd; omega)
                have hlen2 : ((t.drop (i + 1)).reverse.map dvl).length = t.length - (i + 1) := by rw [List.length_map, List.length_reverse, List.length_drop]
                have hWa : W ((t.drop (i + 1)).reverse.map dvl) ++ [V.i .u64 ((dvl c : Nat) : Int)] = W ((t.drop i).reverse.map dvl) := by rw [happ]; exact W_app1 _ _
                have hsub : t.length - (i + 1) + 1 = t.length - i := by omega
                repeat first
                  | (refine hK _ ?_; clear hK K)
                  | ((first | refine vm_reg (fun K hK => ?_) | refine vm_dreg (fun K hK => ?_) | refine vm_dregx (fun K hK => ?_)); simp (disch := (first | omega | assumption)) only [S1, ↓reduceIte, Nat.reduceEqDiff, Nat.reduceAdd, Nat.reduceMul, Nat.reduceDiv, AOp.sb, AOp.mut, frzf, ↓Bool.false_eq_true, beq_self_eq_true, ite_self, Nat.reduceLeDiff, Int.reduceEq, Int.reduceSub, Int.reduceAdd, Int.reduceNeg, Int.reduceLT, Int.reduceLE, Nat.reduceLT, bz_ZT3, List.length_nil, List.length_cons, hge, hil2, ← hc, h1, h2, w1, w2, hlen2, hWa, hsub]; refine hK _ ?_; clear hK K)
                  | simp only [Sv, ↓reduceIte, Nat.reduceEqDiff]
                refine hQ _ i ⟨by omega, fun x hx => ?_⟩ (by omega) ?_
                · rw [hdd, List.mem_cons] at hx
                  rcases hx with hx | hx
                  · rw [hx]; exact hd
                  · exact hall x hx
                · simp (disch := (first | omega | assumption)) only [Sl, Sa, Sw, ↓reduceIte, Nat.reduceEqDiff, Nat.reduceLT, List.all_nil, List.all_cons, Nat.reduceBneDiff, Nat.reduceAdd, bne_iff_ne, ne_eq, reduceCtorEq, not_false_eq_true, not_true_eq_false, Bool.and_true, Bool.true_and, and_true, true_and, and_self, i_eq]
                  repeat' first | rfl | omega | (simp only [List.length_append, List.length_cons, List.length_nil]; done) | apply And.intro
    · have hgf : g = false := by
        rw [hg]; unfold ngT
        match s, hs0, h45 with
        | c :: r, _, h =>
          have : c ≠ 45 := fun e => h (by rw [e]; rfl)
          simpa using this
      have hts : s = t := by rw [ht]; unfold bdT; rw [← hg, hgf, if_neg (by simp)]
      have hgb := hgf
      have hst := hts
      have ht0 : ¬ t = [] := by rw [← hts]; exact hs0
      by_cases h1 : ((s.getD 0 0).toNat : Int) = 48
      · have ht48 : t.getD 0 0 = 48 := by rw [← hts]; exact UInt8.toNat_inj.1 (by show (s.getD 0 0).toNat = 48; omega)
        by_cases h2 : s = [48]
        · have hok1 : ¬ (t.getD 0 0 = 48 ∧ s ≠ [48]) := fun h => h.2 h2
          have b2 : (s == [48]) = true := by simpa using h2
          refine spQ (ai @b2 (ai @h1 (ai @h45 (ai @tz0 (ai @hsl (ai @bs (ai @lconsA (ai @lnilA @bz_ZT3)))))))) ?_
          have htp : 0 < t.length := List.length_pos_iff.2 ht0
          refine vm_loopA [(6, 38, 1)] Nat (fun k => ⟨[(2, .pt 0 0), (4, .s t), (5, .b g), (6, .ow 1 1 (t.length - k)), (7, .i .i64 ((k : Int) - 1))], [(0, some ⟨25, 2, [.b false, .l 1 []], true, true⟩), (1, some ⟨38, 1, W ((t.drop k).reverse.map dvl), true, false⟩)], 2⟩)
            (fun k => k ≤ t.length ∧ ∀ c, c ∈ t.drop k → isDg c = true) (fun k => k) t.length ⟨Nat.le_refl _, fun c hc => by rw [List.drop_length] at hc; cases hc⟩ (by exact leQ) (by
            simp (disch := (first | omega | assumption)) only [Sl, Sa, Sw, ↓reduceIte, Nat.reduceEqDiff, Nat.reduceLT, List.all_nil, List.all_cons, Nat.reduceBneDiff, Nat.reduceAdd, bne_iff_ne, ne_eq, reduceCtorEq, not_false_eq_true, not_true_eq_false, Bool.and_true, Bool.true_and, and_true, true_and, and_self, i_eq, hgb, hst]
            rw [Nat.sub_self, List.drop_length]
            repeat' first | rfl | omega | (simp only [List.length_append, List.length_cons, List.length_nil]; done) | apply And.intro) ?_
          rintro k ⟨hk, hall⟩ Q' hQ he hr
          by_cases hk0 : k = 0
          · subst hk0
            rw [List.drop_zero] at hall
            obtain ⟨e1, e2⟩ := hpos (hiff.2 ⟨ht0, hok1, hall⟩)
            have hL := dgsT_lt hall
            have hlt := numT_lt hall
            have hdl : (dgsT t).length = t.length := by unfold dgsT; rw [List.length_map, List.length_reverse]
            have hu := rundigs_spec (dgsT t) 10 (fun x hx => Nat.lt_trans (hL x hx) (by decide)) (by decide) (by omega)
            obtain ⟨u1, u2⟩ := unD_pos (b := 10) (by decide) hL
            rw [u1, u2, show nv 10 (dgsT t) = numT t from rfl] at hu
            have hmk := rmakeD g hlt (by omega)
            have hn : ¬ (0 : Int) ≤ ((0 : Nat) : Int) - 1 := by omega
            rw [Nat.sub_zero, List.drop_zero, show t.reverse.map dvl = dgsT t from rfl]
            generalize dgsT t = ds at *
            generalize numT t = nn at *
            refine spQ (ai @hn (ai @lconsA (ai @lnilA @bz_ZT3))) ?_
            refine he _ _ ?_
            exact wcQ (ai @e2 (ai @e1 (ai @lconsA (ai @lnilA @bz_ZT3))))
          · obtain ⟨i, rfl⟩ : ∃ i, k = i + 1 := ⟨k - 1, by omega⟩
            rw [show ((i + 1 : Nat) : Int) - 1 = (i : Int) from by omega]
            have hge : (0 : Int) ≤ (i : Int) := by omega
            have hil : i < t.length := by omega
            have hil2 : (i : Int) < (t.length : Int) := by omega
            have hmem : t.getD i 0 ∈ t := by rw [List.getD_eq_getElem?_getD, List.getElem?_eq_getElem hil]; exact List.getElem_mem hil
            have happ := drop_revD hil
            have hc256 := (t.getD i 0).toNat_lt
            have hdd : t.drop i = t.getD i 0 :: t.drop (i + 1) := by
              rw [List.drop_eq_getElem_cons hil, List.getD_eq_getElem?_getD, List.getElem?_eq_getElem hil]; rfl
            obtain ⟨c, hc⟩ : ∃ c, c = t.getD i 0 := ⟨_, rfl⟩
            rw [← hc] at hmem happ hc256 hdd
            have hbad : ¬ isDg c = true → pzV s = 0 ∧ pzE s = 5 := fun h => hneg fun hz => h ((hiff.1 hz).2.2 c hmem)
            by_cases h1 : (c.toNat : Int) < 48
            · obtain ⟨e1, e2⟩ := hbad (by unfold isDg; rw [decide_eq_true_eq]; omega)
              repeat first
                | (refine hK _ ?_; clear hK K)
                | ((first | refine vm_reg (fun K hK => ?_) | refine vm_dreg (fun K hK => ?_) | refine vm_dregx (fun K hK => ?_)); simp (disch := (first | omega | assumption)) only [S1, ↓reduceIte, Nat.reduceEqDiff, Nat.reduceAdd, Nat.reduceMul, Nat.reduceDiv, AOp.sb, AOp.mut, frzf, ↓Bool.false_eq_true, beq_self_eq_true, ite_self, Nat.reduceLeDiff, Int.reduceEq, Int.reduceSub, Int.reduceAdd, Int.reduceNeg, Int.reduceLT, Int.reduceLE, Nat.reduceLT, bz_ZT3, List.length_nil, List.length_cons, hge, hil2, ← hc, h1]; refine hK _ ?_; clear hK K)
                | simp only [Sv, ↓reduceIte, Nat.reduceEqDiff]
              refine hr _ ?_
              exact pcQ (ai @zN_0 (ai @e2 (ai @e1 (ai @lconsA (ai @lnilA @bz_ZT3)))))
            · by_cases h2 : (57 : Int) < (c.toNat : Int)
              · obtain ⟨e1, e2⟩ := hbad (by unfold isDg; rw [decide_eq_true_eq]; omega)
                repeat first
                  | (refine hK _ ?_; clear hK K)
                  | ((first | refine vm_reg (fun K hK => ?_) | refine vm_dreg (fun K hK => ?_) | refine vm_dregx (fun K hK => ?_)); simp (disch := (first | omega | assumption)) only [S1, ↓reduceIte, Nat.reduceEqDiff, Nat.reduceAdd, Nat.reduceMul, Nat.reduceDiv, AOp.sb, AOp.mut, frzf, ↓Bool.false_eq_true, beq_self_eq_true, ite_self, Nat.reduceLeDiff, Int.reduceEq, Int.reduceSub, Int.reduceAdd, Int.reduceNeg, Int.reduceLT, Int.reduceLE, Nat.reduceLT, bz_ZT3, List.length_nil, List.length_cons, hge, hil2, ← hc, h1, h2]; refine hK _ ?_; clear hK K)
                  | simp only [Sv, ↓reduceIte, Nat.reduceEqDiff]
                refine hr _ ?_
                exact pcQ (ai @zN_0 (ai @e2 (ai @e1 (ai @lconsA (ai @lnilA @bz_ZT3)))))
              · have hd : isDg c = true := by unfold isDg; rw [decide_eq_true_eq]; omega
                have w1 : IntKind.u8.wrap ((c.toNat : Int) - 48) = ((dvl c : Nat) : Int) := by
                  unfold dvl
                  show ((c.toNat : Int) - 48) % 256 = _
                  omega
                have w2 : IntKind.u64.wrap ((dvl c : Nat) : Int) = ((dvl c : Nat) : Int) := wu (by have := dvl_lt hd; omega)
                have hlen2 : ((t.drop (i + 1)).reverse.map dvl).length = t.length - (i + 1) := by rw [List.length_map, List.length_reverse, List.length_drop]
                have hWa : W ((t.drop (i + 1)).reverse.map dvl) ++ [V.i .u64 ((dvl c : Nat) : Int)] = W ((t.drop i).reverse.map dvl) := by rw [happ]; exact W_app1 _ _
                have hsub : t.length - (i + 1) + 1 = t.length - i := by omega
                repeat first
                  | (refine hK _ ?_; clear hK K)
                  | ((first | refine vm_reg (fun K hK => ?_) | refine vm_dreg (fun K hK => ?_) | refine vm_dregx (fun K hK => ?_)); simp (disch := (first | omega | assumption)) only [S1, ↓reduceIte, Nat.reduceEqDiff, Nat.reduceAdd, Nat.reduceMul, Nat.reduceDiv, AOp.sb, AOp.mut, frzf, ↓Bool.false_eq_true, beq_self_eq_true, ite_self, Nat.reduceLeDiff, Int.reduceEq, Int.reduceSub, Int.reduceAdd, Int.reduceNeg, Int.reduceLT, Int.reduceLE, Nat.reduceLT, bz_ZT3, List.length_nil, List.length_cons, hge, hil2, ← hc, h1, h2, w1, w2, hlen2, hWa, hsub]; refine hK _ ?_; clear hK K)
                  | simp only [Sv, ↓reduceIte, Nat.reduceEqDiff]
                refine hQ _ i ⟨by omega, fun x hx => ?_⟩ (by omega) ?_
                · rw [hdd, List.mem_cons] at hx
                  rcases hx with hx | hx
                  · rw [hx]; exact hd
                  · exact hall x hx
                · simp (disch := (first | omega | assumption)) only [Sl, Sa, Sw, ↓reduceIte, Nat.reduceEqDiff, Nat.reduceLT, List.all_nil, List.all_cons, Nat.reduceBneDiff, Nat.reduceAdd, bne_iff_ne, ne_eq, reduceCtorEq, not_false_eq_true, not_true_eq_false, Bool.and_true, Bool.true_and, and_true, true_and, and_self, i_eq]
                  repeat' first | rfl | omega | (simp only [List.length_append, List.length_cons, List.length_nil]; done) | apply And.intro
        · obtain ⟨e1, e2⟩ := hneg (fun h => (hiff.1 h).2.1 ⟨ht48, h2⟩)
          rw [e1, e2]
          have b2 : (s == [48]) = false := by simpa using h2
          refine spQ (ai @b2 (ai @h1 (ai @h45 (ai @tz0 (ai @hsl (ai @bs (ai @lconsA (ai @lnilA @bz_ZT3)))))))) ?_
          exact rcQ (ai @zN_0 (ai @lconsA (ai @lnilA @bz_ZT3)))
      · have hok1 : ¬ (t.getD 0 0 = 48 ∧ s ≠ [48]) := fun h => h1 (by rw [hts, h.1]; rfl)
        refine spQ (ai @h1 (ai @h45 (ai @tz0 (ai @hsl (ai @bs (ai @lconsA (ai @lnilA @bz_ZT3))))))) ?_
        have htp : 0 < t.length := List.length_pos_iff.2 ht0
        refine vm_loopA [(6, 38, 1)] Nat (fun k => ⟨[(2, .pt 0 0), (4, .s t), (5, .b g), (6, .ow 1 1 (t.length - k)), (7, .i .i64 ((k : Int) - 1))], [(0, some ⟨25, 2, [.b false, .l 1 []], true, true⟩), (1, some ⟨38, 1, W ((t.drop k).reverse.map dvl), true, false⟩)], 2⟩)
          (fun k => k ≤ t.length ∧ ∀ c, c ∈ t.drop k → isDg c = true) (fun k => k) t.length ⟨Nat.le_refl _, fun c hc => by rw [List.drop_length] at hc; cases hc⟩ (by exact leQ) (by
          simp (disch := (first | omega | assumption)) only [Sl, Sa, Sw, ↓reduceIte, Nat.reduceEqDiff, Nat.reduceLT, List.all_nil, List.all_cons, Nat.reduceBneDiff, Nat.reduceAdd, bne_iff_ne, ne_eq, reduceCtorEq, not_false_eq_true, not_true_eq_false, Bool.and_true, Bool.true_and, and_true, true_and, and_self, i_eq, hgb, hst]
          rw [Nat.sub_self, List.drop_length]
          repeat' first | rfl | omega | (simp only [List.length_append, List.length_cons, List.length_nil]; done) | apply And.intro) ?_
        rintro k ⟨hk, hall⟩ Q' hQ he hr
        by_cases hk0 : k = 0
        · subst hk0
          rw [List.drop_zero] at hall
          obtain ⟨e1, e2⟩ := hpos (hiff.2 ⟨ht0, hok1, hall⟩)
          have hL := dgsT_lt hall
          have hlt := numT_lt hall
          have hdl : (dgsT t).length = t.length := by unfold dgsT; rw [List.length_map, List.length_reverse]
          have hu := rundigs_spec (dgsT t) 10 (fun x hx => Nat.lt_trans (hL x hx) (by decide)) (by decide) (by omega)
          obtain ⟨u1, u2⟩ := unD_pos (b := 10) (by decide) hL
          rw [u1, u2, show nv 10 (dgsT t) = numT t from rfl] at hu
          have hmk := rmakeD g hlt (by omega)
          have hn : ¬ (0 : Int) ≤ ((0 : Nat) : Int) - 1 := by omega
          rw [Nat.sub_zero, List.drop_zero, show t.reverse.map dvl = dgsT t from rfl]
          generalize dgsT t = ds at *
          generalize numT t = nn at *
          refine spQ (ai @hn (ai @lconsA (ai @lnilA @bz_ZT3))) ?_
          refine he _ _ ?_
          exact wcQ (ai @e2 (ai @e1 (ai @lconsA (ai @lnilA @bz_ZT3))))
        · obtain ⟨i, rfl⟩ : ∃ i, k = i + 1 := ⟨k - 1, by omega⟩
          rw [show ((i + 1 : Nat) : Int) - 1 = (i : Int) from by omega]
          have hge : (0 : Int) ≤ (i : Int) := by omega
          have hil : i < t.length := by omega
          have hil2 : (i : Int) < (t.length : Int) := by omega
          have hmem : t.getD i 0 ∈ t := by rw [List.getD_eq_getElem?_getD, List.getElem?_eq_getElem hil]; exact List.getElem_mem hil
          have happ := drop_revD hil
          have hc256 := (t.getD i 0).toNat_lt
          have hdd : t.drop i = t.getD i 0 :: t.drop (i + 1) := by
            rw [List.drop_eq_getElem_cons hil, List.getD_eq_getElem?_getD, List.getElem?_eq_getElem hil]; rfl
          obtain ⟨c, hc⟩ : ∃ c, c = t.getD i 0 := ⟨_, rfl⟩
          rw [← hc] at hmem happ hc256 hdd
          have hbad : ¬ isDg c = true → pzV s = 0 ∧ pzE s = 5 := fun h => hneg fun hz => h ((hiff.1 hz).2.2 c hmem)
          by_cases h1 : (c.toNat : Int) < 48
          · obtain ⟨e1, e2⟩ := hbad (by unfold isDg; rw [decide_eq_true_eq]; omega)
            repeat first
              | (refine hK _ ?_; clear hK K)
              | ((first | refine vm_reg (fun K hK => ?_) | refine vm_dreg (fun K hK => ?_) | refine vm_dregx (fun K hK => ?_)); simp (disch := (first | omega | assumption)) only [S1, ↓reduceIte, Nat.reduceEqDiff, Nat.reduceAdd, Nat.reduceMul, Nat.reduceDiv, AOp.sb, AOp.mut, frzf, ↓Bool.false_eq_true, beq_self_eq_true, ite_self, Nat.reduceLeDiff, Int.reduceEq, Int.reduceSub, Int.reduceAdd, Int.reduceNeg, Int.reduceLT, Int.reduceLE, Nat.reduceLT, bz_ZT3, List.length_nil, List.length_cons, hge, hil2, ← hc, h1]; refine hK _ ?_; clear hK K)
              | simp only [Sv, ↓reduceIte, Nat.reduceEqDiff]
            refine hr _ ?_
            exact pcQ (ai @zN_0 (ai @e2 (ai @e1 (ai @lconsA (ai @lnilA @bz_ZT3)))))
          · by_cases h2 : (57 : Int) < (c.toNat : Int)
            · obtain ⟨e1, e2⟩ := hbad (by unfold isDg; rw [decide_eq_true_eq]; omega)
              repeat first
                | (refine hK _ ?_; clear hK K)
                | ((first | refine vm_reg (fun K hK => ?_) | refine vm_dreg (fun K hK => ?_) | refine vm_dregx (fun K hK => ?_)); simp (disch := (first | omega | assumption)) only [S1, ↓reduceIte, Nat.reduceEqDiff, Nat.reduceAdd, Nat.reduceMul, Nat.reduceDiv, AOp.sb, AOp.mut, frzf, ↓Bool.false_eq_true, beq_self_eq_true, ite_self, Nat.reduceLeDiff, Int.reduceEq, Int.reduceSub, Int.reduceAdd, Int.reduceNeg, Int.reduceLT, Int.reduceLE, Nat.reduceLT, bz_ZT3, List.length_nil, List.length_cons, hge, hil2, ← hc, h1, h2]; refine hK _ ?_; clear hK K)
                | simp only [Sv, ↓reduceIte, Nat.reduceEqDiff]
              refine hr _ ?_
              exact pcQ (ai @zN_0 (ai @e2 (ai @e1 (ai @lconsA (ai @lnilA @bz_ZT3)))))
            · have hd : isDg c = true := by unfold isDg; rw [decide_eq_true_eq]; omega
              have w1 : IntKind.u8.wrap ((c.toNat : Int) - 48) = ((dvl c : Nat) : Int) := by
                unfold dvl
                show ((c.toNat : Int) - 48) % 256 = _
                omega
              have w2 : IntKind.u64.wrap ((dvl c : Nat) : Int) = ((dvl c : Nat) : Int) := wu (by have := dvl_lt hd; omega)
              have hlen2 : ((t.drop (i + 1)).reverse.map dvl).length = t.length - (i + 1) := by rw [List.length_map, List.length_reverse, List.length_drop]
              have hWa : W ((t.drop (i + 1)).reverse.map dvl) ++ [V.i .u64 ((dvl c : Nat) : Int)] = W ((t.drop i).reverse.map dvl) := by rw [happ]; exact W_app1 _ _
              have hsub : t.length - (i + 1) + 1 = t.length - i := by omega
              repeat first
                | (refine hK _ ?_; clear hK K)
                | ((first | refine vm_reg (fun K hK => ?_) | refine vm_dreg (fun K hK => ?_) | refine vm_dregx (fun K hK => ?_)); simp (disch := (first | omega | assumption)) only [S1, ↓reduceIte, Nat.reduceEqDiff, Nat.reduceAdd, Nat.reduceMul, Nat.reduceDiv, AOp.sb, AOp.mut, frzf, ↓Bool.false_eq_true, beq_self_eq_true, ite_self, Nat.reduceLeDiff, Int.reduceEq, Int.reduceSub, Int.reduceAdd, Int.reduceNeg, Int.reduceLT, Int.reduceLE, Nat.reduceLT, bz_ZT3, List.length_nil, List.length_cons, hge, hil2, ← hc, h1, h2, w1, w2, hlen2, hWa, hsub]; refine hK _ ?_; clear hK K)
                | simp only [Sv, ↓reduceIte, Nat.reduceEqDiff]
              refine hQ _ i ⟨by omega, fun x hx => ?_⟩ (by omega) ?_
              · rw [hdd, List.mem_cons] at hx
                rcases hx with hx | hx
                · rw [hx]; exact hd
                · exact hall x hx
              · simp (disch := (first | omega | assumption)) only [Sl, Sa, Sw, ↓reduceIte, Nat.reduceEqDiff, Nat.reduceLT, List.all_nil, List.all_cons, Nat.reduceBneDiff, Nat.reduceAdd, bne_iff_ne, ne_eq, reduceCtorEq, not_false_eq_true, not_true_eq_false, Bool.and_true, Bool.true_and, and_true, true_and, and_self, i_eq]
                repeat' first | rfl | omega | (simp only [List.length_append, List.length_cons, List.length_nil]; done) | apply And.intro
def a3 : AC := .seq (.reg [qr 2 (.bx 25 (.t 0)),
 qr 4 (.mv (.k (.b false)))])
 (.seq (.seq (.reg [qr 12 (.call 4 []),
 qr 13 (.un .not (.t 12))])
 (.cond (.t 13)
 (.seq (.reg [qr 4 (.mv (.k (.b false)))])
 (.ret))
 (.skip)))
 (.seq (.reg [qr 14 (.ld true 2 (.t 2)),
 qr 15 (.call 5 [(1, (.t 14))]),
 qm 5 15])
 (.seq (.reg [qm 17 1,
 qr 18 (.call 6 [(1, (.t 17))]),
 qm 16 18,
 qr 19 (.ext (.t 16) 0),
 qr 20 (.ext (.t 16) 1),
 qr 6 (.al 25 [(.b false), (.l 1 [])]),
 qn (.st 2 (.t 6) (.t 19)),
 qm 7 20])
 (.seq (.reg [qm 22 1,
 qr 23 (.call 7 [(1, (.t 22))]),
 qm 21 23,
 qr 24 (.ext (.t 21) 0),
 qr 25 (.ext (.t 21) 1),
 qr 8 (.al 25 [(.b false), (.l 1 [])]),
 qn (.st 2 (.t 8) (.t 24)),
 qm 9 25])
 (.seq (.reg [qm 27 5,
 qr 28 (.call 7 [(1, (.t 27))]),
 qm 26 28,
 qr 29 (.ext (.t 26) 0),
 qr 30 (.ext (.t 26) 1),
 qr 10 (.al 25 [(.b false), (.l 1 [])]),
 qn (.st 2 (.t 10) (.t 29)),
 qm 11 30])
 (.seq (.seq (.dreg [qm 31 5,
 qr 32 (.ld true 2 (.t 2)),
 qr 33 (.call 8 [(1, (.t 32))]),
 qr 34 (.bin .neq (.t 31) (.t 33)),
 qm 35 34,
 ⟨some 36, some (35, false), .ld true 2 (.t 6)⟩,
 ⟨some 37, some (35, false), .ld true 2 (.t 8)⟩,
 ⟨some 38, some (35, false), .call 9 [(1, (.t 36)), (1, (.t 37))]⟩,
 ⟨some 39, some (35, false), .un .not (.t 38)⟩,
 qr 40 (.pick (.t 35) (.k (.b true)) (.t 39)),
 qm 41 40,
 ⟨some 42, some (41, false), .mv (.t 7)⟩,
 ⟨some 43, some (41, false), .mv (.t 9)⟩,
 ⟨some 44, some (41, false), .bin .neq (.t 42) (.t 43)⟩,
 qr 45 (.pick (.t 41) (.k (.b true)) (.t 44)),
 qm 46 45,
 ⟨some 47, some (46, false), .mv (.t 11)⟩,
 ⟨some 48, some (46, false), .bin .neq (.t 47) (.k (.i .i64 0))⟩,
 qr 49 (.pick (.t 46) (.k (.b true)) (.t 48)),
 qm 50 49,
 ⟨some 51, some (50, false), .ld true 2 (.t 10)⟩,
 ⟨some 52, some (50, false), .ld true 2 (.t 2)⟩,
 ⟨some 53, some (50, false), .call 10 [(1, (.t 52))]⟩,
 ⟨some 54, some (50, false), .call 9 [(1, (.t 51)), (1, (.t 53))]⟩,
 ⟨some 55, some (50, false), .un .not (.t 54)⟩,
 qr 56 (.pick (.t 50) (.k (.b true)) (.t 55))])
 (.cond (.t 56)
 (.seq (.reg [qr 4 (.mv (.k (.b false)))])
 (.ret))
 (.skip)))
 (.seq (.reg [qm 57 9,
 qr 58 (.bin .neq (.t 57) (.k (.i .i64 0))),
 qm 59 58,
 ⟨some 60, some (59, false), .ld true 2 (.t 8)⟩,
 ⟨some 61, some (59, false), .call 5 [(1, (.t 60))]⟩,
 ⟨some 62, some (59, false), .mv (.t 1)⟩,
 ⟨some 63, some (59, false), .bin .eql (.t 61) (.t 62)⟩,
 qr 64 (.pick (.t 59) (.k (.b true)) (.t 63)),
 qm 4 64])
 (.ret))))))))
theorem zzTexts_spec (s : Bool) (a : List Nat) (tx : List UInt8) (m : Nat) (hm : m ≤ 1100000) (ha : Wd a) (la : a.length ≤ m) (lt : tx.length ≤ m) : AFun Tryd.prog J0 3 [zL s a, .s tx] (.b true) := by
  have l1 := zv_lt (s := s) ha la
  have p1 := zprint_spec s a m (by omega) ha la
  have p2 := rzparse_spec tx (by omega)
  have p3 := zparse_spec tx (by omega)
  have hl := zS_len l1
  have p4 := zparse_spec (zS (zv s a)) (by omega)
  obtain ⟨e1, e2⟩ := pz_pos (okZ_zS (zv s a))
  rw [e1, e2, valZ_zS] at p4
  have p5 := rzprint_spec s a m (by omega) ha la
  have hlt := pzV_lt lt
  have p6 := zsame_true (rfl : pzV tx = pzV tx) hlt (by omega)
  have p7 := rznorm_spec s a ha (by omega)
  have p8 := zsame_true (rfl : zv s a = zv s a) l1 (by omega)
  have p9 := zprintN hlt (by omega)
  by_cases hz : okZ tx = true
  · obtain ⟨f1, f2⟩ := pz_pos hz
    rw [f1, zS_okZ hz] at p9
    rw [f2] at p2 p3
    rw [f1] at p2 p3 p6
    generalize zv s a = z at *
    generalize valZ tx = y at *
    generalize zS z = t at *
    refine mkQ fol J0s Tryd.func3 a3 ?_
    unfold a3
    simp only [init_eq, initE, qm, qr, qn]
    have zc1 := zknown_spec
    exact wdQ (ai @lconsA (ai @lnilA @bz_ZT3))
  · obtain ⟨f1, f2⟩ := pz_neg hz
    rw [f2] at p2 p3
    generalize zv s a = z at *
    generalize pzV tx = y at *
    generalize zS z = t at *
    refine mkQ fol J0s Tryd.func3 a3 ?_
    unfold a3
    simp only [init_eq, initE, qm, qr, qn]
    have zc2 := zknown_spec
    exact wdQ (ai @lconsA (ai @lnilA @bz_ZT3))
end Go.Proofs.YtgbcjikcgckhbaaDoor
