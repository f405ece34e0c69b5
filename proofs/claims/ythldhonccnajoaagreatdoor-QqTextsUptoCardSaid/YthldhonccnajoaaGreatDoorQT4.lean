/-
  Rationals' texts, read by the document.
-/
import Derived.Test.YthldhonccnajoaaGreatDoorQT3
import Derived.Test.YthldhonccnajoaaGreatDoorQ20
namespace Go.Proofs.YthldhonccnajoaaGreatDoor
open Go Go.RowKit Ab
set_option linter.unusedSimpArgs false
set_option linter.unusedVariables false
set_option maxHeartbeats 10000000
theorem bz_QT4 : type_of% (And.intro @W_len (And.intro @D_len (And.intro @Nat.div_one (And.intro @Nat.mul_one (And.intro @tn_nat (And.intro @W_nf (And.intro @D_nf (And.intro @W_nil (And.intro @D_nil (And.intro @wi (And.intro @nf_g (And.intro @Bool.false_and (@W_cell))))))))))))) := And.intro @W_len (And.intro @D_len (And.intro @Nat.div_one (And.intro @Nat.mul_one (And.intro @tn_nat (And.intro @W_nf (And.intro @D_nf (And.intro @W_nil (And.intro @D_nil (And.intro @wi (And.intro @nf_g (And.intro @Bool.false_and (@W_cell))))))))))))
def a13 : AC := .seq (.reg [qr 2 (.al 27 [(.b false), (.l 1 []), (.l 1 [])]),
 qr 3 (.mv (.k (.i .i64 0)))])
 (.seq (.reg [qm 12 0,
 qr 13 (.slen (.t 12)),
 qr 14 (.bin .gtr (.t 13) (.k (.i .i64 0))),
 qm 15 14,
 ⟨some 16, some (15, true), .mv (.t 0)⟩,
 ⟨some 17, some (15, true), .six (.t 16) (.k (.i .i64 0))⟩,
 ⟨some 18, some (15, true), .bin .eql (.t 17) (.k (.i .u8 45))⟩,
 qr 19 (.pick (.t 15) (.t 18) (.k (.b false))),
 qm 4 19])
 (.seq (.seq (.reg [qm 20 4])
 (.cond (.t 20)
 (.reg [qm 21 0,
 qr 22 (.ssub (.t 21) (some (.k (.i .i64 1))) none),
 qm 0 22])
 (.skip)))
 (.seq (.reg [qm 23 0,
 qr 24 (.slen (.t 23)),
 qm 5 24])
 (.seq (.seq (.reg [qm 25 0,
 qr 26 (.slen (.t 25)),
 qr 27 (.bin .sub (.t 26) (.k (.i .i64 1))),
 qm 6 27])
 (.blk 0
 (.loop
 (.seq (.seq (.reg [qm 28 6,
 qr 29 (.bin .geq (.t 28) (.k (.i .i64 0)))])
 (.cond (.t 29)
 (.skip)
 (.exit 0)))
 (.seq (.blk 1
 (.seq (.reg [qm 32 0,
 qm 33 6,
 qr 34 (.six (.t 32) (.t 33)),
 qr 35 (.bin .eql (.t 34) (.k (.i .u8 47)))])
 (.cond (.t 35)
 (.reg [qm 36 6,
 qm 5 36])
 (.skip))))
 (.reg [qm 30 6,
 qr 31 (.bin .sub (.t 30) (.k (.i .i64 1))),
 qm 6 31]))))))
 (.seq (.reg [qm 38 0,
 qm 39 5,
 qr 40 (.ssub (.t 38) none (some (.t 39))),
 qr 41 (.call 49 [(1, (.t 40))]),
 qm 37 41,
 qr 42 (.ext (.t 37) 0),
 qr 43 (.ext (.t 37) 1),
 qm 7 42,
 qm 8 43])
 (.seq (.reg [qr 44 (.call 44 [(1, (.k (.i .i64 1)))]),
 qm 9 44])
 (.seq (.seq (.reg [qm 45 5,
 qm 46 0,
 qr 47 (.slen (.t 46)),
 qr 48 (.bin .lss (.t 45) (.t 47))])
 (.cond (.t 48)
 (.seq (.reg [qm 50 0,
 qm 51 5,
 qr 52 (.bin .add (.t 51) (.k (.i .i64 1))),
 qr 53 (.ssub (.t 50) (some (.t 52)) none),
 qr 54 (.call 49 [(1, (.t 53))]),
 qm 49 54,
 qr 55 (.ext (.t 49) 0),
 qr 56 (.ext (.t 49) 1),
 qm 10 55,
 qm 11 56])
 (.reg [qm 57 10,
 qm 58 8,
 qm 59 58,
 ⟨some 60, some (59, true), .mv (.t 11)⟩,
 qr 61 (.pick (.t 59) (.t 60) (.k (.b false))),
 qm 9 57,
 qm 8 61]))
 (.skip)))
 (.seq (.seq (.reg [qm 62 8,
 qr 63 (.un .not (.t 62))])
 (.cond (.t 63)
 (.seq (.reg [qr 64 (.bld [(.b false), (.l 1 []), (.l 1 [])] []),
 qn (.st 3 (.t 2) (.t 64)),
 qr 3 (.mv (.k (.i .i64 5)))])
 (.ret))
 (.skip)))
 (.seq (.seq (.reg [qm 65 9,
 qr 66 (.call 50 [(1, (.t 65))])])
 (.cond (.t 66)
 (.seq (.reg [qr 67 (.bld [(.b false), (.l 1 []), (.l 1 [])] []),
 qn (.st 3 (.t 2) (.t 67)),
 qr 3 (.mv (.k (.i .i64 1)))])
 (.ret))
 (.skip)))
 (.seq (.reg [qm 68 4,
 qm 69 7,
 qr 70 (.call 51 [(1, (.t 68)), (1, (.t 69))]),
 qm 71 9,
 qr 72 (.call 41 [(1, (.t 70)), (1, (.t 71))]),
 qn (.st 3 (.t 2) (.t 72)),
 qr 3 (.mv (.k (.i .i64 0)))])
 (.ret)))))))))))
theorem rqparse_spec (s : List UInt8) (hs : s.length ≤ 1000000000) (htl : (topT (bdT s)).length ≤ 90000000) (hul : (undT (bdT s)).length ≤ 90000000) : AFun Tryz.prog J0 13 [.s s] (.t [pqV s, .i .i64 (pqE s)]) := by
  obtain ⟨v, hv⟩ : ∃ v, v = pqV s := ⟨_, rfl⟩
  obtain ⟨er, her⟩ : ∃ er, er = pqE s := ⟨_, rfl⟩
  rw [← hv, ← her]
  obtain ⟨M, hM⟩ : ∃ M : Nat, M = 5625000 := ⟨_, rfl⟩
  obtain ⟨b, hb⟩ : ∃ b, b = bdT s := ⟨_, rfl⟩
  obtain ⟨g, hg⟩ : ∃ g, g = ngT s := ⟨_, rfl⟩
  have hbl : b.length ≤ s.length := by
    rw [hb]; unfold bdT; split
    · rw [List.length_drop]; omega
    · exact Nat.le_refl _
  rw [← hb] at htl hul
  have hokq : okQ s = (digB (topT b) && (!(mrT b) || digB (undT b))) := by rw [hb]; rfl
  have hnum : numQ s = numT (topT b) := by rw [hb]; rfl
  have hden : denQ s = if mrT b then numT (undT b) else 1 := by rw [hb]; rfl
  have h3 := rnumeral_spec (topT b) htl
  have h4 := rnumeral_spec (undT b) hul
  have w1 := (hword_spec 1 (by decide)).frozen
  have z1 := hzero_spec (digV (undT b)) digV_dg (by
    unfold digV; split
    · rename_i h; exact Nat.le_trans (dlen (numT_m (m := M) (List.all_eq_true.1 h) (by omega))) (by omega)
    · exact Nat.zero_le _)
  have hB1 : 1 < B ^ (M + 1) := Nat.lt_of_lt_of_le (by decide : 1 < B ^ 1) (Nat.pow_le_pow_right B0 (by omega))
  have z2 := hzero_spec (dg B 1) (Wd_dg _) (Nat.le_trans (dlen hB1) (by omega))
  rw [nv_dgB, show decide (1 = 0) = false from rfl] at z2
  have tz0 : Int.toNat 0 = 0 := rfl
  have tz1 : List.drop (Int.toNat 1) s = s.drop 1 := rfl
  have hAle := slA_le b
  refine mkcQ fol J0s Tryz.func13 a13 [.c 2 true 3, .t 3] ?_
  unfold a13
  simp only [init_eq, initE, qm, qr, qn]
  by_cases hs0 : s = []
  · subst hs0
    have e0 : ¬ okQ [] = true := by decide
    obtain ⟨e1, e2⟩ := pq_bad e0
    rw [e1] at hv
    rw [e2] at her
    have h5 := rnumeral_spec [] (by decide)
    rw [show digB [] = false from rfl] at h5
    generalize digV [] = nn at *
    have hn1 : ¬ (0 : Int) < (([] : List UInt8).length : Int) := by decide
    have hge : ¬ (0 : Int) ≤ (([] : List UInt8).length : Int) - 1 := by decide
    refine spQ (ai @hn1 @bz_QT4) ?_
    refine vm_loopA [] Unit (fun _ => ⟨[(0, .s []), (2, .pt 0 0), (4, .b false), (5, .i .i64 (([] : List UInt8).length : Int)), (6, .i .i64 ((([] : List UInt8).length : Int) - 1))], [(0, some ⟨27, 3, [.b false, .l 1 [], .l 1 []], true, true⟩)], 1⟩) (fun _ => True) (fun _ => 0) () trivial (by exact leQ) (by
      exact ltQ) ?_
    intro _ _ Q' hQ he hr
    have hp : (0 : Int) ≤ (([] : List UInt8).length : Int) := by decide
    have etop : List.take (Int.toNat (([] : List UInt8).length : Int)) ([] : List UInt8) = [] := rfl
    have hlt : ¬ (([] : List UInt8).length : Int) < (([] : List UInt8).length : Int) := by decide
    refine spQ (ai @hge @bz_QT4) ?_
    refine he _ _ ?_
    exact wcQ (ai @her (ai @hv (ai @hlt (ai @etop (ai @hp @bz_QT4)))))
  · have hsl : (0 : Int) < (s.length : Int) := by have := List.length_pos_iff.2 hs0; omega
    by_cases h45 : ((s.getD 0 0).toNat : Int) = 45
    · have hs45 : s.getD 0 0 = 45 := UInt8.toNat_inj.1 (by show (s.getD 0 0).toNat = 45; omega)
      have hgb : g = true := by
        rw [hg]; unfold ngT
        match s, hs0, hs45 with
        | c :: r, _, h => have : c = 45 := h; rw [this]; rfl
      have hts : s.drop 1 = b := by rw [hb]; unfold bdT; rw [← hg, hgb, if_pos rfl]
      have h1l : (1 : Int) ≤ (s.length : Int) := by omega
      rw [hts] at tz1
      have hst := tz1
      refine spQ (ai @tz1 (ai @h1l (ai @h45 (ai @tz0 (ai @hsl @bz_QT4))))) ?_
      refine vm_loopA [] Nat (fun k => ⟨[(0, .s b), (2, .pt 0 0), (4, .b g), (5, .i .i64 ((k + slA (b.drop k) : Nat) : Int)), (6, .i .i64 ((k : Int) - 1))], [(0, some ⟨27, 3, [.b false, .l 1 [], .l 1 []], true, true⟩)], 1⟩)
        (fun k => k ≤ b.length) (fun k => k) b.length (Nat.le_refl _) (by exact leQ) (by
        rw [List.drop_length, slA_nil, Nat.add_zero]
        simp (disch := (first | omega | assumption)) only [Sl, Sa, Sw, ↓reduceIte, Nat.reduceEqDiff, Nat.reduceLT, List.all_nil, List.all_cons, Nat.reduceBneDiff, Nat.reduceAdd, bne_iff_ne, ne_eq, reduceCtorEq, not_false_eq_true, not_true_eq_false, Bool.and_true, Bool.true_and, and_true, true_and, and_self, i_eq, hgb, hst]
        repeat' first | rfl | omega | (simp only [List.length_append, List.length_cons, List.length_nil]; done) | apply And.intro) ?_
      intro k hk Q' hQ he hr
      by_cases hk0 : k = 0
      · subst hk0
        have hn : ¬ (0 : Int) ≤ ((0 : Nat) : Int) - 1 := by omega
        rw [List.drop_zero, Nat.zero_add]
        have hp : (0 : Int) ≤ ((slA b : Nat) : Int) := by omega
        have hle : ((slA b : Nat) : Int) ≤ (b.length : Int) := by omega
        have etop : List.take (slA b) b = topT b := rfl
        refine spQ (ai @hn @bz_QT4) ?_
        refine he _ _ ?_
        by_cases hm : slA b < b.length
        · have hmI : ((slA b : Nat) : Int) < (b.length : Int) := by omega
          have hmr : mrT b = true := decide_eq_true hm
          have a1 : IntKind.i64.wrap (((slA b : Nat) : Int) + 1) = ((slA b + 1 : Nat) : Int) := by rw [wi (by omega)]; omega
          have hle2 : ((slA b + 1 : Nat) : Int) ≤ (b.length : Int) := by omega
          have hp2 : (0 : Int) ≤ ((slA b + 1 : Nat) : Int) := by omega
          have eund : List.drop (slA b + 1) b = undT b := rfl
          rw [hmr] at hokq hden
          rw [if_pos rfl] at hden
          by_cases k1 : digB (topT b) = true
          · have d1 := (digB_iff.1 k1).2
            by_cases k3 : digB (undT b) = true
            · have d2 := (digB_iff.1 k3).2
              have hok : okQ s = true := by rw [hokq, k1, k3]; rfl
              rw [k1, digV_nv d1] at h3
              rw [k3, digV_nv d2] at h4
              rw [digV_nv d2, nv_dgB] at z1
              rw [← hden] at h4 z1
              have n2 : denQ s < B ^ (M + 1) := by rw [hden]; exact numT_m d2 (by omega)
              have n1 : numT (topT b) < B ^ (M + 1) := numT_m d1 (by omega)
              by_cases h0 : denQ s = 0
              · obtain ⟨e1, e2⟩ := pq_zero hok h0
                rw [e1] at hv
                rw [e2] at her
                rw [decide_eq_true h0] at z1
                exact wcQ (ai @her (ai @hv (ai @eund (ai @hp2 (ai @hle2 (ai @a1 (ai @hmI (ai @etop (ai @hle (ai @hp @bz_QT4))))))))))
              · obtain ⟨e1, e2⟩ := pq_ok hok h0
                rw [e1] at hv
                rw [e2] at her
                rw [decide_eq_false h0] at z1
                have hI := hI_spec g (dg B (numT (topT b))) (Wd_dg _) (Nat.le_trans (dlen n1) (by omega))
                rw [show zv g (dg B (numT (topT b))) = zI (ngT s) (numQ s) from by unfold zv; rw [nv_dgB, hg, hnum]] at hI
                have hzb : (zI (ngT s) (numQ s)).natAbs < B ^ (M + 1) := by rw [zI_abs, hnum]; exact n1
                have hR := rR_spec (decide (zI (ngT s) (numQ s) < 0)) (dg B (zI (ngT s) (numQ s)).natAbs) (dg B (denQ s)) (M + 1) (by omega) (Wd_dg _) (Wd_dg _) (dlen hzb) (dlen n2) (by rw [nv_dgB]; exact h0)
                rw [zv_N, nv_dgB] at hR
                clear e1
                exact wcQ (ai @her (ai @hv (ai @eund (ai @hp2 (ai @hle2 (ai @a1 (ai @hmI (ai @etop (ai @hle (ai @hp @bz_QT4))))))))))
            · have k3' : digB (undT b) = false := by simpa using k3
              rw [k1] at h3
              rw [k3'] at h4
              obtain ⟨e1, e2⟩ := pq_bad (s := s) (by rw [hokq, k1, k3']; decide)
              rw [e1] at hv
              rw [e2] at her
              exact wcQ (ai @her (ai @hv (ai @eund (ai @hp2 (ai @hle2 (ai @a1 (ai @hmI (ai @etop (ai @hle (ai @hp @bz_QT4))))))))))
          · have k1' : digB (topT b) = false := by simpa using k1
            rw [k1'] at h3
            obtain ⟨e1, e2⟩ := pq_bad (s := s) (by rw [hokq, k1']; simp)
            rw [e1] at hv
            rw [e2] at her
            exact wcQ (ai @her (ai @hv (ai @eund (ai @hp2 (ai @hle2 (ai @a1 (ai @hmI (ai @etop (ai @hle (ai @hp @bz_QT4))))))))))
        · have hmI : ¬ ((slA b : Nat) : Int) < (b.length : Int) := by omega
          have hmr : mrT b = false := decide_eq_false hm
          rw [hmr] at hokq hden
          rw [if_neg (by simp)] at hden
          by_cases k1 : digB (topT b) = true
          · have d1 := (digB_iff.1 k1).2
            have hok : okQ s = true := by rw [hokq, k1]; rfl
            rw [k1, digV_nv d1] at h3
            have n1 : numT (topT b) < B ^ (M + 1) := numT_m d1 (by omega)
            have h0 : denQ s ≠ 0 := by rw [hden]; decide
            obtain ⟨e1, e2⟩ := pq_ok hok h0
            rw [e1] at hv
            rw [e2] at her
            have hI := hI_spec g (dg B (numT (topT b))) (Wd_dg _) (Nat.le_trans (dlen n1) (by omega))
            rw [show zv g (dg B (numT (topT b))) = zI (ngT s) (numQ s) from by unfold zv; rw [nv_dgB, hg, hnum]] at hI
            have hzb : (zI (ngT s) (numQ s)).natAbs < B ^ (M + 1) := by rw [zI_abs, hnum]; exact n1
            have hR := rR_spec (decide (zI (ngT s) (numQ s) < 0)) (dg B (zI (ngT s) (numQ s)).natAbs) (dg B 1) (M + 1) (by omega) (Wd_dg _) (Wd_dg _) (dlen hzb) (dlen hB1) (by rw [nv_dgB]; decide)
            rw [zv_N, nv_dgB] at hR
            rw [hden] at hv
            clear e1
            exact wcQ (ai @her (ai @hv (ai @hmI (ai @etop (ai @hle (ai @hp @bz_QT4))))))
          · have k1' : digB (topT b) = false := by simpa using k1
            rw [k1'] at h3
            obtain ⟨e1, e2⟩ := pq_bad (s := s) (by rw [hokq, k1']; simp)
            rw [e1] at hv
            rw [e2] at her
            exact wcQ (ai @her (ai @hv (ai @hmI (ai @etop (ai @hle (ai @hp @bz_QT4))))))
      · obtain ⟨i, rfl⟩ : ∃ i, k = i + 1 := ⟨k - 1, by omega⟩
        rw [show ((i + 1 : Nat) : Int) - 1 = (i : Int) from by omega]
        have hge : (0 : Int) ≤ (i : Int) := by omega
        have hil : i < b.length := by omega
        have hil2 : (i : Int) < (b.length : Int) := by omega
        have hd := slA_drop hil
        by_cases h47 : ((b.getD i 0).toNat : Int) = 47
        · have hc : b.getD i 0 = 47 := UInt8.toNat_inj.1 (by show (b.getD i 0).toNat = 47; omega)
          rw [if_pos hc] at hd
          refine spQ (ai @h47 (ai @hil2 (ai @hge @bz_QT4))) ?_
          refine hQ _ i (by omega) (by omega) ?_
          rw [hd, Nat.add_zero]
          exact ltQ
        · have hc : ¬ b.getD i 0 = 47 := fun e => h47 (by rw [e]; rfl)
          rw [if_neg hc] at hd
          have e : i + 1 + slA (b.drop (i + 1)) = i + slA (b.drop i) := by rw [hd]; omega
          rw [e]
          refine spQ (ai @h47 (ai @hil2 (ai @hge @bz_QT4))) ?_
          refine hQ _ i (by omega) (by omega) ?_
          exact ltQ
    · have hgb : g = false := by
        rw [hg]; unfold ngT
        match s, hs0, h45 with
        | c :: r, _, h =>
          have : c ≠ 45 := fun e => h (by rw [e]; rfl)
          simpa using this
      have hst : s = b := by rw [hb]; unfold bdT; rw [← hg, hgb, if_neg (by simp)]
      refine spQ (ai @h45 (ai @tz0 (ai @hsl @bz_QT4))) ?_
      refine vm_loopA [] Nat (fun k => ⟨[(0, .s b), (2, .pt 0 0), (4, .b g), (5, .i .i64 ((k + slA (b.drop k) : Nat) : Int)), (6, .i .i64 ((k : Int) - 1))], [(0, some ⟨27, 3, [.b false, .l 1 [], .l 1 []], true, true⟩)], 1⟩)
        (fun k => k ≤ b.length) (fun k => k) b.length (Nat.le_refl _) (by exact leQ) (by
        rw [List.drop_length, slA_nil, Nat.add_zero]
        simp (disch := (first | omega | assumption)) only [Sl, Sa, Sw, ↓reduceIte, Nat.reduceEqDiff, Nat.reduceLT, List.all_nil, List.all_cons, Nat.reduceBneDiff, Nat.reduceAdd, bne_iff_ne, ne_eq, reduceCtorEq, not_false_eq_true, not_true_eq_false, Bool.and_true, Bool.true_and, and_true, true_and, and_self, i_eq, hgb, hst]
        repeat' first | rfl | omega | (simp only [List.length_append, List.length_cons, List.length_nil]; done) | apply And.intro) ?_
      intro k hk Q' hQ he hr
      by_cases hk0 : k = 0
      · subst hk0
        have hn : ¬ (0 : Int) ≤ ((0 : Nat) : Int) - 1 := by omega
        rw [List.drop_zero, Nat.zero_add]
        have hp : (0 : Int) ≤ ((slA b : Nat) : Int) := by omega
        have hle : ((slA b : Nat) : Int) ≤ (b.length : Int) := by omega
        have etop : List.take (slA b) b = topT b := rfl
        refine spQ (ai @hn @bz_QT4) ?_
        refine he _ _ ?_
        by_cases hm : slA b < b.length
        · have hmI : ((slA b : Nat) : Int) < (b.length : Int) := by omega
          have hmr : mrT b = true := decide_eq_true hm
          have a1 : IntKind.i64.wrap (((slA b : Nat) : Int) + 1) = ((slA b + 1 : Nat) : Int) := by rw [wi (by omega)]; omega
          have hle2 : ((slA b + 1 : Nat) : Int) ≤ (b.length : Int) := by omega
          have hp2 : (0 : Int) ≤ ((slA b + 1 : Nat) : Int) := by omega
          have eund : List.drop (slA b + 1) b = undT b := rfl
          rw [hmr] at hokq hden
          rw [if_pos rfl] at hden
          by_cases k1 : digB (topT b) = true
          · have d1 := (digB_iff.1 k1).2
            by_cases k3 : digB (undT b) = true
            · have d2 := (digB_iff.1 k3).2
              have hok : okQ s = true := by rw [hokq, k1, k3]; rfl
              rw [k1, digV_nv d1] at h3
              rw [k3, digV_nv d2] at h4
              rw [digV_nv d2, nv_dgB] at z1
              rw [← hden] at h4 z1
              have n2 : denQ s < B ^ (M + 1) := by rw [hden]; exact numT_m d2 (by omega)
              have n1 : numT (topT b) < B ^ (M + 1) := numT_m d1 (by omega)
              by_cases h0 : denQ s = 0
              · obtain ⟨e1, e2⟩ := pq_zero hok h0
                rw [e1] at hv
                rw [e2] at her
                rw [decide_eq_true h0] at z1
                exact wcQ (ai @her (ai @hv (ai @eund (ai @hp2 (ai @hle2 (ai @a1 (ai @hmI (ai @etop (ai @hle (ai @hp @bz_QT4))))))))))
              · obtain ⟨e1, e2⟩ := pq_ok hok h0
                rw [e1] at hv
                rw [e2] at her
                rw [decide_eq_false h0] at z1
                have hI := hI_spec g (dg B (numT (topT b))) (Wd_dg _) (Nat.le_trans (dlen n1) (by omega))
                rw [show zv g (dg B (numT (topT b))) = zI (ngT s) (numQ s) from by unfold zv; rw [nv_dgB, hg, hnum]] at hI
                have hzb : (zI (ngT s) (numQ s)).natAbs < B ^ (M + 1) := by rw [zI_abs, hnum]; exact n1
                have hR := rR_spec (decide (zI (ngT s) (numQ s) < 0)) (dg B (zI (ngT s) (numQ s)).natAbs) (dg B (denQ s)) (M + 1) (by omega) (Wd_dg _) (Wd_dg _) (dlen hzb) (dlen n2) (by rw [nv_dgB]; exact h0)
                rw [zv_N, nv_dgB] at hR
                clear e1
                exact wcQ (ai @her (ai @hv (ai @eund (ai @hp2 (ai @hle2 (ai @a1 (ai @hmI (ai @etop (ai @hle (ai @hp @bz_QT4))))))))))
            · have k3' : digB (undT b) = false := by simpa using k3
              rw [k1] at h3
              rw [k3'] at h4
              obtain ⟨e1, e2⟩ := pq_bad (s := s) (by rw [hokq, k1, k3']; decide)
              rw [e1] at hv
              rw [e2] at her
              exact wcQ (ai @her (ai @hv (ai @eund (ai @hp2 (ai @hle2 (ai @a1 (ai @hmI (ai @etop (ai @hle (ai @hp @bz_QT4))))))))))
          · have k1' : digB (topT b) = false := by simpa using k1
            rw [k1'] at h3
            obtain ⟨e1, e2⟩ := pq_bad (s := s) (by rw [hokq, k1']; simp)
            rw [e1] at hv
            rw [e2] at her
            exact wcQ (ai @her (ai @hv (ai @eund (ai @hp2 (ai @hle2 (ai @a1 (ai @hmI (ai @etop (ai @hle (ai @hp @bz_QT4))))))))))
        · have hmI : ¬ ((slA b : Nat) : Int) < (b.length : Int) := by omega
          have hmr : mrT b = false := decide_eq_false hm
          rw [hmr] at hokq hden
          rw [if_neg (by simp)] at hden
          by_cases k1 : digB (topT b) = true
          · have d1 := (digB_iff.1 k1).2
            have hok : okQ s = true := by rw [hokq, k1]; rfl
            rw [k1, digV_nv d1] at h3
            have n1 : numT (topT b) < B ^ (M + 1) := numT_m d1 (by omega)
            have h0 : denQ s ≠ 0 := by rw [hden]; decide
            obtain ⟨e1, e2⟩ := pq_ok hok h0
            rw [e1] at hv
            rw [e2] at her
            have hI := hI_spec g (dg B (numT (topT b))) (Wd_dg _) (Nat.le_trans (dlen n1) (by omega))
            rw [show zv g (dg B (numT (topT b))) = zI (ngT s) (numQ s) from by unfold zv; rw [nv_dgB, hg, hnum]] at hI
            have hzb : (zI (ngT s) (numQ s)).natAbs < B ^ (M + 1) := by rw [zI_abs, hnum]; exact n1
            have hR := rR_spec (decide (zI (ngT s) (numQ s) < 0)) (dg B (zI (ngT s) (numQ s)).natAbs) (dg B 1) (M + 1) (by omega) (Wd_dg _) (Wd_dg _) (dlen hzb) (dlen hB1) (by rw [nv_dgB]; decide)
            rw [zv_N, nv_dgB] at hR
            rw [hden] at hv
            clear e1
            exact wcQ (ai @her (ai @hv (ai @hmI (ai @etop (ai @hle (ai @hp @bz_QT4))))))
          · have k1' : digB (topT b) = false := by simpa using k1
            rw [k1'] at h3
            obtain ⟨e1, e2⟩ := pq_bad (s := s) (by rw [hokq, k1']; simp)
            rw [e1] at hv
            rw [e2] at her
            exact wcQ (ai @her (ai @hv (ai @hmI (ai @etop (ai @hle (ai @hp @bz_QT4))))))
      · obtain ⟨i, rfl⟩ : ∃ i, k = i + 1 := ⟨k - 1, by omega⟩
        rw [show ((i + 1 : Nat) : Int) - 1 = (i : Int) from by omega]
        have hge : (0 : Int) ≤ (i : Int) := by omega
        have hil : i < b.length := by omega
        have hil2 : (i : Int) < (b.length : Int) := by omega
        have hd := slA_drop hil
        by_cases h47 : ((b.getD i 0).toNat : Int) = 47
        · have hc : b.getD i 0 = 47 := UInt8.toNat_inj.1 (by show (b.getD i 0).toNat = 47; omega)
          rw [if_pos hc] at hd
          refine spQ (ai @h47 (ai @hil2 (ai @hge @bz_QT4))) ?_
          refine hQ _ i (by omega) (by omega) ?_
          rw [hd, Nat.add_zero]
          exact ltQ
        · have hc : ¬ b.getD i 0 = 47 := fun e => h47 (by rw [e]; rfl)
          rw [if_neg hc] at hd
          have e : i + 1 + slA (b.drop (i + 1)) = i + slA (b.drop i) := by rw [hd]; omega
          rw [e]
          refine spQ (ai @h47 (ai @hil2 (ai @hge @bz_QT4))) ?_
          refine hQ _ i (by omega) (by omega) ?_
          exact ltQ
end Go.Proofs.YthldhonccnajoaaGreatDoor
