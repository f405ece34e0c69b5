/-
  gauss: a polynomial's value at a Gaussian integer.
-/
import Derived.Test.YteaiegppmbcibaaG4
namespace Go.Proofs.Yteaiegppmbcibaa
open Go Go.RowKit Ab
set_option linter.unusedSimpArgs false
set_option linter.unusedVariables false
set_option maxHeartbeats 10000000
theorem bz_G5 : type_of% (And.intro @W_len (And.intro @D_len (And.intro @Nat.div_one (And.intro @Nat.mul_one (And.intro @tn_nat (And.intro @W_nf (And.intro @D_nf (And.intro @W_nil (And.intro @D_nil (And.intro @wi (And.intro @nf_g (And.intro @Bool.false_and (And.intro @W_cell (And.intro @ZC_cell (@ZC_nil))))))))))))))) := And.intro @W_len (And.intro @D_len (And.intro @Nat.div_one (And.intro @Nat.mul_one (And.intro @tn_nat (And.intro @W_nf (And.intro @D_nf (And.intro @W_nil (And.intro @D_nil (And.intro @wi (And.intro @nf_g (And.intro @Bool.false_and (And.intro @W_cell (And.intro @ZC_cell (@ZC_nil))))))))))))))
def I64 (l : List Int) : List V := l.map fun n => .i .i64 n
theorem I64_len (l : List Int) : (I64 l).length = l.length := by simp [I64]
theorem I64_get (l : List Int) (i : Nat) (h : i < l.length) : (I64 l).getD i .un = .i .i64 (l.getD i 0) := by
  simp [I64, List.getD_eq_getElem?_getD, h]
theorem I64_app1 (l : List Int) (x : Int) : I64 l ++ [V.i .i64 x] = I64 (l ++ [x]) := by simp [I64]
def pwr (s i : Nat) : Nat := if s ^ i < SM then s ^ i else SM
theorem take_snoc (l : List Int) (i : Nat) (h : i < l.length) : l.take (i + 1) = l.take i ++ [l.getD i 0] := by
  rw [List.take_succ_eq_append_getElem h, List.getD_eq_getElem?_getD, List.getElem?_eq_getElem h]; rfl
theorem nfl_len (cs : List Int) : (nfl cs).length = cs.length := by simp [nfl]
theorem nfl_get (cs : List Int) (i : Nat) (h : i < cs.length) : (nfl cs).getD i (false, []) = nfp (cs.getD i 0) := by
  simp [nfl, List.getD_eq_getElem?_getD, h]
theorem zsmallN {z : Int} {m : Nat} (hz : z.natAbs < B ^ m) (hm : m ≤ 1000000000) : AFun Try.prog J0 35 [zN z] (.t [.i .i64 (smV z), .i .i64 (smE z)]) := by
  have := zsmall_spec (decide (z < 0)) (dg B z.natAbs) (Wd_dg _) (Nat.le_trans (dlen hz) hm)
  rwa [zv_N] at this
theorem not_vOk {cs : List Int} {z : GZ} {i : Nat} (h : ¬ wsum (max (gsz z) 1) (cs.take i) < SM) : ¬ vOk cs z := fun h' => h (Nat.lt_of_le_of_lt (wsum_take_le _ _ _) h'.2)
theorem big_c {c s i : Nat} (hs : 1 ≤ s) (hc : SM ≤ c) : ¬ s ^ i * c < SM := fun h => by
  have := Nat.mul_le_mul_right c (Nat.pow_pos hs : 1 ≤ s ^ i)
  omega
theorem big_p {c s i : Nat} (hc : c ≠ 0) (hs : ¬ s ^ i < SM) : ¬ s ^ i * c < SM := fun h => by
  have := Nat.mul_le_mul_left (s ^ i) (Nat.pos_of_ne_zero hc)
  omega
theorem fits_c {c : Int} {s i : Nat} (hs : 1 ≤ s) : (gabs c * s ^ i < SM) ↔ (s ^ i * c.natAbs < SM) := by
  rcases Nat.lt_or_ge c.natAbs SM with h | h
  · rw [gabs_lt h, Nat.mul_comm]
  · rw [gabs_ge (by omega)]
    exact ⟨fun h1 => absurd (by rw [Nat.mul_comm]; exact h1) (big_c (c := SM) hs (Nat.le_refl _)), fun h1 => absurd h1 (big_c hs h)⟩
theorem sm_fits {c : Int} (h : Pi c) : smV c = c ∧ smE c = 0 := ⟨if_pos ⟨h.1, by have := h.2; omega⟩, if_pos ⟨h.1, by have := h.2; omega⟩⟩
theorem sm_nofit {c : Int} (h : ¬ Pi c) : smE c = 13 := if_neg fun h' => h ⟨h'.1, by have := h'.2; omega⟩
def a14 : AC := .seq (.reg [qr 3 (.bx 38 (.t 1)),
 qr 4 (.al 38 [(.i .i64 0), (.i .i64 0)]),
 qr 5 (.mv (.k (.i .i64 0)))])
 (.seq (.reg [qr 20 (.ld true 2 (.t 3)),
 qr 21 (.call 19 [(1, (.t 20))]),
 qm 19 21,
 qr 22 (.ext (.t 19) 0),
 qr 23 (.ext (.t 19) 1),
 qm 6 22,
 qm 7 23])
 (.seq (.seq (.reg [qm 24 7,
 qr 25 (.bin .neq (.t 24) (.k (.i .i64 0)))])
 (.cond (.t 25)
 (.seq (.reg [qr 26 (.bld [(.i .i64 0), (.i .i64 0)] []),
 qm 27 7,
 qn (.st 2 (.t 4) (.t 26)),
 qm 5 27])
 (.ret))
 (.skip)))
 (.seq (.reg [qm 28 6,
 qr 29 (.mm true (.t 28) (.k (.i .i64 1))),
 qm 6 29])
 (.seq (.reg [qm 30 0,
 qr 31 (.call 34 [(2, (.t 30))]),
 qm 0 31])
 (.seq (.reg [qr 8 (.mv (.k (.i .i64 0))),
 qr 9 (.mv (.k (.i .i64 1)))])
 (.seq (.reg [qr 10 (.mv (.k .nl))])
 (.seq (.seq (.reg [qm 32 0,
 qr 33 (.len (.t 32)),
 qr 34 (.mv (.k (.i .i64 0)))])
 (.blk 0
 (.loop
 (.seq (.reg [qr 35 (.bin .lss (.t 34) (.t 33))])
 (.seq (.cond (.t 35)
 (.skip)
 (.exit 0))
 (.seq (.blk 1
 (.seq (.reg [qr 36 (.idx 2 (.t 32) (.t 34)),
 qr 37 (.ld true 2 (.t 36)),
 qr 12 (.al 58 [(.b false), (.l 1 [])]),
 qn (.st 2 (.t 12) (.t 37))])
 (.seq (.reg [qr 39 (.ld true 2 (.t 12)),
 qr 40 (.call 35 [(1, (.t 39))]),
 qm 38 40,
 qr 41 (.ext (.t 38) 0),
 qr 42 (.ext (.t 38) 1),
 qm 13 41,
 qm 14 42])
 (.seq (.seq (.reg [qm 43 14,
 qr 44 (.bin .neq (.t 43) (.k (.i .i64 0)))])
 (.cond (.t 44)
 (.seq (.reg [qr 45 (.bld [(.i .i64 0), (.i .i64 0)] []),
 qn (.st 2 (.t 4) (.t 45)),
 qr 5 (.mv (.k (.i .i64 13)))])
 (.ret))
 (.skip)))
 (.seq (.reg [qm 46 13,
 qr 47 (.call 36 [(1, (.t 46))]),
 qm 15 47])
 (.seq (.seq (.reg [qm 48 15,
 qr 49 (.bin .neq (.t 48) (.k (.i .i64 0)))])
 (.cond (.t 49)
 (.seq (.seq (.reg [qm 50 9,
 qr 51 (.bin .eql (.t 50) (.k (.i .i64 1125899906842624))),
 qm 52 51,
 ⟨some 53, some (52, false), .mv (.t 15)⟩,
 ⟨some 54, some (52, false), .mv (.t 9)⟩,
 ⟨some 55, some (52, false), .call 37 [(1, (.t 53)), (1, (.t 54))]⟩,
 ⟨some 56, some (52, false), .un .not (.t 55)⟩,
 qr 57 (.pick (.t 52) (.k (.b true)) (.t 56))])
 (.cond (.t 57)
 (.seq (.reg [qr 58 (.bld [(.i .i64 0), (.i .i64 0)] []),
 qn (.st 2 (.t 4) (.t 58)),
 qr 5 (.mv (.k (.i .i64 13)))])
 (.ret))
 (.skip)))
 (.seq (.reg [qm 59 8,
 qm 60 15,
 qm 61 9,
 qr 62 (.bin .mul (.t 60) (.t 61)),
 qr 63 (.bin .add (.t 59) (.t 62)),
 qm 8 63])
 (.seq (.reg [qm 64 8,
 qr 65 (.bin .geq (.t 64) (.k (.i .i64 1125899906842624)))])
 (.cond (.t 65)
 (.seq (.reg [qr 66 (.bld [(.i .i64 0), (.i .i64 0)] []),
 qn (.st 2 (.t 4) (.t 66)),
 qr 5 (.mv (.k (.i .i64 13)))])
 (.ret))
 (.skip)))))
 (.skip)))
 (.seq (.reg [qm 67 10,
 qm 68 13,
 qr 69 (.bsl 3 1 1 [(.i .i64 0)] [(0, (.t 68))]),
 qr 70 (.app 3 1 8 (.t 67) (.t 69)),
 qm 10 70])
 (.seq (.reg [qm 71 9,
 qr 72 (.bin .neq (.t 71) (.k (.i .i64 1125899906842624)))])
 (.cond (.t 72)
 (.seq (.reg [qm 73 9,
 qm 74 6,
 qr 75 (.call 37 [(1, (.t 73)), (1, (.t 74))])])
 (.cond (.t 75)
 (.reg [qm 76 9,
 qm 77 6,
 qr 78 (.bin .mul (.t 76) (.t 77)),
 qm 9 78])
 (.reg [qr 9 (.mv (.k (.i .i64 1125899906842624)))])))
 (.skip))))))))))
 (.reg [qr 79 (.bin .add (.t 34) (.k (.i .i64 1))),
 qm 34 79])))))))
 (.seq (.reg [qr 80 (.ld true 2 (.t 3)),
 qr 81 (.call 20 [(1, (.t 80))]),
 qr 16 (.mv (.k (.z 0 0))),
 qm 17 81])
 (.seq (.seq (.reg [qm 82 10,
 qr 83 (.len (.t 82)),
 qr 84 (.bin .sub (.t 83) (.k (.i .i64 1))),
 qm 18 84])
 (.blk 2
 (.loop
 (.seq (.seq (.reg [qm 85 18,
 qr 86 (.bin .geq (.t 85) (.k (.i .i64 0)))])
 (.cond (.t 86)
 (.skip)
 (.exit 2)))
 (.seq (.blk 3
 (.reg [qm 89 16,
 qm 90 17,
 qr 91 (.pur (.nm .zmul) [(.t 89), (.t 90)]),
 qm 92 10,
 qm 93 18,
 qr 94 (.idx 1 (.t 92) (.t 93)),
 qr 95 (.ld false 1 (.t 94)),
 qr 96 (.pur (.nm .i2f) [(.t 95)]),
 qr 97 (.pur (.nm .mkz) [(.t 96), (.k (.f 0))]),
 qr 98 (.pur (.nm .zadd) [(.t 91), (.t 97)]),
 qm 16 98]))
 (.reg [qm 87 18,
 qr 88 (.bin .sub (.t 87) (.k (.i .i64 1))),
 qm 18 88]))))))
 (.seq (.reg [qm 99 16,
 qr 100 (.call 21 [(1, (.t 99))]),
 qn (.st 2 (.t 4) (.t 100)),
 qr 5 (.mv (.k (.i .i64 0)))])
 (.ret)))))))))))
theorem gvalS (l : List (Bool × List Nat)) (m : Nat) (hm : m ≤ 100000000) (hl : ZOk l m) (z : GZ) : AFun Try.prog J0 14 [.l 2 (ZC l), nV z] (.t [nV (vF (zcs l) z), .i .i64 (vE (zcs l) z)]) := by
  have hnorm := (zpnorm_spec l m hm hl).frozen
  rw [← vF_tzi, ← vE_tzi]
  have hcm : ∀ c, c ∈ tzi (zcs l) → c.natAbs < B ^ m := fun c hc => by
    have : c ∈ zcs l := by rw [← tzi_take] at hc; exact List.mem_of_mem_take hc
    obtain ⟨p, hp, rfl⟩ := List.mem_map.1 this
    obtain ⟨wa, la⟩ := hl.2 p hp
    exact zv_lt wa la
  have hcl : (tzi (zcs l)).length ≤ m := Nat.le_trans (tzi_len _) (by rw [zcs_len]; exact hl.1)
  generalize tzi (zcs l) = cs at *
  obtain ⟨r1, hr1⟩ : ∃ r, r = (vF cs z).1 := ⟨_, rfl⟩
  obtain ⟨r2, hr2⟩ : ∃ r, r = (vF cs z).2 := ⟨_, rfl⟩
  obtain ⟨e, he0⟩ : ∃ e, e = vE cs z := ⟨_, rfl⟩
  simp only [nV]
  rw [← hr1, ← hr2, ← he0]
  have fails : ¬ vOk cs z → r1 = 0 ∧ r2 = 0 ∧ e = 13 := fun h => by
    rw [hr1, hr2, he0, show vF cs z = (0, 0) from if_neg h, show vE cs z = 13 from if_neg h]; exact ⟨rfl, rfl, rfl⟩
  by_cases h1 : gsz z < SM
  · have p1 := gsize_ok h1
    have hin := inside_spec z h1
    obtain ⟨S, hS⟩ : ∃ S, S = max (gsz z) 1 := ⟨_, rfl⟩
    have hS1 : 1 ≤ S := by omega
    have hS2 : S < SM := by simp only [SM] at *; omega
    have hzS : gsz z ≤ S := by omega
    have hmx : max ((gsz z : Nat) : Int) 1 = (S : Int) := by omega
    have nok : ∀ i, ¬ wsum S (cs.take i) < SM → r1 = 0 ∧ r2 = 0 ∧ e = 13 := fun i h => fails (not_vOk (by rw [← hS]; exact h))
    simp only [nV] at p1 hin
    obtain ⟨n, hn⟩ : ∃ n, n = cs.length := ⟨_, rfl⟩
    have hql : (ZC (nfl cs)).length / 2 = n := by rw [ZC_len, nfl_len]; omega
    have hqz : (ZC (nfl cs)).length = n * 2 := by rw [ZC_len, nfl_len]; omega
    refine mkcQ fol J0s Try.func14 a14 [.c 4 true 2, .t 5] ?_
    unfold a14
    simp only [init_eq, initE, qm, qr, qn]
    refine wkQ (ai @hql (ai @hmx @bz_G5)) ?_
    refine vm_loopA [(10, 3, 1)] Nat (fun i => ⟨[(3, .pt 0 0), (4, .pt 1 0), (6, .i .i64 (S : Int)), (8, .i .i64 ((wsum S (cs.take i) : Nat) : Int)), (9, .i .i64 ((pwr S i : Nat) : Int)), (10, .ow 1 2 i), (32, .l 2 (ZC (nfl cs))), (33, .i .i64 (n : Int)), (34, .i .i64 (i : Int))],
        [(0, some ⟨38, 2, [.i .i64 z.1, .i .i64 z.2], true, true⟩), (1, some ⟨38, 2, [.i .i64 0, .i .i64 0], true, true⟩), (2, some ⟨3, 1, I64 (cs.take i), true, false⟩)], 3⟩)
      (fun i => i ≤ n ∧ wsum S (cs.take i) < SM) (fun i => n - i) 0 ⟨Nat.zero_le _, by rw [List.take_zero]; exact (by decide : 0 < SM)⟩ (by exact leQ) (by
      simp (disch := (first | omega | assumption)) only [Sl, Sa, Sw, ↓reduceIte, Nat.reduceEqDiff, Nat.reduceLT, List.all_nil, List.all_cons, Nat.reduceBneDiff, Nat.reduceAdd, bne_iff_ne, ne_eq, reduceCtorEq, not_false_eq_true, not_true_eq_false, Bool.and_true, Bool.true_and, and_true, true_and, and_self, i_eq]
      rw [List.take_zero, show pwr S 0 = 1 from by unfold pwr; rw [Nat.pow_zero]; rfl]
      repeat' first | rfl | omega | (simp only [List.length_append, List.length_cons, List.length_nil]; done) | apply And.intro) ?_
    rintro i ⟨hi, hw⟩ Q' hQ he hr
    by_cases hin1 : (i : Int) < (n : Int)
    · have hic : i < cs.length := by omega
      obtain ⟨row1, row2⟩ := ZC_row (nfl cs) i (by rw [nfl_len]; exact hic)
      rw [nfl_get cs i hic] at row1
      simp only [nfp] at row1
      have hcB : (cs.getD i 0).natAbs < B ^ m := hcm _ (by rw [List.getD_eq_getElem?_getD, List.getElem?_eq_getElem hic]; exact List.getElem_mem hic)
      have hws := wsum_take_succ S cs i hic
      have hsnoc := take_snoc cs i hic
      generalize cs.getD i 0 = c at *
      have hsm := zsmallN hcB (by omega)
      have hab := gabs_spec c
      have nok1 := nok (i + 1)
      rw [hws] at nok1
      by_cases hP : Pi c
      · rw [(sm_fits hP).1, (sm_fits hP).2] at hsm
        have hap := I64_app1 (cs.take i) c
        rw [← hsnoc] at hap
        have il1 : (I64 (cs.take (i + 1))).length = i + 1 := by rw [I64_len, List.length_take, ← hn]; omega
        have il0 : (I64 (cs.take i)).length = i := by rw [I64_len, List.length_take, ← hn]; omega
        by_cases hc0 : c = 0
        · subst hc0
          have hab0 : ((gabs 0 : Nat) : Int) = 0 := rfl
          rw [hab0] at hab
          have hws0 : wsum S (cs.take (i + 1)) = wsum S (cs.take i) := by rw [hws]; simp
          by_cases hp1 : S ^ i < SM
          · have hpw : pwr S i = S ^ i := if_pos hp1
            have pf := gfits_spec (S ^ i) S (Nat.le_of_lt hS2)
            rw [← Nat.pow_succ] at pf
            simp only [SM] at hp1
            have hne : ¬ ((S ^ i : Nat) : Int) = 1125899906842624 := by omega
            rw [hpw]
            by_cases hp2 : S ^ (i + 1) < SM
            · have hpw1 : pwr S (i + 1) = S ^ (i + 1) := if_pos hp2
              rw [decide_eq_true hp2] at pf
              have wm : IntKind.i64.wrap (((S ^ i : Nat) : Int) * (S : Int)) = ((S ^ (i + 1) : Nat) : Int) := by
                have e2 : ((S ^ i : Nat) : Int) * (S : Int) = ((S ^ (i + 1) : Nat) : Int) := by rw [Nat.pow_succ, Int.natCast_mul]
                rw [e2]; refine wi ?_
                simp only [SM] at hp2; omega
              refine wkQ (ai @wm (ai @hap (ai @hne (ai @row1 (ai @hqz (ai @hin1 @bz_G5)))))) ?_
              refine hQ _ (i + 1) ⟨by omega, by rw [hws0]; exact hw⟩ (by omega) ?_
              rw [hpw1]
              simp (disch := (first | omega | assumption)) only [Sl, Sa, Sw, ↓reduceIte, Nat.reduceEqDiff, Nat.reduceLT, List.all_nil, List.all_cons, Nat.reduceBneDiff, Nat.reduceAdd, bne_iff_ne, ne_eq, reduceCtorEq, not_false_eq_true, not_true_eq_false, Bool.and_true, Bool.true_and, and_true, true_and, and_self, i_eq]
              try rw [hws0]
              repeat' first | rfl | omega | (simp only [List.length_append, List.length_cons, List.length_nil]; done) | apply And.intro
            · have hpw1 : pwr S (i + 1) = SM := if_neg hp2
              rw [decide_eq_false hp2] at pf
              refine wkQ (ai @hap (ai @hne (ai @row1 (ai @hqz (ai @hin1 @bz_G5))))) ?_
              refine hQ _ (i + 1) ⟨by omega, by rw [hws0]; exact hw⟩ (by omega) ?_
              rw [hpw1]
              simp (disch := (first | omega | assumption)) only [Sl, Sa, Sw, ↓reduceIte, Nat.reduceEqDiff, Nat.reduceLT, List.all_nil, List.all_cons, Nat.reduceBneDiff, Nat.reduceAdd, bne_iff_ne, ne_eq, reduceCtorEq, not_false_eq_true, not_true_eq_false, Bool.and_true, Bool.true_and, and_true, true_and, and_self, i_eq]
              try rw [hws0]
              repeat' first | rfl | omega | (simp only [List.length_append, List.length_cons, List.length_nil]; done) | apply And.intro
          · have hpw : pwr S i = SM := if_neg hp1
            have hpw1 : pwr S (i + 1) = SM := if_neg fun h => hp1 (pow_small hS1 (Nat.le_succ i) h)
            rw [hpw]
            refine wkQ (ai @hap (ai @row1 (ai @hqz (ai @hin1 @bz_G5)))) ?_
            refine hQ _ (i + 1) ⟨by omega, by rw [hws0]; exact hw⟩ (by omega) ?_
            rw [hpw1]
            simp (disch := (first | omega | assumption)) only [Sl, Sa, Sw, ↓reduceIte, Nat.reduceEqDiff, Nat.reduceLT, List.all_nil, List.all_cons, Nat.reduceBneDiff, Nat.reduceAdd, bne_iff_ne, ne_eq, reduceCtorEq, not_false_eq_true, not_true_eq_false, Bool.and_true, Bool.true_and, and_true, true_and, and_self, i_eq]
            rw [hws0]
            repeat' first | rfl | omega | (simp only [List.length_append, List.length_cons, List.length_nil]; done) | apply And.intro
        · have hg0 : ¬ ((gabs c : Nat) : Int) = 0 := by unfold gabs; simp only [SM]; omega
          by_cases hp0 : S ^ i < SM
          · have pf1 := gfits_spec (gabs c) (S ^ i) (Nat.le_of_lt hp0)
            have hfc := fits_c (c := c) (s := S) (i := i) hS1
            have hpw0 : pwr S i = S ^ i := if_pos hp0
            have hne0 : ¬ ((S ^ i : Nat) : Int) = 1125899906842624 := by simp only [SM] at hp0; omega
            by_cases hf : gabs c * S ^ i < SM
            · rw [decide_eq_true hf] at pf1
              have hf2 := hfc.1 hf
              have hgc : gabs c = c.natAbs := by
                have h3 : gabs c < SM := by
                  have := Nat.mul_le_mul_left (gabs c) (Nat.pow_pos hS1 : 1 ≤ S ^ i)
                  omega
                unfold gabs at h3 ⊢; simp only [SM] at h3 ⊢; omega
              rw [hgc] at pf1 hab hg0
              obtain ⟨t, ht⟩ : ∃ t, t = S ^ i * c.natAbs := ⟨_, rfl⟩
              rw [← ht] at hf2 hws nok1
              have hmul : ((c.natAbs : Nat) : Int) * ((S ^ i : Nat) : Int) = (t : Int) := by rw [ht, Nat.mul_comm, Int.natCast_mul]
              have hadd : ((wsum S (cs.take i) : Nat) : Int) + (t : Int) = ((wsum S (cs.take (i + 1)) : Nat) : Int) := by rw [hws]; rfl
              have hwt : IntKind.i64.wrap (t : Int) = (t : Int) := by simp only [SM] at hf2; exact wi (by omega)
              have hwa : IntKind.i64.wrap ((wsum S (cs.take (i + 1)) : Nat) : Int) = ((wsum S (cs.take (i + 1)) : Nat) : Int) := by simp only [SM] at hf2 hw; exact wi (by omega)
              rw [← hws] at nok1
              by_cases hw2 : wsum S (cs.take (i + 1)) < SM
              · have hge : ¬ (1125899906842624 : Int) ≤ ((wsum S (cs.take (i + 1)) : Nat) : Int) := by simp only [SM] at hw2; omega
                by_cases hp1 : S ^ i < SM
                · have hpw : pwr S i = S ^ i := if_pos hp1
                  have pf := gfits_spec (S ^ i) S (Nat.le_of_lt hS2)
                  rw [← Nat.pow_succ] at pf
                  simp only [SM] at hp1
                  have hne : ¬ ((S ^ i : Nat) : Int) = 1125899906842624 := by omega
                  rw [hpw]
                  by_cases hp2 : S ^ (i + 1) < SM
                  · have hpw1 : pwr S (i + 1) = S ^ (i + 1) := if_pos hp2
                    rw [decide_eq_true hp2] at pf
                    have wm : IntKind.i64.wrap (((S ^ i : Nat) : Int) * (S : Int)) = ((S ^ (i + 1) : Nat) : Int) := by
                      have e2 : ((S ^ i : Nat) : Int) * (S : Int) = ((S ^ (i + 1) : Nat) : Int) := by rw [Nat.pow_succ, Int.natCast_mul]
                      rw [e2]; refine wi ?_
                      simp only [SM] at hp2; omega
                    refine wkQ (ai @wm (ai @hap (ai @hne (ai @hge (ai @hwa (ai @hadd (ai @hwt (ai @hmul (ai @hne0 (ai @hg0 (ai @row1 (ai @hqz (ai @hin1 @bz_G5))))))))))))) ?_
                    refine hQ _ (i + 1) ⟨by omega, hw2⟩ (by omega) ?_
                    rw [hpw1]
                    simp (disch := (first | omega | assumption)) only [Sl, Sa, Sw, ↓reduceIte, Nat.reduceEqDiff, Nat.reduceLT, List.all_nil, List.all_cons, Nat.reduceBneDiff, Nat.reduceAdd, bne_iff_ne, ne_eq, reduceCtorEq, not_false_eq_true, not_true_eq_false, Bool.and_true, Bool.true_and, and_true, true_and, and_self, i_eq]
                    try rw [← hws]
                    repeat' first | rfl | omega | (simp only [List.length_append, List.length_cons, List.length_nil]; done) | apply And.intro
                  · have hpw1 : pwr S (i + 1) = SM := if_neg hp2
                    rw [decide_eq_false hp2] at pf
                    refine wkQ (ai @hap (ai @hne (ai @hge (ai @hwa (ai @hadd (ai @hwt (ai @hmul (ai @hne0 (ai @hg0 (ai @row1 (ai @hqz (ai @hin1 @bz_G5)))))))))))) ?_
                    refine hQ _ (i + 1) ⟨by omega, hw2⟩ (by omega) ?_
                    rw [hpw1]
                    simp (disch := (first | omega | assumption)) only [Sl, Sa, Sw, ↓reduceIte, Nat.reduceEqDiff, Nat.reduceLT, List.all_nil, List.all_cons, Nat.reduceBneDiff, Nat.reduceAdd, bne_iff_ne, ne_eq, reduceCtorEq, not_false_eq_true, not_true_eq_false, Bool.and_true, Bool.true_and, and_true, true_and, and_self, i_eq]
                    try rw [← hws]
                    repeat' first | rfl | omega | (simp only [List.length_append, List.length_cons, List.length_nil]; done) | apply And.intro
                · exact absurd hp0 hp1
              · obtain ⟨rfl, rfl, rfl⟩ := nok1 hw2
                have hge : (1125899906842624 : Int) ≤ ((wsum S (cs.take (i + 1)) : Nat) : Int) := by simp only [SM] at hw2; omega
                rw [hpw0]
                refine wkQ (ai @hge (ai @hwa (ai @hadd (ai @hwt (ai @hmul (ai @hne0 (ai @hg0 (ai @row1 (ai @hqz (ai @hin1 @bz_G5)))))))))) ?_
                refine hr _ ?_
                exact rcQ @bz_G5
            · obtain ⟨rfl, rfl, rfl⟩ := nok1 (by have := mt hfc.2 hf; omega)
              rw [decide_eq_false hf] at pf1
              rw [hpw0]
              refine wkQ (ai @hne0 (ai @hg0 (ai @row1 (ai @hqz (ai @hin1 @bz_G5))))) ?_
              refine hr _ ?_
              exact rcQ @bz_G5
          · obtain ⟨rfl, rfl, rfl⟩ := nok1 (by have := big_p (c := c.natAbs) (by omega) hp0; omega)
            have hpw : pwr S i = SM := if_neg hp0
            rw [hpw]
            refine wkQ (ai @hg0 (ai @row1 (ai @hqz (ai @hin1 @bz_G5)))) ?_
            refine hr _ ?_
            exact rcQ @bz_G5
      · obtain ⟨rfl, rfl, rfl⟩ := nok1 fun h => big_c (i := i) hS1 (show SM ≤ c.natAbs from by unfold Pi at hP; simp only [SM]; omega) (by omega)
        rw [sm_nofit hP] at hsm
        refine wkQ (ai @row1 (ai @hqz (ai @hin1 @bz_G5))) ?_
        refine hr _ ?_
        exact rcQ @bz_G5
    · obtain rfl : i = n := by omega
      rw [show cs.take i = cs from by rw [hn, List.take_length]] at hw ⊢
      have hok : vOk cs z := ⟨h1, by rw [← hS]; exact hw⟩
      obtain rfl : e = 0 := by rw [he0]; exact if_pos hok
      rw [show vF cs z = horner z cs from if_pos hok] at hr1 hr2
      have hlast := outside_spec (horner z cs) (Nat.lt_of_le_of_lt (horner_sz z hzS cs) hw)
      simp only [nV] at hlast
      rw [← hr1, ← hr2] at hlast
      have hI : (I64 cs).length = i := by rw [I64_len, ← hn]
      refine spQ (ai @hin1 @bz_G5) ?_
      refine he _ _ ?_
      refine wkQ @bz_G5 ?_
      refine vm_loopA [] Nat (fun k => ⟨[(4, .pt 0 0), (10, .ow 1 1 i), (16, .z (horner z (cs.drop k)).1 (horner z (cs.drop k)).2), (17, .z z.1 z.2), (18, .i .i64 ((k : Int) - 1))],
          [(0, some ⟨38, 2, [.i .i64 0, .i .i64 0], true, true⟩), (1, some ⟨3, 1, I64 cs, true, false⟩)], 2⟩)
        (fun k => k ≤ i) (fun k => k) i (Nat.le_refl _) (by exact leQ) (by
        simp (disch := (first | omega | assumption)) only [Sl, Sa, Sw, ↓reduceIte, Nat.reduceEqDiff, Nat.reduceLT, List.all_nil, List.all_cons, Nat.reduceBneDiff, Nat.reduceAdd, bne_iff_ne, ne_eq, reduceCtorEq, not_false_eq_true, not_true_eq_false, Bool.and_true, Bool.true_and, and_true, true_and, and_self, i_eq, z_eq]
        rw [List.drop_of_length_le (by omega)]
        repeat' first | rfl | omega | (simp only [List.length_append, List.length_cons, List.length_nil]; done) | apply And.intro) ?_
      intro k hk Q2 hQ2 he2 hr2'
      by_cases hk0 : (0 : Int) ≤ (k : Int) - 1
      · obtain ⟨j, rfl⟩ : ∃ j, k = j + 1 := ⟨k - 1, by omega⟩
        have hj : j < cs.length := by omega
        have hd := horner_drop z cs j hj
        have hwd := wsum_drop S cs j (by omega)
        have hwe : wsum S (cs.drop j) = (cs.getD j 0).natAbs + S * wsum S (cs.drop (j + 1)) := by
          rw [List.drop_eq_getElem_cons hj, wsum, List.getD_eq_getElem?_getD, List.getElem?_eq_getElem hj]; rfl
        have hwj : wsum S (cs.drop j) < SM := by
          have := Nat.mul_le_mul_right (wsum S (cs.drop j)) (Nat.pow_pos hS1 : 1 ≤ S ^ j)
          omega
        have hsz := horner_sz z hzS (cs.drop (j + 1))
        have hgm : gsz (horner z (cs.drop (j + 1))) * gsz z ≤ S * wsum S (cs.drop (j + 1)) := by
          rw [Nat.mul_comm S]; exact Nat.mul_le_mul hsz hzS
        have hz1 := gmul_ok (x := horner z (cs.drop (j + 1))) (y := z) (by omega)
        have hg2 := gsz_mul (horner z (cs.drop (j + 1))) z
        have hget := I64_get cs j hj
        generalize cs.getD j 0 = c at *
        have e1 : (horner z (cs.drop j)).1 = (horner z (cs.drop (j + 1))).1 * z.1 - (horner z (cs.drop (j + 1))).2 * z.2 + c := by rw [hd]; rfl
        have e2 : (horner z (cs.drop j)).2 = (horner z (cs.drop (j + 1))).1 * z.2 + (horner z (cs.drop (j + 1))).2 * z.1 + 0 := by rw [hd]; rfl
        generalize horner z (cs.drop (j + 1)) = v at *
        unfold gmul at hg2
        rw [show gsz (v.1 * z.1 - v.2 * z.2, v.1 * z.2 + v.2 * z.1) = (v.1 * z.1 - v.2 * z.2).natAbs + (v.1 * z.2 + v.2 * z.1).natAbs from rfl] at hg2
        have hc : c.natAbs < 9007199254740992 := by simp only [SM] at hwj; omega
        have hz2 : (v.1 * z.1 - v.2 * z.2 + c).natAbs < 9007199254740992 ∧ (v.1 * z.2 + v.2 * z.1 + 0).natAbs < 9007199254740992 := by
          simp only [SM] at hwj
          generalize v.1 * z.1 - v.2 * z.2 = x1 at *
          generalize v.1 * z.2 + v.2 * z.1 = x2 at *
          omega
        have ej : ((j + 1 : Nat) : Int) - 1 = (j : Int) := by omega
        simp only [ej]
        have hj0 : (0 : Int) ≤ (j : Int) := by omega
        refine spQ (ai @hz2 (ai @hz1 (ai @hc (ai @hget (ai @hI (ai @hj0 @bz_G5)))))) ?_
        refine hQ2 _ j (by omega) (by omega) ?_
        simp (disch := (first | omega | assumption)) only [Sl, Sa, Sw, ↓reduceIte, Nat.reduceEqDiff, Nat.reduceLT, List.all_nil, List.all_cons, Nat.reduceBneDiff, Nat.reduceAdd, bne_iff_ne, ne_eq, reduceCtorEq, not_false_eq_true, not_true_eq_false, Bool.and_true, Bool.true_and, and_true, true_and, and_self, i_eq, z_eq]
        repeat' first | rfl | omega | (simp only [List.length_append, List.length_cons, List.length_nil]; done) | apply And.intro
        all_goals first | exact e1.symm | exact e2.symm
      · obtain rfl : k = 0 := by omega
        rw [List.drop_zero, ← hr1, ← hr2]
        refine spQ (ai @hk0 @bz_G5) ?_
        refine he2 _ _ ?_
        exact wcQ @bz_G5
  · have p1 := gsize_bad h1
    obtain ⟨rfl, rfl, rfl⟩ := fails fun h => h1 h.1
    simp only [nV] at p1
    refine mkcQ fol J0s Try.func14 a14 [.c 4 true 2, .t 5] ?_
    unfold a14
    simp only [init_eq, initE, qm, qr, qn]
    refine wkQ @bz_G5 ?_
    exact rcQ @bz_G5
end Go.Proofs.Yteaiegppmbcibaa
