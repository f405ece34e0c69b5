/-
  qpoly: the long division.
-/
import Derived.Test.YtbkpaeejjepnpaaGreatQP5
namespace Go.Proofs.YtbkpaeejjepnpaaGreat
open Go Go.RowKit Ab
set_option linter.unusedSimpArgs false
set_option linter.unusedVariables false
set_option maxHeartbeats 10000000
theorem bz_QP6 : type_of% (And.intro @W_len (And.intro @D_len (And.intro @Nat.div_one (And.intro @Nat.mul_one (And.intro @tn_nat (And.intro @W_nf (And.intro @D_nf (And.intro @W_nil (And.intro @D_nil (And.intro @wi (And.intro @nf_g (And.intro @Bool.false_and (And.intro @W_cell (@RC_nf)))))))))))))) := And.intro @W_len (And.intro @D_len (And.intro @Nat.div_one (And.intro @Nat.mul_one (And.intro @tn_nat (And.intro @W_nf (And.intro @D_nf (And.intro @W_nil (And.intro @D_nil (And.intro @wi (And.intro @nf_g (And.intro @Bool.false_and (And.intro @W_cell (@RC_nf)))))))))))))
def dvl (b : List Rat) : Nat → List Rat → List Rat → List Rat × List Rat
  | 0, rest, quo => (quo, rest)
  | n + 1, rest, quo => if b.length ≤ rest.length then
      dvl b n (tzq (srow rest (rest.length - b.length) (rest.getD (rest.length - 1) 0 / b.getD (b.length - 1) 0) b b.length)) (quo.set (rest.length - b.length) (rest.getD (rest.length - 1) 0 / b.getD (b.length - 1) 0))
    else (quo, rest)
theorem dvl_spec {p b : List Rat} {E P L D M : Nat} (hb : By b L D M) : ∀ (n : Nat) (rest quo : List Rat) (j : Nat), Dv p b rest quo E P L D M j → p.length < n + j → ∃ k, Dv p b (dvl b n rest quo).2 (dvl b n rest quo).1 E P L D M k ∧ (dvl b n rest quo).2.length < b.length ∧ k + b.length ≤ max (p.length + 1) (j + b.length)
  | 0, rest, quo, j, h, hn => by have := h.hj; omega
  | n + 1, rest, quo, j, h, hn => by
    unfold dvl
    by_cases hl : b.length ≤ rest.length
    · rw [if_pos hl]
      obtain ⟨_, _, _, h4, _, _⟩ := Dv_step hb h hl
      have hj := h.hj
      obtain ⟨k, k1, k2, k3⟩ := dvl_spec hb n _ _ (j + 1) h4 (by omega)
      exact ⟨k, k1, k2, by omega⟩
    · rw [if_neg hl]
      exact ⟨j, h, by show rest.length < b.length; omega, by omega⟩
theorem rep_snoc (i : Nat) : List.replicate (i + 1) (0 : Rat) = List.replicate i 0 ++ [0] := by rw [List.replicate_succ']
def a21 : AC := .seq (.reg [qr 4 (.mv (.k .nl)),
 qr 5 (.mv (.k .nl)),
 qr 6 (.mv (.k (.i .i64 0)))])
 (.seq (.reg [qm 19 0,
 qm 20 1,
 qr 21 (.call 36 [(3, (.t 19)), (3, (.t 20))]),
 qm 18 21,
 qr 22 (.ext (.t 18) 0),
 qr 23 (.ext (.t 18) 1),
 qr 24 (.ext (.t 18) 2),
 qm 7 22,
 qm 8 23,
 qm 9 24])
 (.seq (.blk 0
 (.seq (.reg [qm 26 9,
 qr 27 (.bin .neq (.t 26) (.k (.i .i64 0))),
 qm 25 27])
 (.cond (.t 25)
 (.seq (.reg [qm 28 9,
 qr 4 (.mv (.k .nl)),
 qr 5 (.mv (.k .nl)),
 qm 6 28])
 (.ret))
 (.seq (.reg [qm 30 8,
 qr 31 (.len (.t 30)),
 qr 32 (.bin .eql (.t 31) (.k (.i .i64 0))),
 qm 29 32])
 (.cond (.t 29)
 (.seq (.reg [qr 4 (.mv (.k .nl)),
 qr 5 (.mv (.k .nl)),
 qr 6 (.mv (.k (.i .i64 1)))])
 (.ret))
 (.skip))))))
 (.seq (.reg [qr 10 (.mv (.k .nl))])
 (.seq (.seq (.reg [qm 33 7,
 qr 34 (.len (.t 33)),
 qm 35 8,
 qr 36 (.len (.t 35)),
 qr 37 (.bin .sub (.t 34) (.t 36)),
 qr 38 (.bin .add (.t 37) (.k (.i .i64 1))),
 qr 39 (.mm true (.t 38) (.k (.i .i64 0))),
 qr 40 (.mv (.k (.i .i64 0)))])
 (.blk 1
 (.loop
 (.seq (.reg [qr 41 (.bin .lss (.t 40) (.t 39))])
 (.seq (.cond (.t 41)
 (.skip)
 (.exit 1))
 (.seq (.blk 2
 (.reg [qm 42 10,
 qr 43 (.call 47 []),
 qr 44 (.bsl 31 3 1 [(.b false), (.l 1 []), (.l 1 [])] [(0, (.t 43))]),
 qr 45 (.app 31 3 56 (.t 42) (.t 44)),
 qm 10 45]))
 (.reg [qr 46 (.bin .add (.t 40) (.k (.i .i64 1))),
 qm 40 46])))))))
 (.seq (.blk 3
 (.loop
 (.seq (.seq (.reg [qm 47 7,
 qr 48 (.len (.t 47)),
 qm 49 8,
 qr 50 (.len (.t 49)),
 qr 51 (.bin .geq (.t 48) (.t 50))])
 (.cond (.t 51)
 (.skip)
 (.exit 3)))
 (.blk 4
 (.seq (.reg [qm 52 7,
 qr 53 (.len (.t 52)),
 qm 54 8,
 qr 55 (.len (.t 54)),
 qr 56 (.bin .sub (.t 53) (.t 55)),
 qm 11 56])
 (.seq (.dreg [qm 58 7,
 qm 59 7,
 qr 60 (.len (.t 59)),
 qr 61 (.bin .sub (.t 60) (.k (.i .i64 1))),
 qr 62 (.idx 3 (.t 58) (.t 61)),
 qr 63 (.ld true 3 (.t 62)),
 qm 64 8,
 qm 65 8,
 qr 66 (.len (.t 65)),
 qr 67 (.bin .sub (.t 66) (.k (.i .i64 1))),
 qr 68 (.idx 3 (.t 64) (.t 67)),
 qr 69 (.ld true 3 (.t 68)),
 qr 70 (.call 48 [(1, (.t 63)), (1, (.t 69))]),
 qm 57 70,
 qr 71 (.ext (.t 57) 0),
 qr 72 (.ext (.t 57) 1),
 qr 12 (.al 31 [(.b false), (.l 1 []), (.l 1 [])]),
 qn (.st 3 (.t 12) (.t 71)),
 qm 13 72])
 (.seq (.seq (.reg [qm 73 8,
 qr 74 (.len (.t 73)),
 qr 75 (.mv (.k (.i .i64 0)))])
 (.blk 5
 (.loop
 (.seq (.reg [qr 76 (.bin .lss (.t 75) (.t 74))])
 (.seq (.cond (.t 76)
 (.skip)
 (.exit 5))
 (.seq (.blk 6
 (.seq (.reg [qm 77 75,
 qr 78 (.idx 3 (.t 73) (.t 75)),
 qr 79 (.ld true 3 (.t 78)),
 qr 15 (.al 31 [(.b false), (.l 1 []), (.l 1 [])]),
 qm 14 77,
 qn (.st 3 (.t 15) (.t 79))])
 (.seq (.reg [qr 81 (.ld true 3 (.t 12)),
 qr 82 (.ld true 3 (.t 15)),
 qr 83 (.call 44 [(1, (.t 81)), (1, (.t 82))]),
 qm 80 83,
 qr 84 (.ext (.t 80) 0),
 qr 85 (.ext (.t 80) 1),
 qr 16 (.al 31 [(.b false), (.l 1 []), (.l 1 [])]),
 qn (.st 3 (.t 16) (.t 84)),
 qm 17 85])
 (.dreg [qm 87 7,
 qm 88 11,
 qm 89 14,
 qr 90 (.bin .add (.t 88) (.t 89)),
 qm 91 7,
 qm 92 11,
 qm 93 14,
 qr 94 (.bin .add (.t 92) (.t 93)),
 qr 95 (.idx 3 (.t 91) (.t 94)),
 qr 96 (.ld true 3 (.t 95)),
 qr 97 (.ld true 3 (.t 16)),
 qr 98 (.call 49 [(1, (.t 96)), (1, (.t 97))]),
 qm 86 98,
 qr 99 (.ext (.t 86) 0),
 qr 100 (.ext (.t 86) 1),
 qr 101 (.idx 3 (.t 87) (.t 90)),
 qn (.st 3 (.t 101) (.t 99))]))))
 (.reg [qr 102 (.bin .add (.t 75) (.k (.i .i64 1))),
 qm 75 102])))))))
 (.seq (.reg [qm 103 10,
 qm 104 11,
 qr 105 (.ld true 3 (.t 12)),
 qr 106 (.idx 3 (.t 103) (.t 104)),
 qn (.st 3 (.t 106) (.t 105))])
 (.reg [qm 107 7,
 qr 108 (.ocall 40 (.t 107)),
 qm 7 108])))))))))
 (.seq (.reg [qm 109 10,
 qr 110 (.ocall 40 (.t 109)),
 qm 111 7,
 qm 4 110,
 qm 5 111,
 qr 6 (.mv (.k (.i .i64 0)))])
 (.ret)))))))
theorem pdiv_0 (l k : R3) (A : List Rat) (hbo : AFun Tryz.prog J0 36 [.l 3 (RC l), .l 3 (RC k)] (.t [.l 3 (RC (nfq A)), .l 3 [], .i .i64 0])) :
    AFun Tryz.prog J0 21 [.l 3 (RC l), .l 3 (RC k)] (.t [.l 3 [], .l 3 [], .i .i64 1]) := by
  refine mkQ fol J0s Tryz.func21 a21 ?_
  unfold a21
  simp only [init_eq, initE, qm, qr, qn]
  have zc1 := hbo
  exact wdQ @bz_QP6
theorem pdiv_spec (l k : R3) (A C : List Rat) (E P L D M m J : Nat) (hm : m ≤ 49000000) (lA : A.length ≤ 1000) (lC : C.length ≤ 1000) (hb : By C L D M) (h0 : Dv A C A (List.replicate (A.length + 1 - C.length) 0) E P L D M 0)
    (hJ : A.length + 1 ≤ J + C.length) (hsz : ∀ j, j ≤ J → E * L ^ j < B ^ m ∧ P * (2 * M) ^ j < B ^ m ∧ P * (2 * M) ^ j * D < B ^ m ∧ P * (2 * M) ^ j * M < B ^ m) (hcC : Cq C m)
    (hbo : AFun Tryz.prog J0 36 [.l 3 (RC l), .l 3 (RC k)] (.to 31 3 (RC (nfq A)) [.l 3 (RC (nfq C)), .i .i64 0])) :
    AFun Tryz.prog J0 21 [.l 3 (RC l), .l 3 (RC k)] (.t [.l 3 (RC (nfq (tzq (dvl C (A.length + 1) A (List.replicate (A.length + 1 - C.length) 0)).1))), .l 3 (RC (nfq (dvl C (A.length + 1) A (List.replicate (A.length + 1 - C.length) 0)).2)), .i .i64 0]) := by
  have hzC := QC_len C
  have dC : C.length * 3 / 3 = C.length := by omega
  have hzA := QC_len A
  have dA : A.length * 3 / 3 = A.length := by omega
  have hC0 := hb.h0
  have cI : ¬ (C.length : Int) = 0 := by omega
  have hn1 := pnone_spec
  rw [rN_01] at hn1
  obtain ⟨nq, hnq⟩ : ∃ nq, nq = A.length + 1 - C.length := ⟨_, rfl⟩
  have hnqI : max ((A.length : Int) - (C.length : Int) + 1) 0 = (nq : Int) := by omega
  rw [← hnq] at h0 ⊢
  obtain ⟨F, hF⟩ : ∃ F, F = dvl C (A.length + 1) A (List.replicate nq 0) := ⟨_, rfl⟩
  rw [← hF]
  have z0 : ∀ i, RC (nfq (List.replicate i (0 : Rat))) ++ [V.b false, .l 1 [], .l 1 (W (dg B 1))] = RC (nfq (List.replicate (i + 1) (0 : Rat))) := fun i => by
    rw [rep_snoc, ← QC_app1]
    show _ = _ ++ [V.b (decide ((0 : Int) < 0)), .l 1 (W (dg B 0)), .l 1 (W (dg B 1))]
    rw [dg_zero]; rfl
  refine mkQ fol J0s Tryz.func21 a21 ?_
  unfold a21
  simp only [init_eq, initE, qm, qr, qn]
  have zc2 := hbo
  refine wkQ (ai @hnqI (ai @cI (ai @dC (ai @dA (ai @hzC (ai @hzA @bz_QP6)))))) ?_
  refine vm_loopA [(10, 31, 3)] Nat (fun i => ⟨[(7, .ow 3 0 A.length), (8, .l 3 (RC (nfq C))), (10, .ow 3 1 i), (39, .i .i64 (nq : Int)), (40, .i .i64 (i : Int))],
      [(0, some ⟨31, 3, RC (nfq A), true, false⟩), (1, some ⟨31, 3, RC (nfq (List.replicate i (0 : Rat))), true, false⟩)], 2⟩)
    (fun i => i ≤ nq) (fun i => nq - i) 0 (Nat.zero_le _) (by exact leQ) (by
    exact ltQ) ?_
  intro i hi Q' hQ he hr
  by_cases h : (i : Int) < (nq : Int)
  · have hap := z0 i
    have l0 := QC_len (List.replicate i (0 : Rat))
    have l1 := QC_len (List.replicate (i + 1) (0 : Rat))
    rw [List.length_replicate] at l0 l1
    refine wkQ (ai @hap (ai @h @bz_QP6)) ?_
    refine hQ _ (i + 1) (by omega) (by omega) ?_
    exact ltQ
  · obtain rfl : i = nq := by omega
    refine spQ (ai @h @bz_QP6) ?_
    refine he _ _ ?_
    refine spQ @bz_QP6 ?_
    refine vm_loopA [] (List Rat × List Rat × Nat) (fun s => ⟨[(7, .ow 3 0 s.1.length), (8, .l 3 (RC (nfq C))), (10, .ow 3 1 i)],
        [(0, some ⟨31, 3, RC (nfq s.1), true, false⟩), (1, some ⟨31, 3, RC (nfq s.2.1), true, false⟩)], 2⟩)
      (fun s => Dv A C s.1 s.2.1 E P L D M s.2.2 ∧ dvl C (A.length + 1 - s.2.2) s.1 s.2.1 = F ∧ s.2.1.length = i ∧ (s.2.2 = 0 ∨ s.2.2 + C.length ≤ A.length + 1)) (fun s => s.1.length) (A, List.replicate i 0, 0) ⟨h0, hF.symm, by simp, .inl rfl⟩ (by exact leQ) (by
      exact ltQ) ?_
    rintro ⟨rest, quo, j⟩ ⟨hDv, hdvl, hql, hjc⟩ Q2 hQ2 he2 hr2
    simp only at hDv hdvl hql hjc ⊢
    have hzR := QC_len rest
    have hjj := hDv.hj
    by_cases h2 : (C.length : Int) ≤ (rest.length : Int)
    · obtain ⟨s1, s2, s3, s4, s5, s6⟩ := Dv_step hb hDv (by omega)
      have e0 : dvl C (A.length + 1 - j) rest quo = dvl C (A.length + 1 - (j + 1)) (tzq (srow rest (rest.length - C.length) (rest.getD (rest.length - 1) 0 / C.getD (C.length - 1) 0) C C.length)) (quo.set (rest.length - C.length) (rest.getD (rest.length - 1) 0 / C.getD (C.length - 1) 0)) := by
        rw [show A.length + 1 - j = (A.length + 1 - (j + 1)) + 1 from by omega]
        rw [dvl, if_pos (by omega)]
      obtain ⟨z1, z2, _, _⟩ := hsz j (by omega)
      obtain ⟨y1, y2, y3, y4⟩ := hsz (j + 1) (by omega)
      have hMp : P * (2 * M) ^ j * D < B ^ m ∧ P * (2 * M) ^ j * M < B ^ m := ⟨(hsz j (by omega)).2.2.1, (hsz j (by omega)).2.2.2⟩
      have hcR := PB_Cq hDv.hr z1 z2
      obtain ⟨ar, har⟩ : ∃ a, a = rest.length - C.length := ⟨_, rfl⟩
      obtain ⟨c, hc⟩ : ∃ c, c = rest.getD (rest.length - 1) 0 / C.getD (C.length - 1) 0 := ⟨_, rfl⟩
      rw [← har, ← hc] at s4 s5 s6 e0
      rw [← hc] at s1 s2
      rw [← har] at s3
      have harI : (rest.length : Int) - (C.length : Int) = (ar : Int) := by omega
      have hC1 : (C.length : Int) - 1 = ((C.length - 1 : Nat) : Int) := by omega
      have hR1 : (rest.length : Int) - 1 = ((rest.length - 1 : Nat) : Int) := by omega
      have rowR := QC_row rest (rest.length - 1) (by omega)
      have rowC := QC_row C (C.length - 1) (by omega)
      have hE1 := s5 0 (Nat.zero_le _)
      have szc := Fq_sz hE1.1 s1
      have hcc : c.num.natAbs < B ^ m ∧ c.den < B ^ m := ⟨Nat.lt_of_le_of_lt szc.1 hMp.1, Nat.lt_of_le_of_lt szc.2.1 y1⟩
      have hCn : C.getD (C.length - 1) 0 ≠ 0 := tzq_lead hb.ht hb.h0
      have q1 := (qquoR (Cq_Rr hcR (rest.length - 1)) (Cq_Rr hcC (C.length - 1)) (by omega) hCn).1
      rw [← hc] at q1
      have hmul : ∀ u, AFun Tryz.prog J0 44 [rN c.num c.den, rN (C.getD u 0).num (C.getD u 0).den] (.t [rN (c * C.getD u 0).num (c * C.getD u 0).den, .i .i64 0]) := fun u => (qmulR (Rr_c hcc.1 hcc.2) (Cq_Rr hcC u) (by omega)).1
      have hmsz : ∀ u, (c * C.getD u 0).num.natAbs < B ^ m ∧ (c * C.getD u 0).den < B ^ m := fun u => by
        have := Fq_sz hE1.1 (s2 u)
        exact ⟨Nat.lt_of_le_of_lt this.1 hMp.2, Nat.lt_of_le_of_lt this.2.1 y1⟩
      have hsub : ∀ u, u ≤ C.length → AFun Tryz.prog J0 49 [rN ((srow rest ar c C u).getD (ar + u) 0).num ((srow rest ar c C u).getD (ar + u) 0).den, rN (c * C.getD u 0).num (c * C.getD u 0).den] (.t [rN ((srow rest ar c C u).getD (ar + u) 0 - c * C.getD u 0).num ((srow rest ar c C u).getD (ar + u) 0 - c * C.getD u 0).den, .i .i64 0]) := fun u hu =>
        (qsubR (Cq_Rr (PB_Cq (s5 u hu) y1 y2) (ar + u)) (Rr_c (hmsz u).1 (hmsz u).2) (by omega)).1
      have htr := ptrim_spec (srow rest ar c C C.length) m hm (by rw [srow_len]; omega) (PB_Cq (s5 C.length (Nat.le_refl _)) y1 y2)
      have htl := QC_len (tzq (srow rest ar c C C.length))
      have hsl := fun u => srow_len rest ar c C u
      have hsl3 := fun u => QC_len (srow rest ar c C u)
      simp only [hsl] at hsl3
      have hs0 : srow rest ar c C 0 = rest := rfl
      have hss : ∀ u, srow rest ar c C (u + 1) = (srow rest ar c C u).set (ar + u) ((srow rest ar c C u).getD (ar + u) 0 - c * C.getD u 0) := fun u => rfl
      have hqset := QC_set quo ar c
      have hzQ := QC_len quo
      have hd1 := s4.hj
      clear s1 s2 s5 hsz hE1 szc hMp z1 z2 y1 y2 y3 y4 hcR hcC hmsz
      rw [rN_b] at q1
      rw [rN_b] at q1
      rw [rN_b] at q1
      simp only [rN_b] at hmul hsub
      generalize C.getD (C.length - 1) 0 = cl at *
      generalize rest.getD (rest.length - 1) 0 = rl at *
      generalize hT : tzq (srow rest ar c C C.length) = T at *
      refine wkQ (ai @rowC (ai @rowR (ai @hR1 (ai @hC1 (ai @harI (ai @dC (ai @hzR (ai @hzC (ai @h2 @bz_QP6))))))))) ?_
      refine vm_loopA [] Nat (fun u => ⟨[(7, .ow 3 0 rest.length), (8, .l 3 (RC (nfq C))), (10, .ow 3 1 i), (11, .i .i64 (ar : Int)), (12, .pt 2 0), (73, .l 3 (RC (nfq C))), (74, .i .i64 (C.length : Int)), (75, .i .i64 (u : Int))],
          [(0, some ⟨31, 3, RC (nfq (srow rest ar c C u)), true, false⟩), (1, some ⟨31, 3, RC (nfq quo), true, false⟩), (2, some ⟨31, 3, [.b (decide (c.num < 0)), .l 1 (W (dg B c.num.natAbs)), .l 1 (W (dg B c.den))], true, true⟩)], 3⟩)
        (fun u => u ≤ C.length) (fun u => C.length - u) 0 (Nat.zero_le _) (by exact leQ) (by
        exact ltQ) ?_
      intro u hu Q3 hQ3 he3 hr3
      by_cases h3 : (u : Int) < (C.length : Int)
      · have rowu := QC_row C u (by omega)
        have m1 := hmul u
        have m2 := hsub u (by omega)
        have hs3 := hsl3 u
        have hau : (ar : Int) + (u : Int) = ((ar + u : Nat) : Int) := by omega
        have rowr := QC_row (srow rest ar c C u) (ar + u) (by rw [hsl]; omega)
        have hset := QC_set (srow rest ar c C u) (ar + u) ((srow rest ar c C u).getD (ar + u) 0 - c * C.getD u 0)
        rw [← hss u] at hset
        have hlt : ar + u < rest.length := by omega
        clear hmul hsub hsl3 hss hT
        generalize (srow rest ar c C u).getD (ar + u) 0 - c * C.getD u 0 = w1 at *
        generalize (srow rest ar c C u).getD (ar + u) 0 = w2 at *
        generalize c * C.getD u 0 = w3 at *
        generalize hrw : srow rest ar c C (u + 1) = rw1 at *
        generalize srow rest ar c C u = rw0 at *
        generalize C.getD u 0 = cu at *
        generalize ar + u = kk at *
        refine wkQ (ai @hset (ai @rowr (ai @hs3 (ai @hau (ai @rowu (ai @hzC (ai @h3 @bz_QP6))))))) ?_
        refine hQ3 _ (u + 1) (by omega) (by omega) ?_
        simp (disch := (first | omega | assumption)) only [Sl, Sa, Sw, ↓reduceIte, Nat.reduceEqDiff, Nat.reduceLT, List.all_nil, List.all_cons, Nat.reduceBneDiff, Nat.reduceAdd, bne_iff_ne, ne_eq, reduceCtorEq, not_false_eq_true, not_true_eq_false, Bool.and_true, Bool.true_and, and_true, true_and, and_self, i_eq]
        rw [hrw]; exact ⟨rfl, rfl⟩
      · obtain rfl : u = C.length := by omega
        refine spQ (ai @h3 @bz_QP6) ?_
        refine he3 _ _ ?_
        refine wkQ (ai @hsl3 (ai @hql (ai @hzQ (ai @hqset @bz_QP6)))) ?_
        refine hQ2 _ (T, quo.set ar c, j + 1) ⟨s4, by rw [← e0]; exact hdvl, by rw [List.length_set]; exact hql, .inr (by simp only; omega)⟩ (by simp only; omega) ?_
        simp only
        exact ltQ
    · have e1 : F = (quo, rest) := by
        rw [← hdvl, show A.length + 1 - j = (A.length - j) + 1 from by omega, dvl, if_neg (by omega)]
      have htq := ptrim_spec quo m hm (by omega) (by
        obtain ⟨z1, _, z3, _⟩ := hsz j (by omega)
        exact PB_Cq hDv.hq z1 z3)
      have f1 : tzq F.1 = tzq quo := by rw [e1]
      have f2 : F.2 = rest := by rw [e1]
      clear e1 hdvl hF
      generalize tzq quo = TQ at *
      refine spQ (ai @dC (ai @hzR (ai @hzC (ai @h2 @bz_QP6)))) ?_
      refine he2 _ _ ?_
      exact wdQ (ai @f2 (ai @f1 @bz_QP6))
end Go.Proofs.YtbkpaeejjepnpaaGreat
