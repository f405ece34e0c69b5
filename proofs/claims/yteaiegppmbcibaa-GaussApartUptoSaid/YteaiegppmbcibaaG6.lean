/-
  gauss: values at many, turns, squares.
-/
import Derived.Test.YteaiegppmbcibaaG5
namespace Go.Proofs.Yteaiegppmbcibaa
open Go Go.RowKit Ab
set_option linter.unusedSimpArgs false
set_option linter.unusedVariables false
set_option maxHeartbeats 10000000
theorem bz_G6 : type_of% (And.intro @W_len (And.intro @D_len (And.intro @Nat.div_one (And.intro @Nat.mul_one (And.intro @tn_nat (And.intro @W_nf (And.intro @D_nf (And.intro @W_nil (And.intro @D_nil (And.intro @wi (And.intro @nf_g (And.intro @Bool.false_and (And.intro @W_cell (And.intro @ZC_cell (@ZC_nil))))))))))))))) := And.intro @W_len (And.intro @D_len (And.intro @Nat.div_one (And.intro @Nat.mul_one (And.intro @tn_nat (And.intro @W_nf (And.intro @D_nf (And.intro @W_nil (And.intro @D_nil (And.intro @wi (And.intro @nf_g (And.intro @Bool.false_and (And.intro @W_cell (And.intro @ZC_cell (@ZC_nil))))))))))))))
def NC : List GZ → List V
  | [] => []
  | z :: r => .i .i64 z.1 :: .i .i64 z.2 :: NC r
theorem NC_len : ∀ l, (NC l).length = l.length * 2
  | [] => rfl
  | p :: r => by simp only [NC, List.length_cons, NC_len r]; omega
theorem NC_row : ∀ (l : List GZ) (i : Nat), i < l.length → ((NC l).drop (i * 2)).take 2 = [.i .i64 (l.getD i (0, 0)).1, .i .i64 (l.getD i (0, 0)).2]
  | [], i, h => by simp at h
  | p :: r, 0, h => rfl
  | p :: r, i + 1, h => by
    have := NC_row r i (by simpa using h)
    rw [show (i + 1) * 2 = (i * 2 + 1) + 1 from by omega]
    exact this
theorem NC_app : ∀ (l r : List GZ), NC (l ++ r) = NC l ++ NC r
  | [], r => rfl
  | p :: l, r => by simp only [List.cons_append, NC, NC_app l r]
theorem NC_app1 (l : List GZ) (a b : Int) : NC l ++ [.i .i64 a, .i .i64 b] = NC (l ++ [(a, b)]) := by rw [NC_app]; rfl
theorem NC_nil : NC [] = [] := rfl
theorem NC_cell : ∀ l, (NC l).all V.cell = true
  | [] => rfl
  | p :: r => by simp only [NC, List.all_cons, V.cell, NC_cell r, Bool.and_true]
theorem NC_nf : ∀ l, anyNF (NC l) = false
  | [] => rfl
  | p :: r => by simp only [NC, anyNF, V.nf, NC_nf r, Bool.false_or]
theorem GZ_snoc (l : List GZ) (i : Nat) (h : i < l.length) : l.take (i + 1) = l.take i ++ [l.getD i (0, 0)] := by
  rw [List.take_succ_eq_append_getElem h, List.getD_eq_getElem?_getD, List.getElem?_eq_getElem h]; rfl
theorem GZ_mem {l : List GZ} {i : Nat} (h : i < l.length) : l.getD i (0, 0) ∈ l := by
  rw [List.getD_eq_getElem?_getD, List.getElem?_eq_getElem h]; exact List.getElem_mem h
theorem GZ_all {l : List GZ} {p : GZ → Prop} (h : ∀ j, j < l.length → p (l.getD j (0, 0))) : ∀ z, z ∈ l → p z := fun z hz => by
  obtain ⟨j, hj⟩ := List.getElem?_of_mem hz
  have h1 := (List.getElem?_eq_some_iff.1 hj).1
  have := h j h1
  rwa [List.getD_eq_getElem?_getD, hj] at this
def a8 : AC := .seq (.reg [qr 4 (.mv (.k .nl)),
 qr 5 (.mv (.k (.i .i64 0)))])
 (.seq (.reg [qr 6 (.mv (.k .nl))])
 (.seq (.seq (.reg [qm 11 1,
 qr 12 (.len (.t 11)),
 qr 13 (.mv (.k (.i .i64 0)))])
 (.blk 0
 (.loop
 (.seq (.reg [qr 14 (.bin .lss (.t 13) (.t 12))])
 (.seq (.cond (.t 14)
 (.skip)
 (.exit 0))
 (.seq (.blk 1
 (.seq (.reg [qr 15 (.idx 2 (.t 11) (.t 13)),
 qr 16 (.ld true 2 (.t 15)),
 qr 8 (.al 38 [(.i .i64 0), (.i .i64 0)]),
 qn (.st 2 (.t 8) (.t 16))])
 (.seq (.reg [qm 18 0,
 qr 19 (.ld true 2 (.t 8)),
 qr 20 (.call 14 [(2, (.t 18)), (1, (.t 19))]),
 qm 17 20,
 qr 21 (.ext (.t 17) 0),
 qr 22 (.ext (.t 17) 1),
 qr 9 (.al 38 [(.i .i64 0), (.i .i64 0)]),
 qn (.st 2 (.t 9) (.t 21)),
 qm 10 22])
 (.seq (.seq (.reg [qm 23 10,
 qr 24 (.bin .neq (.t 23) (.k (.i .i64 0)))])
 (.cond (.t 24)
 (.seq (.reg [qm 25 10,
 qr 4 (.mv (.k .nl)),
 qm 5 25])
 (.ret))
 (.skip)))
 (.reg [qm 26 6,
 qr 27 (.ld true 2 (.t 9)),
 qr 28 (.bsl 38 2 1 [(.i .i64 0), (.i .i64 0)] [(0, (.t 27))]),
 qr 29 (.app 38 2 16 (.t 26) (.t 28)),
 qm 6 29])))))
 (.reg [qr 30 (.bin .add (.t 13) (.k (.i .i64 1))),
 qm 13 30])))))))
 (.seq (.reg [qm 31 6,
 qm 4 31,
 qr 5 (.mv (.k (.i .i64 0)))])
 (.ret))))
theorem gvalsS (l : List (Bool × List Nat)) (m : Nat) (hm : m ≤ 100000000) (hl : ZOk l m) (zs : List GZ) (lz : zs.length ≤ 100000000) : AFun Try.prog J0 8 [.l 2 (ZC l), .l 2 (NC zs)] (.t [.l 2 (NC (vsF (zcs l) zs)), .i .i64 (vsE (zcs l) zs)]) := by
  have hv := gvalS l m hm hl
  obtain ⟨R, hR⟩ : ∃ R, R = vsF (zcs l) zs := ⟨_, rfl⟩
  obtain ⟨e, he0⟩ : ∃ e, e = vsE (zcs l) zs := ⟨_, rfl⟩
  rw [← hR, ← he0]
  have hnl : (NC zs).length / 2 = zs.length := by rw [NC_len]; omega
  have hnz := NC_len zs
  obtain ⟨n, hn⟩ : ∃ n, n = zs.length := ⟨_, rfl⟩
  rw [← hn] at hnl hnz
  refine mkQ fol J0s Try.func8 a8 ?_
  unfold a8
  simp only [init_eq, initE, qm, qr, qn]
  refine spQ (ai @hnl @bz_G6) ?_
  refine vm_loopA [(6, 38, 2)] Nat (fun i => ⟨[(0, .l 2 (ZC l)), (6, .ow 2 0 i), (11, .l 2 (NC zs)), (12, .i .i64 (n : Int)), (13, .i .i64 (i : Int))],
      [(0, some ⟨38, 2, NC ((zs.take i).map (vF (zcs l))), true, false⟩)], 1⟩)
    (fun i => i ≤ n ∧ ∀ j, j < i → vOk (zcs l) (zs.getD j (0, 0))) (fun i => n - i) 0 ⟨Nat.zero_le _, fun j h => by omega⟩ (by exact leQ) (by
    exact ltQ) ?_
  rintro i ⟨hi, hj⟩ Q' hQ he hr
  by_cases h : (i : Int) < (n : Int)
  · have hiz : i < zs.length := by omega
    have row := NC_row zs i hiz
    have hvi := hv (zs.getD i (0, 0))
    have hsn := GZ_snoc zs i hiz
    have hmem := GZ_mem hiz
    have hjn : vOk (zcs l) (zs.getD i (0, 0)) → ∀ j, j < i + 1 → vOk (zcs l) (zs.getD j (0, 0)) := fun h0 j h1 => by
      rcases Nat.lt_or_ge j i with h2 | h2
      · exact hj j h2
      · obtain rfl : j = i := by omega
        exact h0
    generalize zs.getD i (0, 0) = z at *
    simp only [nV] at hvi
    by_cases hok : vOk (zcs l) z
    · rw [show vE (zcs l) z = 0 from if_pos hok] at hvi
      have hap := NC_app1 ((zs.take i).map (vF (zcs l))) (vF (zcs l) z).1 (vF (zcs l) z).2
      have hap2 : (zs.take i).map (vF (zcs l)) ++ [((vF (zcs l) z).1, (vF (zcs l) z).2)] = (zs.take (i + 1)).map (vF (zcs l)) := by rw [hsn, List.map_append]; rfl
      rw [hap2] at hap
      have l0 := NC_len ((zs.take i).map (vF (zcs l)))
      have l1 := NC_len ((zs.take (i + 1)).map (vF (zcs l)))
      rw [List.length_map, List.length_take] at l0 l1
      refine wkQ (ai @hap (ai @row (ai @hnz (ai @h @bz_G6)))) ?_
      refine hQ _ (i + 1) ⟨by omega, hjn hok⟩ (by omega) ?_
      exact ltQ
    · rw [show vE (zcs l) z = 13 from if_neg hok, show vF (zcs l) z = (0, 0) from if_neg hok] at hvi
      obtain rfl : e = 13 := by rw [he0]; exact if_neg fun h => hok (h z hmem)
      obtain rfl : R = [] := by rw [hR]; unfold vsF; rw [← he0]; rfl
      refine wkQ (ai @row (ai @hnz (ai @h @bz_G6))) ?_
      refine hr _ ?_
      exact rtQ (ai @NC_nil @bz_G6)
  · obtain rfl : i = n := by omega
    have hall := GZ_all (l := zs) (p := vOk (zcs l)) fun j h => hj j (by omega)
    obtain rfl : e = 0 := by rw [he0]; exact if_pos hall
    have hR2 : R = zs.map (vF (zcs l)) := by rw [hR]; unfold vsF; rw [← he0]; rfl
    rw [show zs.take i = zs from by rw [hn, List.take_length], ← hR2]
    have l0 := NC_len R
    refine spQ (ai @h @bz_G6) ?_
    refine he _ _ ?_
    refine spQ @bz_G6 ?_
    exact rtQ @bz_G6
def a22 : AC := .seq (.reg [qr 1 (.bx 38 (.t 0)),
 qr 2 (.mv (.k (.i .i64 0))),
 qr 3 (.mv (.k (.i .i64 0)))])
 (.seq (.seq (.reg [qr 7 (.ld true 2 (.t 1)),
 qr 8 (.call 19 [(1, (.t 7))]),
 qm 6 8,
 qr 9 (.ext (.t 6) 0),
 qr 10 (.ext (.t 6) 1),
 qm 4 9,
 qm 5 10])
 (.seq (.reg [qm 11 5,
 qr 12 (.bin .neq (.t 11) (.k (.i .i64 0)))])
 (.cond (.t 12)
 (.seq (.reg [qm 13 5,
 qr 2 (.mv (.k (.i .i64 0))),
 qm 3 13])
 (.ret))
 (.skip))))
 (.seq (.blk 0
 (.seq (.reg [qr 15 (.fad 0 (.t 1)),
 qr 16 (.ld false 1 (.t 15)),
 qr 17 (.bin .eql (.t 16) (.k (.i .i64 0))),
 qm 18 17,
 ⟨some 19, some (18, true), .fad 1 (.t 1)⟩,
 ⟨some 20, some (18, true), .ld false 1 (.t 19)⟩,
 ⟨some 21, some (18, true), .bin .eql (.t 20) (.k (.i .i64 0))⟩,
 qr 22 (.pick (.t 18) (.t 21) (.k (.b false))),
 qm 14 22])
 (.cond (.t 14)
 (.seq (.reg [qr 2 (.mv (.k (.i .i64 0))),
 qr 3 (.mv (.k (.i .i64 1)))])
 (.ret))
 (.seq (.reg [qr 24 (.fad 1 (.t 1)),
 qr 25 (.ld false 1 (.t 24)),
 qr 26 (.bin .eql (.t 25) (.k (.i .i64 0))),
 qm 27 26,
 ⟨some 28, some (27, true), .fad 0 (.t 1)⟩,
 ⟨some 29, some (27, true), .ld false 1 (.t 28)⟩,
 ⟨some 30, some (27, true), .bin .gtr (.t 29) (.k (.i .i64 0))⟩,
 qr 31 (.pick (.t 27) (.t 30) (.k (.b false))),
 qm 23 31])
 (.cond (.t 23)
 (.seq (.reg [qr 2 (.mv (.k (.i .i64 0))),
 qr 3 (.mv (.k (.i .i64 0)))])
 (.ret))
 (.seq (.reg [qr 33 (.fad 1 (.t 1)),
 qr 34 (.ld false 1 (.t 33)),
 qr 35 (.bin .eql (.t 34) (.k (.i .i64 0))),
 qm 32 35])
 (.cond (.t 32)
 (.seq (.reg [qr 2 (.mv (.k (.i .i64 4))),
 qr 3 (.mv (.k (.i .i64 0)))])
 (.ret))
 (.seq (.reg [qr 37 (.fad 0 (.t 1)),
 qr 38 (.ld false 1 (.t 37)),
 qr 39 (.bin .eql (.t 38) (.k (.i .i64 0))),
 qm 40 39,
 ⟨some 41, some (40, true), .fad 1 (.t 1)⟩,
 ⟨some 42, some (40, true), .ld false 1 (.t 41)⟩,
 ⟨some 43, some (40, true), .bin .gtr (.t 42) (.k (.i .i64 0))⟩,
 qr 44 (.pick (.t 40) (.t 43) (.k (.b false))),
 qm 36 44])
 (.cond (.t 36)
 (.seq (.reg [qr 2 (.mv (.k (.i .i64 2))),
 qr 3 (.mv (.k (.i .i64 0)))])
 (.ret))
 (.seq (.reg [qr 46 (.fad 0 (.t 1)),
 qr 47 (.ld false 1 (.t 46)),
 qr 48 (.bin .eql (.t 47) (.k (.i .i64 0))),
 qm 45 48])
 (.cond (.t 45)
 (.seq (.reg [qr 2 (.mv (.k (.i .i64 6))),
 qr 3 (.mv (.k (.i .i64 0)))])
 (.ret))
 (.seq (.reg [qr 50 (.fad 1 (.t 1)),
 qr 51 (.ld false 1 (.t 50)),
 qr 52 (.bin .gtr (.t 51) (.k (.i .i64 0))),
 qm 53 52,
 ⟨some 54, some (53, true), .fad 0 (.t 1)⟩,
 ⟨some 55, some (53, true), .ld false 1 (.t 54)⟩,
 ⟨some 56, some (53, true), .bin .gtr (.t 55) (.k (.i .i64 0))⟩,
 qr 57 (.pick (.t 53) (.t 56) (.k (.b false))),
 qm 49 57])
 (.cond (.t 49)
 (.seq (.reg [qr 2 (.mv (.k (.i .i64 1))),
 qr 3 (.mv (.k (.i .i64 0)))])
 (.ret))
 (.seq (.reg [qr 59 (.fad 1 (.t 1)),
 qr 60 (.ld false 1 (.t 59)),
 qr 61 (.bin .gtr (.t 60) (.k (.i .i64 0))),
 qm 58 61])
 (.cond (.t 58)
 (.seq (.reg [qr 2 (.mv (.k (.i .i64 3))),
 qr 3 (.mv (.k (.i .i64 0)))])
 (.ret))
 (.seq (.reg [qr 63 (.fad 0 (.t 1)),
 qr 64 (.ld false 1 (.t 63)),
 qr 65 (.bin .lss (.t 64) (.k (.i .i64 0))),
 qm 62 65])
 (.cond (.t 62)
 (.seq (.reg [qr 2 (.mv (.k (.i .i64 5))),
 qr 3 (.mv (.k (.i .i64 0)))])
 (.ret))
 (.skip))))))))))))))))))
 (.seq (.reg [qr 2 (.mv (.k (.i .i64 7))),
 qr 3 (.mv (.k (.i .i64 0)))])
 (.ret))))
theorem geiS (z : GZ) : AFun Try.prog J0 22 [nV z] (.t [.i .i64 (eiF z), .i .i64 (eiE z)]) := by
  obtain ⟨a, b⟩ := z
  by_cases h1 : gsz (a, b) < SM
  · have p1 := gsize_ok h1
    have hE : eiE (a, b) = if a = 0 ∧ b = 0 then 1 else 0 := by unfold eiE; rw [if_pos h1]; simp only [Prod.mk.injEq]
    simp only [nV] at *
    generalize gsz (a, b) = s at *
    rcases Int.lt_trichotomy a 0 with ha | ha | ha <;> rcases Int.lt_trichotomy b 0 with hb | hb | hb
    all_goals
      first
        | (have e0 : eiE (a, b) = 0 := by rw [hE]; exact if_neg (by omega)
           rw [show eiF (a, b) = ei (a, b) from if_pos e0, e0])
        | (have e0 : eiE (a, b) = 1 := by rw [hE]; exact if_pos (by omega)
           rw [show eiF (a, b) = 0 from if_neg (by rw [e0]; decide), e0])
    · have a1 : ¬ a = 0 := by omega
      have b1 : ¬ b = 0 := by omega
      have b2 : ¬ 0 < b := by omega
      rw [show ei (a, b) = 5 from by unfold ei; simp only [a1, b1, b2, ha, if_true, if_false]]
      refine mkQ fol J0s Try.func22 a22 ?_
      unfold a22
      simp only [init_eq, initE, qm, qr, qn]
      exact wdQ (ai @ha (ai @b2 (ai @b1 (ai @a1 @bz_G6))))
    · subst hb
      have a1 : ¬ a = 0 := by omega
      have a2 : ¬ 0 < a := by omega
      rw [show ei (a, 0) = 4 from by unfold ei; simp only [a2, if_true, if_false]]
      refine mkQ fol J0s Try.func22 a22 ?_
      unfold a22
      simp only [init_eq, initE, qm, qr, qn]
      exact wdQ (ai @a2 (ai @a1 @bz_G6))
    · have a1 : ¬ a = 0 := by omega
      have a2 : ¬ 0 < a := by omega
      have b1 : ¬ b = 0 := by omega
      rw [show ei (a, b) = 3 from by unfold ei; simp only [a1, a2, b1, hb, if_true, if_false]]
      refine mkQ fol J0s Try.func22 a22 ?_
      unfold a22
      simp only [init_eq, initE, qm, qr, qn]
      exact wdQ (ai @hb (ai @b1 (ai @a2 (ai @a1 @bz_G6))))
    · subst ha
      have b1 : ¬ b = 0 := by omega
      have b2 : ¬ 0 < b := by omega
      rw [show ei (0, b) = 6 from by unfold ei; simp only [b1, b2, if_true, if_false]]
      refine mkQ fol J0s Try.func22 a22 ?_
      unfold a22
      simp only [init_eq, initE, qm, qr, qn]
      exact wdQ (ai @b2 (ai @b1 @bz_G6))
    · subst ha
      subst hb
      refine mkQ fol J0s Try.func22 a22 ?_
      unfold a22
      simp only [init_eq, initE, qm, qr, qn]
      exact wdQ @bz_G6
    · subst ha
      have b1 : ¬ b = 0 := by omega
      rw [show ei (0, b) = 2 from by unfold ei; simp only [b1, hb, if_true, if_false]]
      refine mkQ fol J0s Try.func22 a22 ?_
      unfold a22
      simp only [init_eq, initE, qm, qr, qn]
      exact wdQ (ai @hb (ai @b1 @bz_G6))
    · have a1 : ¬ a = 0 := by omega
      have a2 : ¬ a < 0 := by omega
      have b1 : ¬ b = 0 := by omega
      have b2 : ¬ 0 < b := by omega
      rw [show ei (a, b) = 7 from by unfold ei; simp only [a1, a2, b1, b2, if_true, if_false]]
      refine mkQ fol J0s Try.func22 a22 ?_
      unfold a22
      simp only [init_eq, initE, qm, qr, qn]
      exact wdQ (ai @b2 (ai @b1 (ai @a2 (ai @a1 @bz_G6))))
    · subst hb
      have a1 : ¬ a = 0 := by omega
      rw [show ei (a, 0) = 0 from by unfold ei; simp only [ha, if_true, if_false]]
      refine mkQ fol J0s Try.func22 a22 ?_
      unfold a22
      simp only [init_eq, initE, qm, qr, qn]
      exact wdQ (ai @ha (ai @a1 @bz_G6))
    · have a1 : ¬ a = 0 := by omega
      have b1 : ¬ b = 0 := by omega
      rw [show ei (a, b) = 1 from by unfold ei; simp only [a1, ha, b1, hb, if_true, if_false]]
      refine mkQ fol J0s Try.func22 a22 ?_
      unfold a22
      simp only [init_eq, initE, qm, qr, qn]
      exact wdQ (ai @hb (ai @b1 (ai @ha (ai @a1 @bz_G6))))
  · have p1 := gsize_bad h1
    have e0 : eiE (a, b) = 13 := if_neg h1
    rw [show eiF (a, b) = 0 from if_neg (by rw [e0]; decide), e0]
    simp only [nV] at *
    refine mkQ fol J0s Try.func22 a22 ?_
    unfold a22
    simp only [init_eq, initE, qm, qr, qn]
    exact wdQ @bz_G6
end Go.Proofs.Yteaiegppmbcibaa
