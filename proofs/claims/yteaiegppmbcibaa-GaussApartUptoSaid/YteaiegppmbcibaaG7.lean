/-
  gauss: turns, squares, around.
-/
import Derived.Test.YteaiegppmbcibaaG6
namespace Go.Proofs.Yteaiegppmbcibaa
open Go Go.RowKit Ab
set_option linter.unusedSimpArgs false
set_option linter.unusedVariables false
set_option maxHeartbeats 10000000
theorem bz_G7 : type_of% (And.intro @W_len (And.intro @D_len (And.intro @Nat.div_one (And.intro @Nat.mul_one (And.intro @tn_nat (And.intro @W_nf (And.intro @D_nf (And.intro @W_nil (And.intro @D_nil (And.intro @wi (And.intro @nf_g (And.intro @Bool.false_and (And.intro @W_cell (And.intro @ZC_cell (@ZC_nil))))))))))))))) := And.intro @W_len (And.intro @D_len (And.intro @Nat.div_one (And.intro @Nat.mul_one (And.intro @tn_nat (And.intro @W_nf (And.intro @D_nf (And.intro @W_nil (And.intro @D_nil (And.intro @wi (And.intro @nf_g (And.intro @Bool.false_and (And.intro @W_cell (And.intro @ZC_cell (@ZC_nil))))))))))))))
theorem getD_map_ei (zs : List GZ) (i : Nat) (h : i < zs.length) : (zs.map ei).getD i 0 = ei (zs.getD i (0, 0)) := by
  simp [List.getD_eq_getElem?_getD, h]
theorem dd_cases (x y : Int) (hx : 0 ≤ x ∧ x ≤ 7) (hy : 0 ≤ y ∧ y ≤ 7) : (y - x + 8).tmod 8 = (y - x + 8) % 8 ∧
    ((y - x + 8) % 8 = 4 ∧ dd x y = 4 ∨ ¬ (y - x + 8) % 8 = 4 ∧ 4 < (y - x + 8) % 8 ∧ dd x y = (y - x + 8) % 8 - 8 ∧ dd x y ≠ 4 ∨ ¬ (y - x + 8) % 8 = 4 ∧ ¬ 4 < (y - x + 8) % 8 ∧ dd x y = (y - x + 8) % 8 ∧ dd x y ≠ 4) := by
  refine ⟨Int.tmod_eq_emod_of_nonneg (by omega), ?_⟩
  unfold dd
  split <;> omega
def a10 : AC := .seq (.reg [qr 2 (.mv (.k (.i .i64 0))),
 qr 3 (.mv (.k (.i .i64 0)))])
 (.seq (.reg [qr 4 (.mv (.k .nl))])
 (.seq (.seq (.reg [qm 13 0,
 qr 14 (.len (.t 13)),
 qr 15 (.mv (.k (.i .i64 0)))])
 (.blk 0
 (.loop
 (.seq (.reg [qr 16 (.bin .lss (.t 15) (.t 14))])
 (.seq (.cond (.t 16)
 (.skip)
 (.exit 0))
 (.seq (.blk 1
 (.seq (.reg [qr 17 (.idx 2 (.t 13) (.t 15)),
 qr 18 (.ld true 2 (.t 17)),
 qr 6 (.al 38 [(.i .i64 0), (.i .i64 0)]),
 qn (.st 2 (.t 6) (.t 18))])
 (.seq (.reg [qr 20 (.ld true 2 (.t 6)),
 qr 21 (.call 22 [(1, (.t 20))]),
 qm 19 21,
 qr 22 (.ext (.t 19) 0),
 qr 23 (.ext (.t 19) 1),
 qm 7 22,
 qm 8 23])
 (.seq (.seq (.reg [qm 24 8,
 qr 25 (.bin .neq (.t 24) (.k (.i .i64 0)))])
 (.cond (.t 25)
 (.seq (.reg [qm 26 8,
 qr 2 (.mv (.k (.i .i64 0))),
 qm 3 26])
 (.ret))
 (.skip)))
 (.reg [qm 27 4,
 qm 28 7,
 qr 29 (.bsl 3 1 1 [(.i .i64 0)] [(0, (.t 28))]),
 qr 30 (.app 3 1 8 (.t 27) (.t 29)),
 qm 4 30])))))
 (.reg [qr 31 (.bin .add (.t 15) (.k (.i .i64 1))),
 qm 15 31])))))))
 (.seq (.reg [qr 9 (.mv (.k (.i .i64 0)))])
 (.seq (.seq (.reg [qm 32 4,
 qr 33 (.len (.t 32)),
 qr 34 (.mv (.k (.i .i64 0)))])
 (.blk 2
 (.loop
 (.seq (.reg [qr 35 (.bin .lss (.t 34) (.t 33))])
 (.seq (.cond (.t 35)
 (.skip)
 (.exit 2))
 (.seq (.blk 3
 (.seq (.reg [qm 36 34,
 qr 37 (.idx 1 (.t 32) (.t 34)),
 qr 38 (.ld false 1 (.t 37)),
 qm 10 36,
 qm 11 38])
 (.seq (.reg [qm 39 4,
 qm 40 10,
 qr 41 (.bin .add (.t 40) (.k (.i .i64 1))),
 qm 42 4,
 qr 43 (.len (.t 42)),
 qr 44 (.bin .rem (.t 41) (.t 43)),
 qr 45 (.idx 1 (.t 39) (.t 44)),
 qr 46 (.ld false 1 (.t 45)),
 qm 47 11,
 qr 48 (.bin .sub (.t 46) (.t 47)),
 qr 49 (.bin .add (.t 48) (.k (.i .i64 8))),
 qr 50 (.bin .rem (.t 49) (.k (.i .i64 8))),
 qm 12 50])
 (.seq (.seq (.reg [qm 51 12,
 qr 52 (.bin .eql (.t 51) (.k (.i .i64 4)))])
 (.cond (.t 52)
 (.seq (.reg [qr 2 (.mv (.k (.i .i64 0))),
 qr 3 (.mv (.k (.i .i64 3)))])
 (.ret))
 (.skip)))
 (.seq (.seq (.reg [qm 53 12,
 qr 54 (.bin .gtr (.t 53) (.k (.i .i64 4)))])
 (.cond (.t 54)
 (.reg [qm 55 12,
 qr 56 (.bin .sub (.t 55) (.k (.i .i64 8))),
 qm 12 56])
 (.skip)))
 (.reg [qm 57 9,
 qm 58 12,
 qr 59 (.bin .add (.t 57) (.t 58)),
 qm 9 59]))))))
 (.reg [qr 60 (.bin .add (.t 34) (.k (.i .i64 1))),
 qm 34 60])))))))
 (.seq (.reg [qm 61 9,
 qr 62 (.bin .quo (.t 61) (.k (.i .i64 8))),
 qm 2 62,
 qr 3 (.mv (.k (.i .i64 0)))])
 (.ret))))))
theorem gturnsS (zs : List GZ) (lz : zs.length ≤ 100000000) : AFun Try.prog J0 10 [.l 2 (NC zs)] (.t [.i .i64 (tuF zs), .i .i64 (tuE zs)]) := by
  obtain ⟨R, hR⟩ : ∃ R, R = tuF zs := ⟨_, rfl⟩
  obtain ⟨e, he0⟩ : ∃ e, e = tuE zs := ⟨_, rfl⟩
  rw [← hR, ← he0]
  have hnl : (NC zs).length / 2 = zs.length := by rw [NC_len]; omega
  have hnz := NC_len zs
  obtain ⟨n, hn⟩ : ∃ n, n = zs.length := ⟨_, rfl⟩
  rw [← hn] at hnl hnz
  refine mkQ fol J0s Try.func10 a10 ?_
  unfold a10
  simp only [init_eq, initE, qm, qr, qn]
  refine spQ (ai @hnl @bz_G7) ?_
  refine vm_loopA [(4, 3, 1)] Nat (fun i => ⟨[(4, .ow 1 0 i), (13, .l 2 (NC zs)), (14, .i .i64 (n : Int)), (15, .i .i64 (i : Int))],
      [(0, some ⟨3, 1, I64 ((zs.take i).map ei), true, false⟩)], 1⟩)
    (fun i => i ≤ n ∧ ∀ j, j < i → eiE (zs.getD j (0, 0)) = 0) (fun i => n - i) 0 ⟨Nat.zero_le _, fun j h => by omega⟩ (by exact leQ) (by
    exact ltQ) ?_
  rintro i ⟨hi, hj⟩ Q' hQ he hr
  by_cases h : (i : Int) < (n : Int)
  · have hiz : i < zs.length := by omega
    have row := NC_row zs i hiz
    have hvi := geiS (zs.getD i (0, 0))
    have hsn := GZ_snoc zs i hiz
    have hjn : eiE (zs.getD i (0, 0)) = 0 → ∀ j, j < i + 1 → eiE (zs.getD j (0, 0)) = 0 := fun h0 j h1 => by
      rcases Nat.lt_or_ge j i with h2 | h2
      · exact hj j h2
      · obtain rfl : j = i := by omega
        exact h0
    have hfe := esE_first zs i hj hiz
    generalize zs.getD i (0, 0) = z at *
    simp only [nV] at hvi
    by_cases hok : eiE z = 0
    · rw [show eiF z = ei z from if_pos hok, hok] at hvi
      have hap := I64_app1 ((zs.take i).map ei) (ei z)
      have hap2 : (zs.take i).map ei ++ [ei z] = (zs.take (i + 1)).map ei := by rw [hsn, List.map_append]; rfl
      rw [hap2] at hap
      have l0 := I64_len ((zs.take i).map ei)
      have l1 := I64_len ((zs.take (i + 1)).map ei)
      rw [List.length_map, List.length_take] at l0 l1
      refine wkQ (ai @hap (ai @row (ai @hnz (ai @h @bz_G7)))) ?_
      refine hQ _ (i + 1) ⟨by omega, hjn hok⟩ (by omega) ?_
      exact ltQ
    · have hes := hfe hok
      obtain rfl : e = eiE z := by rw [he0]; unfold tuE; rw [hes, if_neg hok]
      obtain rfl : R = 0 := by rw [hR]; unfold tuF; rw [← he0, if_neg hok]
      refine wkQ (ai @hok (ai @row (ai @hnz (ai @h @bz_G7)))) ?_
      refine hr _ ?_
      exact rtQ @bz_G7
  · obtain rfl : i = n := by omega
    have hall := esE_all zs fun j h => hj j (by omega)
    rw [show zs.take i = zs from by rw [hn, List.take_length]]
    have el : (zs.map ei).length = i := by rw [List.length_map, hn]
    have eb : ∀ j, 0 ≤ (zs.map ei).getD j 0 ∧ (zs.map ei).getD j 0 ≤ 7 := fun j => by
      rcases Nat.lt_or_ge j zs.length with h1 | h1
      · rw [getD_map_ei zs j h1]; exact ei_bnd _
      · rw [List.getD_eq_getElem?_getD, List.getElem?_eq_none (by rw [List.length_map]; exact h1)]; decide
    have te : e = if 4 ∈ stps (zs.map ei) i then 3 else 0 := by rw [he0]; unfold tuE; rw [hall, if_pos rfl, ← hn]
    have tr : e = 0 → R = (isum (stps (zs.map ei) i)).tdiv 8 := fun h => by rw [hR]; unfold tuF; rw [← he0, h, if_pos rfl, ← hn]
    have tr3 : e = 3 → R = 0 := fun h => by rw [hR]; unfold tuF; rw [← he0, h]; rfl
    generalize zs.map ei = es at *
    have lI := I64_len es
    rw [el] at lI
    refine spQ (ai @h @bz_G7) ?_
    refine he _ _ ?_
    refine spQ @bz_G7 ?_
    refine vm_loopA [] Nat (fun k => ⟨[(4, .ow 1 0 i), (9, .i .i64 (isum (stps es k))), (32, .ow 1 0 i), (33, .i .i64 (i : Int)), (34, .i .i64 (k : Int))],
        [(0, some ⟨3, 1, I64 es, true, false⟩)], 1⟩)
      (fun k => k ≤ i ∧ ∀ j, j < k → stp8 es j ≠ 4) (fun k => i - k) 0 ⟨Nat.zero_le _, fun j h => by omega⟩ (by exact leQ) (by
      exact ltQ) ?_
    rintro k ⟨hk, hjk⟩ Q2 hQ2 he2 hr2
    by_cases hki : (k : Int) < (i : Int)
    · have hmod : ((k : Int) + 1).tmod (i : Int) = (((k + 1) % i : Nat) : Int) := by
        rw [show (k : Int) + 1 = ((k + 1 : Nat) : Int) from rfl]; rfl
      have hmlt : (k + 1) % i < i := Nat.mod_lt _ (by omega)
      have g1 := I64_get es k (by omega)
      have g2 := I64_get es ((k + 1) % i) (by omega)
      have b1 := eb k
      have b2 := eb ((k + 1) % i)
      have hst : stp8 es k = dd (es.getD k 0) (es.getD ((k + 1) % i) 0) := by unfold stp8; rw [el]
      have hss := isum_stps_succ es k
      have hsb := isum_stps_bnd es k
      have hdb := dd_bnd (es.getD k 0) (es.getD ((k + 1) % i) 0)
      have hmem : stp8 es k = 4 → e = 3 := fun h => by
        rw [te]
        exact if_pos (List.mem_map.2 ⟨k, List.mem_range.2 (by omega), h⟩)
      have hjk2 : stp8 es k ≠ 4 → ∀ j, j < k + 1 → stp8 es j ≠ 4 := fun h0 j h1 => by
        rcases Nat.lt_or_ge j k with h2 | h2
        · exact hjk j h2
        · obtain rfl : j = k := by omega
          exact h0
      obtain ⟨hd0, hcs⟩ := dd_cases (es.getD k 0) (es.getD ((k + 1) % i) 0) b1 b2
      have i0 : ¬ (i : Int) = 0 := by omega
      have mnn : (0 : Int) ≤ (((k + 1) % i : Nat) : Int) := by omega
      generalize es.getD k 0 = x at *
      generalize es.getD ((k + 1) % i) 0 = y at *
      generalize (k + 1) % i = k' at *
      rcases hcs with ⟨c1, c2⟩ | ⟨c1, c2, c3, c4⟩ | ⟨c1, c2, c3, c4⟩
      · obtain rfl : e = 3 := hmem (by rw [hst, c2])
        obtain rfl : R = 0 := tr3 rfl
        refine spQ (ai @c1 (ai @hd0 (ai @i0 (ai @lI (ai @hmod (ai @g2 (ai @g1 (ai @hki @bz_G7)))))))) ?_
        refine hr2 _ ?_
        exact rtQ @bz_G7
      · rw [hst] at hss hjk2
        rw [c3] at hss
        have ws : IntKind.i64.wrap (isum (stps es k) + ((y - x + 8) % 8 - 8)) = isum (stps es (k + 1)) := by rw [hss]; exact wi (by omega)
        refine spQ (ai @ws (ai @c2 (ai @c1 (ai @hd0 (ai @i0 (ai @lI (ai @hmod (ai @g2 (ai @g1 (ai @hki @bz_G7)))))))))) ?_
        refine hQ2 _ (k + 1) ⟨by omega, hjk2 c4⟩ (by omega) ?_
        exact ltQ
      · rw [hst] at hss hjk2
        rw [c3] at hss
        have ws : IntKind.i64.wrap (isum (stps es k) + (y - x + 8) % 8) = isum (stps es (k + 1)) := by rw [hss]; exact wi (by omega)
        refine spQ (ai @ws (ai @c2 (ai @c1 (ai @hd0 (ai @i0 (ai @lI (ai @hmod (ai @g2 (ai @g1 (ai @hki @bz_G7)))))))))) ?_
        refine hQ2 _ (k + 1) ⟨by omega, hjk2 c4⟩ (by omega) ?_
        exact ltQ
    · obtain rfl : k = i := by omega
      have hn4 : ¬ 4 ∈ stps es k := fun h => by
        obtain ⟨j, hj1, hj2⟩ := List.mem_map.1 h
        exact hjk j (List.mem_range.1 hj1) hj2
      obtain rfl : e = 0 := by rw [te]; exact if_neg hn4
      have hRR := tr rfl
      have hsb := isum_stps_bnd es k
      have htd : IntKind.i64.wrap ((isum (stps es k)).tdiv 8) = R := by
        rw [hRR]; refine wi ?_
        have h1 := Int.natAbs_tdiv (isum (stps es k)) 8
        generalize isum (stps es k) = s at *
        have h2 : s.natAbs / (8 : Int).natAbs ≤ s.natAbs := Nat.div_le_self _ _
        have h3 : (s.tdiv 8).natAbs ≤ s.natAbs := by rw [h1]; exact h2
        omega
      refine spQ (ai @hki @bz_G7) ?_
      refine he2 _ _ ?_
      refine spQ (ai @htd @bz_G7) ?_
      exact rtQ @bz_G7
end Go.Proofs.Yteaiegppmbcibaa
