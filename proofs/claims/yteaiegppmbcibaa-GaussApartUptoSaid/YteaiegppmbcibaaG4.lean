/-
  zpoly.Norm; gauss: values.
-/
import Derived.Test.YteaiegppmbcibaaG3
import Derived.Test.YteaiegppmbcibaaZ6
namespace Go.Proofs.Yteaiegppmbcibaa
open Go Go.RowKit Ab
set_option linter.unusedSimpArgs false
set_option linter.unusedVariables false
set_option maxHeartbeats 10000000
theorem bz_G4 : type_of% (And.intro @W_len (And.intro @D_len (And.intro @Nat.div_one (And.intro @Nat.mul_one (And.intro @tn_nat (And.intro @W_nf (And.intro @D_nf (And.intro @W_nil (And.intro @D_nil (And.intro @wi (And.intro @nf_g (And.intro @Bool.false_and (And.intro @W_cell (And.intro @ZC_cell (@ZC_nil))))))))))))))) := And.intro @W_len (And.intro @D_len (And.intro @Nat.div_one (And.intro @Nat.mul_one (And.intro @tn_nat (And.intro @W_nf (And.intro @D_nf (And.intro @W_nil (And.intro @D_nil (And.intro @wi (And.intro @nf_g (And.intro @Bool.false_and (And.intro @W_cell (And.intro @ZC_cell (@ZC_nil))))))))))))))
def ZOk (l : List (Bool × List Nat)) (m : Nat) : Prop := l.length ≤ m ∧ ∀ p, p ∈ l → Wd p.2 ∧ p.2.length ≤ m
def zcs (l : List (Bool × List Nat)) : List Int := l.map zvp
theorem zcs_len (l : List (Bool × List Nat)) : (zcs l).length = l.length := by simp [zcs]
theorem zcs_get (l : List (Bool × List Nat)) (i : Nat) (h : i < l.length) : (zcs l).getD i 0 = zvp (l.getD i (false, [])) := by
  simp [zcs, List.getD_eq_getElem?_getD, h]
theorem getD_mem {l : List (Bool × List Nat)} {i : Nat} (h : i < l.length) : l.getD i (false, []) ∈ l := by
  rw [List.getD_eq_getElem?_getD, List.getElem?_eq_getElem h]; exact List.getElem_mem h
theorem sgz_z (z : Int) : (sgz z = 0) = (z = 0) := by unfold sgz; split; (exact propext ⟨fun h => absurd h (by decide), fun h => by omega⟩); split; (exact propext ⟨fun h => absurd h (by decide), fun h => by omega⟩); exact propext ⟨fun _ => by omega, fun _ => rfl⟩
def a52 : AC := .seq (.reg [qr 2 (.mv (.k (.i .i64 0)))])
 (.seq (.reg [qm 4 0,
 qr 5 (.len (.t 4)),
 qm 3 5])
 (.seq (.blk 0
 (.loop
 (.seq (.seq (.reg [qm 6 3,
 qr 7 (.bin .gtr (.t 6) (.k (.i .i64 0))),
 qm 8 7,
 ⟨some 9, some (8, true), .mv (.t 0)⟩,
 ⟨some 10, some (8, true), .mv (.t 3)⟩,
 ⟨some 11, some (8, true), .bin .sub (.t 10) (.k (.i .i64 1))⟩,
 ⟨some 12, some (8, true), .idx 2 (.t 9) (.t 11)⟩,
 ⟨some 13, some (8, true), .ld true 2 (.t 12)⟩,
 ⟨some 14, some (8, true), .call 64 [(1, (.t 13))]⟩,
 ⟨some 15, some (8, true), .bin .eql (.t 14) (.k (.i .i64 0))⟩,
 qr 16 (.pick (.t 8) (.t 15) (.k (.b false)))])
 (.cond (.t 16)
 (.skip)
 (.exit 0)))
 (.blk 1
 (.reg [qm 17 3,
 qr 18 (.bin .sub (.t 17) (.k (.i .i64 1))),
 qm 3 18])))))
 (.seq (.reg [qm 19 3,
 qm 2 19])
 (.ret))))
theorem zsize_spec (l : List (Bool × List Nat)) (m : Nat) (hm : m ≤ 1000000000) (hl : ZOk l m) : AFun Try.prog J0 52 [.l 2 (ZC l)] (.i .i64 (((tzi (zcs l)).length : Nat) : Int)) := by
  have hlen : (ZC l).length / 2 = l.length := by rw [ZC_len]; omega
  have hz := ZC_len l
  obtain ⟨ll, hp⟩ := hl
  have hcl := zcs_len l
  obtain ⟨r, hr0⟩ : ∃ r, r = (tzi (zcs l)).length := ⟨_, rfl⟩
  rw [← hr0]
  refine mkQ fol J0s Try.func52 a52 ?_
  unfold a52
  simp only [init_eq, initE, qm, qr, qn]
  refine spQ (ai @hlen @bz_G4) ?_
  refine vm_loopA [] Nat (fun n => ⟨[(0, .l 2 (ZC l)), (3, .i .i64 (n : Int))], [], 0⟩) (fun n => n ≤ l.length ∧ tzi (zcs l) = tzi ((zcs l).take n)) (fun n => n) l.length ⟨by omega, by rw [← hcl, List.take_length]⟩ (by exact leQ) (by
    exact ltQ) ?_
  intro n ⟨hn, ht⟩ Q' hQ he hr
  by_cases h0 : 0 < (n : Int)
  · obtain ⟨k, rfl⟩ : ∃ k, n = k + 1 := ⟨n - 1, by omega⟩
    have hk : k < l.length := by omega
    obtain ⟨r1, r2⟩ := ZC_row l k hk
    obtain ⟨wa, la⟩ := hp _ (getD_mem hk)
    have hs := zsign_spec (l.getD k (false, [])).1 (l.getD k (false, [])).2 wa (by omega)
    have hg := zcs_get l k hk
    have hsz := sgz_z (zvp (l.getD k (false, [])))
    rw [← hg] at hsz
    rw [show zv (l.getD k (false, [])).1 (l.getD k (false, [])).2 = zvp (l.getD k (false, [])) from rfl, ← hg] at hs
    generalize l.getD k (false, []) = p at *
    by_cases h1 : (zcs l).getD k 0 = 0
    · have hx : (sgz ((zcs l).getD k 0) = 0) := hsz.mpr h1
      refine wkQ (ai @hx (ai @r1 (ai @hz (ai @Nat.add_sub_cancel (ai @tn_sub1 (ai @h0 @bz_G4)))))) ?_
      refine hQ _ k ⟨by omega, ?_⟩ (by omega) ?_
      · rw [ht]; exact tzi_zero _ k (by omega) h1
      · simp (disch := (first | omega | assumption)) only [Sl, Sa, Sw, ↓reduceIte, Nat.reduceEqDiff, Nat.reduceLT, List.all_nil, List.all_cons, Nat.reduceBneDiff, Nat.reduceAdd, bne_iff_ne, ne_eq, reduceCtorEq, not_false_eq_true, not_true_eq_false, Bool.and_true, Bool.true_and, and_true, true_and, and_self, i_eq]
        try omega
    · have hx : ¬ (sgz ((zcs l).getD k 0) = 0) := fun h => h1 (hsz.mp h)
      have e : r = k + 1 := by
        rw [hr0, ht, tzi_top _ k (by omega) h1, List.length_take, Nat.min_eq_left (by omega)]
      refine wkQ (ai @hx (ai @r1 (ai @hz (ai @Nat.add_sub_cancel (ai @tn_sub1 (ai @h0 @bz_G4)))))) ?_
      refine he _ _ ?_
      refine spQ @bz_G4 ?_
      exact rtQ (ai @e @bz_G4)
  · obtain rfl : n = 0 := by omega
    have e : r = 0 := by rw [hr0, ht]; rfl
    refine spQ (ai @h0 @bz_G4) ?_
    refine he _ _ ?_
    refine spQ @bz_G4 ?_
    exact rtQ (ai @e @bz_G4)
theorem zcs_take_nfp (l : List (Bool × List Nat)) (i : Nat) (h : i < l.length) : ((zcs l).take (i + 1)).map nfp = ((zcs l).take i).map nfp ++ [nfp (zvp (l.getD i (false, [])))] := by
  have h' : i < (zcs l).length := by rw [zcs_len]; exact h
  rw [List.take_succ_eq_append_getElem h', List.map_append]
  congr 1
  have := zcs_get l i h
  rw [List.getD_eq_getElem?_getD, List.getElem?_eq_getElem h'] at this
  rw [← this]; rfl
def nfl (cs : List Int) : List (Bool × List Nat) := cs.map nfp
theorem zcs_nfl (cs : List Int) : zcs (nfl cs) = cs := by
  unfold zcs nfl
  rw [List.map_map]
  have : zvp ∘ nfp = id := funext zvp_nfp
  rw [this, List.map_id]
def a34 : AC := .seq (.reg [qr 2 (.mv (.k .nl))])
 (.seq (.reg [qr 3 (.mv (.k .nl))])
 (.seq (.seq (.reg [qm 5 0,
 qr 6 (.call 52 [(2, (.t 5))]),
 qr 7 (.mv (.k (.i .i64 0)))])
 (.blk 0
 (.loop
 (.seq (.reg [qr 8 (.bin .lss (.t 7) (.t 6))])
 (.seq (.cond (.t 8)
 (.skip)
 (.exit 0))
 (.seq (.blk 1
 (.seq (.reg [qm 9 7,
 qm 4 9])
 (.reg [qm 10 3,
 qm 11 0,
 qm 12 4,
 qr 13 (.idx 2 (.t 11) (.t 12)),
 qr 14 (.ld true 2 (.t 13)),
 qr 15 (.call 53 [(1, (.t 14))]),
 qr 16 (.bsl 58 2 1 [(.b false), (.l 1 [])] [(0, (.t 15))]),
 qr 17 (.app 58 2 32 (.t 10) (.t 16)),
 qm 3 17])))
 (.reg [qr 18 (.bin .add (.t 7) (.k (.i .i64 1))),
 qm 7 18])))))))
 (.seq (.reg [qm 19 3,
 qm 2 19])
 (.ret))))
theorem zpnorm_spec (l : List (Bool × List Nat)) (m : Nat) (hm : m ≤ 100000000) (hl : ZOk l m) : AFun Try.prog J0 34 [.l 2 (ZC l)] (.o 58 2 (ZC (nfl (tzi (zcs l))))) := by
  have hsz := zsize_spec l m (by omega) hl
  have hz := ZC_len l
  obtain ⟨ll, hp⟩ := hl
  have htl := tzi_len (zcs l)
  rw [zcs_len] at htl
  have htk := tzi_take (zcs l)
  obtain ⟨n, hn⟩ : ∃ n, n = (tzi (zcs l)).length := ⟨_, rfl⟩
  rw [← hn] at hsz htl htk
  rw [← htk]
  unfold nfl
  refine mkQ fol J0s Try.func34 a34 ?_
  unfold a34
  simp only [init_eq, initE, qm, qr, qn]
  refine wkQ @bz_G4 ?_
  refine vm_loopA [(3, 58, 2)] Nat (fun i => ⟨[(0, .l 2 (ZC l)), (3, .ow 2 0 i), (6, .i .i64 (n : Int)), (7, .i .i64 (i : Int))], [(0, some ⟨58, 2, ZC (((zcs l).take i).map nfp), true, false⟩)], 1⟩)
    (fun i => i ≤ n) (fun i => n - i) 0 (Nat.zero_le _) (by exact leQ) (by
    exact ltQ) ?_
  intro i hi Q' hQ he hr
  by_cases h : (i : Int) < (n : Int)
  · have hk : i < l.length := by omega
    obtain ⟨r1, r2⟩ := ZC_row l i hk
    obtain ⟨wa, la⟩ := hp _ (getD_mem hk)
    have hs := znorm_spec (l.getD i (false, [])).1 (l.getD i (false, [])).2 wa (by omega)
    have hap := ZC_app1 (((zcs l).take i).map nfp) (zvp (l.getD i (false, [])))
    rw [← zcs_take_nfp l i hk] at hap
    have hlz := ZC_len (((zcs l).take (i + 1)).map nfp)
    rw [List.length_map, List.length_take, zcs_len] at hlz
    have hlz0 := ZC_len (((zcs l).take i).map nfp)
    rw [List.length_map, List.length_take, zcs_len] at hlz0
    rw [show zv (l.getD i (false, [])).1 (l.getD i (false, [])).2 = zvp (l.getD i (false, [])) from rfl] at hs
    generalize l.getD i (false, []) = p at *
    refine wkQ (ai @hap (ai @r1 (ai @hz (ai @h @bz_G4)))) ?_
    refine hQ _ (i + 1) (by omega) (by omega) ?_
    exact ltQ
  · obtain rfl : i = n := by omega
    refine spQ (ai @h @bz_G4) ?_
    refine he _ _ ?_
    refine spQ @bz_G4 ?_
    exact rtQ @bz_G4
end Go.Proofs.Yteaiegppmbcibaa
