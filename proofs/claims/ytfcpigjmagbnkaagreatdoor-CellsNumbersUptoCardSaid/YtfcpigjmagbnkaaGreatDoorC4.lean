/-
  Cells, by the document.
-/
import Derived.Test.YtfcpigjmagbnkaaGreatDoorC3
import Derived.Test.YtfcpigjmagbnkaaGreatDoorQE
namespace Go.Proofs.YtfcpigjmagbnkaaGreatDoor
open Go Go.RowKit Ab
set_option linter.unusedSimpArgs false
set_option linter.unusedVariables false
set_option maxHeartbeats 10000000
theorem bz_C4 : type_of% (And.intro @W_len (And.intro @D_len (And.intro @Nat.div_one (And.intro @Nat.mul_one (And.intro @tn_nat (And.intro @W_nf (And.intro @D_nf (And.intro @W_nil (And.intro @D_nil (And.intro @wi (And.intro @nf_g (And.intro @Bool.false_and (@W_cell))))))))))))) := And.intro @W_len (And.intro @D_len (And.intro @Nat.div_one (And.intro @Nat.mul_one (And.intro @tn_nat (And.intro @W_nf (And.intro @D_nf (And.intro @W_nil (And.intro @D_nil (And.intro @wi (And.intro @nf_g (And.intro @Bool.false_and (@W_cell))))))))))))
theorem rOrderR {v w : V} {p q : Rat} {m : Nat} (hv : Rr v p m) (hw : Rr w q m) (hm : m ≤ 3000000) : AFun Tryz.prog J0 107 [v, w] (.i .i64 (cq p q)) := by
  obtain ⟨s, a, d, rfl, ha, hd, la, ld, h0, rfl⟩ := hv
  obtain ⟨t, b, e, rfl, hb, he, lb, le, k0, rfl⟩ := hw
  have h := rOrder_spec s t a b d e m (by omega) ha hb hd he la lb ld le h0 k0
  rw [cz_q h0 k0] at h
  exact h
theorem rPlusR {v w : V} {p q : Rat} {m : Nat} (hv : Rr v p m) (hw : Rr w q m) (hm : m ≤ 3000000) : AFun Tryz.prog J0 64 [v, w] (rN (p + q).num (p + q).den) ∧ Rr (rN (p + q).num (p + q).den) (p + q) (m + m + 1) := by
  obtain ⟨s, a, d, rfl, ha, hd, la, ld, h0, rfl⟩ := hv
  obtain ⟨t, b, e, rfl, hb, he, lb, le, k0, rfl⟩ := hw
  have h := rPlus_spec s t a b d e m (by omega) ha hb hd he la lb ld le (Nat.mul_ne_zero h0 k0)
  obtain ⟨e1, e2, e3⟩ := rv_q (m := m + m + 1) (Nat.mul_ne_zero h0 k0) (Rat.mkRat_add_mkRat (zv s a) (zv t b) h0 k0).symm (Nat.lt_of_le_of_lt (Int.natAbs_add_le _ _) (padd (mul_lt (zv_lt ha la) (nvlt he le)) (mul_lt (zv_lt hb lb) (nvlt hd ld)))) (pup (mulN_lt (nvlt hd ld) (nvlt he le)) (by omega))
  rw [rv_p _ (Nat.mul_ne_zero h0 k0)] at e1
  rw [e1] at h
  exact ⟨h, e3⟩
theorem rTimesR {v w : V} {p q : Rat} {m : Nat} (hv : Rr v p m) (hw : Rr w q m) (hm : m ≤ 4000000) : AFun Tryz.prog J0 63 [v, w] (rN (p * q).num (p * q).den) ∧ Rr (rN (p * q).num (p * q).den) (p * q) (m + m) := by
  obtain ⟨s, a, d, rfl, ha, hd, la, ld, h0, rfl⟩ := hv
  obtain ⟨t, b, e, rfl, hb, he, lb, le, k0, rfl⟩ := hw
  have h := rTimes_spec s t a b d e m (by omega) ha hb hd he la lb ld le (Nat.mul_ne_zero h0 k0)
  obtain ⟨e1, e2, e3⟩ := rv_q (m := m + m) (Nat.mul_ne_zero h0 k0) (Rat.mkRat_mul_mkRat (zv s a) (zv t b) (nv B d) (nv B e)).symm (mul_lt (zv_lt ha la) (zv_lt hb lb)) (mulN_lt (nvlt hd ld) (nvlt he le))
  rw [rv_p _ (Nat.mul_ne_zero h0 k0)] at e1
  rw [e1] at h
  exact ⟨h, e3⟩
def a58 : AC := .seq (.reg [qr 2 (.mv (.k (.i .i64 0)))])
 (.seq (.blk 0
 (.seq (.reg [qm 4 0,
 qr 5 (.bin .lss (.t 4) (.k (.i .i64 0))),
 qm 3 5])
 (.cond (.t 3)
 (.seq (.reg [qr 2 (.mv (.k (.i .i64 3)))])
 (.ret))
 (.seq (.reg [qm 7 0,
 qr 8 (.bin .gtr (.t 7) (.k (.i .i64 1048576))),
 qm 6 8])
 (.cond (.t 6)
 (.seq (.reg [qr 2 (.mv (.k (.i .i64 13)))])
 (.ret))
 (.skip))))))
 (.seq (.reg [qr 2 (.mv (.k (.i .i64 0)))])
 (.ret)))
theorem rexp_spec (k : Int) : AFun Tryz.prog J0 58 [.i .i64 k] (.i .i64 (ckE k)) := by
  by_cases h1 : k < 0
  · rw [ckE_n h1]
    refine mkQ fol J0s Tryz.func58 a58 ?_
    unfold a58
    simp only [init_eq, initE, qm, qr, qn]
    exact pdQ (ai @h1 @bz_C4)
  · by_cases h2 : 1048576 < k
    · rw [ckE_b h2]
      refine mkQ fol J0s Tryz.func58 a58 ?_
      unfold a58
      simp only [init_eq, initE, qm, qr, qn]
      exact pdQ (ai @h2 (ai @h1 @bz_C4))
    · rw [ckE_0 (by omega) (by omega)]
      refine mkQ fol J0s Tryz.func58 a58 ?_
      unfold a58
      simp only [init_eq, initE, qm, qr, qn]
      exact pdQ (ai @h2 (ai @h1 @bz_C4))
def a22 : AC := .seq (.reg [qr 1 (.bx 37 (.t 0)),
 qr 2 (.mv (.k (.i .i64 0)))])
 (.seq (.reg [qr 3 (.fad 2 (.t 1)),
 qr 4 (.ld false 1 (.t 3)),
 qr 5 (.call 58 [(1, (.t 4))]),
 qm 2 5])
 (.ret))
theorem rccheck_spec (s : Bool) (a : List Nat) (k : Int) (p : Bool) : AFun Tryz.prog J0 22 [cL s a k p] (.i .i64 (ckE k)) := by
  have h := rexp_spec k
  generalize ckE k = e at *
  refine mkQ fol J0s Tryz.func22 a22 ?_
  unfold a22
  simp only [init_eq, initE, qm, qr, qn]
  exact wdQ @bz_C4
def fst2 (x y : Int) : Int := if x = 0 then y else x
def a65 : AC := .seq (.reg [qr 2 (.mv (.k (.i .i64 0)))])
 (.seq (.seq (.reg [qr 3 (.mv (.k (.i .i64 0)))])
 (.blk 0
 (.loop
 (.seq (.seq (.reg [qm 4 3,
 qm 5 0,
 qr 6 (.len (.t 5)),
 qr 7 (.bin .lss (.t 4) (.t 6))])
 (.cond (.t 7)
 (.skip)
 (.exit 0)))
 (.seq (.blk 1
 (.seq (.reg [qm 10 0,
 qm 11 3,
 qr 12 (.idx 1 (.t 10) (.t 11)),
 qr 13 (.ld false 1 (.t 12)),
 qr 14 (.bin .neq (.t 13) (.k (.i .i64 0)))])
 (.cond (.t 14)
 (.seq (.reg [qm 15 0,
 qm 16 3,
 qr 17 (.idx 1 (.t 15) (.t 16)),
 qr 18 (.ld false 1 (.t 17)),
 qm 2 18])
 (.ret))
 (.skip))))
 (.reg [qm 8 3,
 qr 9 (.bin .add (.t 8) (.k (.i .i64 1))),
 qm 3 9]))))))
 (.seq (.reg [qr 2 (.mv (.k (.i .i64 0)))])
 (.ret)))
theorem rfirst2_spec (x y : Int) : AFun Tryz.prog J0 65 [.l 1 [.i .i64 x, .i .i64 y]] (.i .i64 (fst2 x y)) := by
  obtain ⟨r, hr0⟩ : ∃ r, r = fst2 x y := ⟨_, rfl⟩
  rw [← hr0]
  unfold fst2 at hr0
  refine mkQ fol J0s Tryz.func65 a65 ?_
  unfold a65
  simp only [init_eq, initE, qm, qr, qn]
  refine spQ @bz_C4 ?_
  refine vm_loopA [] Nat (fun i => ⟨[(0, .l 1 [.i .i64 x, .i .i64 y]), (3, .i .i64 (i : Int))], [], 0⟩)
    (fun i => i ≤ 2 ∧ (0 < i → x = 0) ∧ (1 < i → y = 0)) (fun i => 2 - i) 0 ⟨Nat.zero_le _, fun h => by omega, fun h => by omega⟩ (by exact leQ) (by
    exact ltQ) ?_
  intro i ⟨hi, g1, g2⟩ Q' hQ he hr
  by_cases h : (i : Int) < 2
  · obtain ⟨w, hw⟩ : ∃ w, w = if i = 0 then x else y := ⟨_, rfl⟩
    have hg : ([.i .i64 x, .i .i64 y] : List V).getD i .un = .i .i64 w := by
      rcases (by omega : i = 0 ∨ i = 1) with rfl | rfl
      · rw [hw]; rfl
      · rw [hw]; rfl
    have hlt : i < 2 := by omega
    have hl : ([.i .i64 x, .i .i64 y] : List V).length = 2 := rfl
    by_cases h0 : w = 0
    · subst h0
      refine spQ (ai @hlt (ai @hl (ai @hg (ai @h @bz_C4)))) ?_
      refine hQ _ (i + 1) ⟨by omega, fun _ => ?_, fun h1 => ?_⟩ (by omega) ?_
      · by_cases e : i = 0
        · rw [if_pos e] at hw; exact hw.symm
        · exact g1 (by omega)
      · rw [if_neg (by omega)] at hw; exact hw.symm
      · simp (disch := (first | omega | assumption)) only [Sl, Sa, Sw, ↓reduceIte, Nat.reduceEqDiff, Nat.reduceLT, List.all_nil, List.all_cons, Nat.reduceBneDiff, Nat.reduceAdd, bne_iff_ne, ne_eq, reduceCtorEq, not_false_eq_true, not_true_eq_false, Bool.and_true, Bool.true_and, and_true, true_and, and_self, i_eq]
        repeat' first | rfl | omega | (simp only [List.length_append, List.length_cons, List.length_nil]; done) | apply And.intro
    · have e : r = w := by
        rw [hr0, hw]
        by_cases e : i = 0
        · rw [if_pos e, if_neg (by rw [if_pos e] at hw; rw [← hw]; exact h0)]
        · rw [if_neg e, if_pos (g1 (by omega))]
      refine spQ (ai @h0 (ai @hlt (ai @hl (ai @hg (ai @h @bz_C4))))) ?_
      refine hr _ ?_
      refine spQ @bz_C4 ?_
      exact rtQ (ai @e @bz_C4)
  · have e := g1 (by omega)
    have e2 := g2 (by omega)
    subst e e2
    rw [if_pos rfl] at hr0
    refine spQ (ai @h @bz_C4) ?_
    refine he _ _ ?_
    refine spQ @bz_C4 ?_
    exact rtQ (ai @hr0 @bz_C4)
def a66 : AC := .seq (.reg [qr 1 (.bx 27 (.t 0)),
 qr 2 (.mv (.k (.i .i64 0)))])
 (.seq (.seq (.reg [qr 3 (.ld true 3 (.t 1)),
 qr 4 (.call 9 [(1, (.t 3))]),
 qr 5 (.un .not (.t 4))])
 (.cond (.t 5)
 (.seq (.reg [qr 2 (.mv (.k (.i .i64 1)))])
 (.ret))
 (.skip)))
 (.seq (.reg [qr 2 (.mv (.k (.i .i64 0)))])
 (.ret)))
theorem rrat_spec (s : Bool) (a d : List Nat) (hd : Wd d) (ld : d.length ≤ 1000000000) : AFun Tryz.prog J0 66 [rL s a d] (.i .i64 (if nv B d = 0 then 1 else 0)) := by
  have h1 := rOk_spec s a d hd ld
  by_cases h0 : nv B d = 0
  · rw [decide_eq_true h0] at h1
    rw [if_pos h0]
    refine mkQ fol J0s Tryz.func66 a66 ?_
    unfold a66
    simp only [init_eq, initE, qm, qr, qn]
    exact wdQ @bz_C4
  · rw [decide_eq_false h0] at h1
    rw [if_neg h0]
    refine mkQ fol J0s Tryz.func66 a66 ?_
    unfold a66
    simp only [init_eq, initE, qm, qr, qn]
    exact wdQ @bz_C4
def a16 : AC := .seq (.reg [qr 2 (.bx 37 (.t 0)),
 qr 3 (.bx 37 (.t 1)),
 qr 4 (.mv (.k (.b false)))])
 (.seq (.reg [qr 5 (.fad 2 (.t 2)),
 qr 6 (.ld false 1 (.t 5)),
 qr 7 (.fad 2 (.t 3)),
 qr 8 (.ld false 1 (.t 7)),
 qr 9 (.bin .eql (.t 6) (.t 8)),
 qm 10 9,
 ⟨some 11, some (10, true), .fad 3 (.t 2)⟩,
 ⟨some 12, some (10, true), .ld false 1 (.t 11)⟩,
 ⟨some 13, some (10, true), .fad 3 (.t 3)⟩,
 ⟨some 14, some (10, true), .ld false 1 (.t 13)⟩,
 ⟨some 15, some (10, true), .eqb false (.t 12) (.t 14)⟩,
 qr 16 (.pick (.t 10) (.t 15) (.k (.b false))),
 qm 17 16,
 ⟨some 18, some (17, true), .fad 0 (.t 2)⟩,
 ⟨some 19, some (17, true), .ld true 2 (.t 18)⟩,
 ⟨some 20, some (17, true), .fad 0 (.t 3)⟩,
 ⟨some 21, some (17, true), .ld true 2 (.t 20)⟩,
 ⟨some 22, some (17, true), .call 53 [(1, (.t 19)), (1, (.t 21))]⟩,
 qr 23 (.pick (.t 17) (.t 22) (.k (.b false))),
 qm 4 23])
 (.ret))
theorem rcsame_true (s : Bool) (a : List Nat) (k : Int) (p : Bool) (la : a.length ≤ 1000000000) : AFun Tryz.prog J0 16 [cL s a k p, cL s a k p] (.b true) := by
  have h1 := hsameI_spec s s a a la la
  rw [show (s == s) = true from by cases s <;> rfl, Bool.true_and, decide_eq_true rfl] at h1
  have hp : (p == p) = true := by cases p <;> rfl
  refine mkQ fol J0s Tryz.func16 a16 ?_
  unfold a16
  simp only [init_eq, initE, qm, qr, qn]
  exact wdQ (ai @hp (ai @eqsA @bz_C4))
def a24 : AC := .seq (.reg [qr 1 (.bx 37 (.t 0)),
 qr 2 (.al 27 [(.b false), (.l 1 []), (.l 1 [])])])
 (.seq (.dreg [qr 3 (.fad 0 (.t 1)),
 qr 4 (.ld true 2 (.t 3)),
 qr 5 (.fad 2 (.t 1)),
 qr 6 (.ld false 1 (.t 5)),
 qr 7 (.call 61 [(1, (.t 6))]),
 qr 8 (.call 60 [(1, (.t 4)), (1, (.t 7))]),
 qn (.st 3 (.t 2) (.t 8))])
 (.ret))
theorem rlow_spec (s : Bool) (a : List Nat) (k m : Nat) (p : Bool) (hk : k ≤ 1048576) (ha : Wd a) (la : a.length ≤ m) (hm : 20000 ≤ m) (hm1 : m ≤ 3000000) :
    AFun Tryz.prog J0 24 [cL s a (k : Int) p] (rN (loQ (zv s a) k).num (loQ (zv s a) k).den) ∧ Rr (rN (loQ (zv s a) k).num (loQ (zv s a) k).den) (loQ (zv s a) k) m := by
  have t1 := (htwo_spec k (by omega)).frozen
  have r1 := rR_spec s a (dg B (2 ^ k)) m (by omega) ha (Wd_dg _) la (dlen (pow2_B k (by omega))) (by rw [nv_dgB]; exact two_ne k)
  rw [nv_dgB] at r1
  obtain ⟨e1, e2, e3⟩ := rv_q (z := zv s a) (d := 2 ^ k) (m := m) (p := loQ (zv s a) k) (two_ne k) rfl (zv_lt ha la) (pow2_B k (by omega))
  rw [rv_p _ (two_ne k)] at e1
  rw [e1] at r1
  refine ⟨?_, e3⟩
  clear e1 e2 e3
  generalize dg B (2 ^ k) = t at *
  generalize loQ (zv s a) k = L at *
  generalize (k : Int) = kk at *
  refine mkcQ fol J0s Tryz.func24 a24 [.c 2 true 3] ?_
  unfold a24
  simp only [init_eq, initE, qm, qr, qn]
  exact wcQ @bz_C4
def a25 : AC := .seq (.reg [qr 1 (.bx 37 (.t 0)),
 qr 2 (.al 27 [(.b false), (.l 1 []), (.l 1 [])])])
 (.seq (.seq (.reg [qr 3 (.fad 3 (.t 1)),
 qr 4 (.ld false 1 (.t 3))])
 (.cond (.t 4)
 (.seq (.reg [qr 5 (.ld true 4 (.t 1)),
 qr 6 (.call 24 [(1, (.t 5))]),
 qn (.st 3 (.t 2) (.t 6))])
 (.ret))
 (.skip)))
 (.seq (.dreg [qr 7 (.fad 0 (.t 1)),
 qr 8 (.ld true 2 (.t 7)),
 qr 9 (.call 37 [(1, (.k (.i .i64 1)))]),
 qr 10 (.call 62 [(1, (.t 8)), (1, (.t 9))]),
 qr 11 (.fad 2 (.t 1)),
 qr 12 (.ld false 1 (.t 11)),
 qr 13 (.call 61 [(1, (.t 12))]),
 qr 14 (.call 60 [(1, (.t 10)), (1, (.t 13))]),
 qn (.st 3 (.t 2) (.t 14))])
 (.ret)))
theorem rhigh_spec (s : Bool) (a : List Nat) (k m : Nat) (p : Bool) (hk : k ≤ 1048576) (ha : Wd a) (la : a.length ≤ m) (hm : 20000 ≤ m) (hm1 : m ≤ 2500000) :
    AFun Tryz.prog J0 25 [cL s a (k : Int) p] (rN (loQ (hiN (zv s a) p) k).num (loQ (hiN (zv s a) p) k).den) ∧ Rr (rN (loQ (hiN (zv s a) p) k).num (loQ (hiN (zv s a) p) k).den) (loQ (hiN (zv s a) p) k) (m + 1) := by
  cases p with
  | true =>
    obtain ⟨h1, g1⟩ := rlow_spec s a k m true hk ha la hm (by omega)
    refine ⟨?_, Rr_up g1 (Nat.le_succ m)⟩
    show AFun Tryz.prog J0 25 [cL s a (k : Int) true] (rN (loQ (zv s a) k).num (loQ (zv s a) k).den)
    clear g1
    generalize loQ (zv s a) k = L at *
    generalize (k : Int) = kk at *
    refine mkcQ fol J0s Tryz.func25 a25 [.c 2 true 3] ?_
    unfold a25
    simp only [init_eq, initE, qm, qr, qn]
    exact wcQ @bz_C4
  | false =>
    show AFun Tryz.prog J0 25 [cL s a (k : Int) false] (rN (loQ (zv s a + 1) k).num (loQ (zv s a + 1) k).den) ∧ Rr (rN (loQ (zv s a + 1) k).num (loQ (zv s a + 1) k).den) (loQ (zv s a + 1) k) (m + 1)
    have z1 := hZ_spec 1 (by decide) (by decide)
    have a1 := hzadd_spec s (decide ((1 : Int) < 0)) a (dg B (1 : Int).natAbs) m (by omega) ha (Wd_dg _) la (Nat.le_trans (dlen (k := 1) (by decide)) (by omega))
    rw [zv_N] at a1
    have b1 : (zv s a + 1).natAbs < B ^ (m + 1) := hiN_abs (p := false) (zv_lt ha la)
    generalize zv s a + 1 = z at *
    have t1 := (htwo_spec k (by omega)).frozen
    have r1 := rR_spec (decide (z < 0)) (dg B z.natAbs) (dg B (2 ^ k)) (m + 1) (by omega) (Wd_dg _) (Wd_dg _) (dlen b1) (dlen (pow2_B k (by omega))) (by rw [nv_dgB]; exact two_ne k)
    rw [zv_N, nv_dgB] at r1
    obtain ⟨e1, e2, e3⟩ := rv_q (z := z) (d := 2 ^ k) (m := m + 1) (p := loQ z k) (two_ne k) rfl b1 (pow2_B k (by omega))
    rw [rv_p _ (two_ne k)] at e1
    rw [e1] at r1
    refine ⟨?_, e3⟩
    clear e1 e2 e3
    generalize dg B (2 ^ k) = t at *
    generalize loQ z k = L at *
    generalize (k : Int) = kk at *
    refine mkcQ fol J0s Tryz.func25 a25 [.c 2 true 3] ?_
    unfold a25
    simp only [init_eq, initE, qm, qr, qn]
    exact wcQ @bz_C4
def a67 : AC := .seq (.reg [qr 2 (.bx 37 (.t 0)),
 qr 3 (.bx 27 (.t 1)),
 qr 4 (.mv (.k (.b false)))])
 (.seq (.seq (.reg [qr 5 (.fad 3 (.t 2)),
 qr 6 (.ld false 1 (.t 5))])
 (.cond (.t 6)
 (.seq (.dreg [qr 7 (.ld true 4 (.t 2)),
 qr 8 (.call 24 [(1, (.t 7))]),
 qr 9 (.ld true 3 (.t 3)),
 qr 10 (.call 107 [(1, (.t 8)), (1, (.t 9))]),
 qr 11 (.bin .eql (.t 10) (.k (.i .i64 0))),
 qm 4 11])
 (.ret))
 (.skip)))
 (.seq (.dreg [qr 12 (.ld true 4 (.t 2)),
 qr 13 (.call 24 [(1, (.t 12))]),
 qr 14 (.ld true 3 (.t 3)),
 qr 15 (.call 107 [(1, (.t 13)), (1, (.t 14))]),
 qr 16 (.bin .lss (.t 15) (.k (.i .i64 0))),
 qm 17 16,
 ⟨some 18, some (17, true), .ld true 3 (.t 3)⟩,
 ⟨some 19, some (17, true), .ld true 4 (.t 2)⟩,
 ⟨some 20, some (17, true), .call 25 [(1, (.t 19))]⟩,
 ⟨some 21, some (17, true), .call 107 [(1, (.t 18)), (1, (.t 20))]⟩,
 ⟨some 22, some (17, true), .bin .lss (.t 21) (.k (.i .i64 0))⟩,
 qr 23 (.pick (.t 17) (.t 22) (.k (.b false))),
 qm 4 23])
 (.ret)))
theorem rhas_spec (s : Bool) (a : List Nat) (k m : Nat) (p : Bool) {v : V} {r : Rat} (hk : k ≤ 1048576) (ha : Wd a) (la : a.length ≤ m) (hv : Rr v r (m + 1)) (hm : 20000 ≤ m) (hm1 : m ≤ 2000000) :
    AFun Tryz.prog J0 67 [cL s a (k : Int) p, v] (.b (haV p (loQ (zv s a) k) (loQ (hiN (zv s a) p) k) r)) := by
  obtain ⟨h1, g1⟩ := rlow_spec s a k m p hk ha la hm (by omega)
  obtain ⟨h2, g2⟩ := rhigh_spec s a k m p hk ha la hm (by omega)
  have h3 := rOrderR (Rr_up g1 (Nat.le_succ m)) hv (by omega)
  have h4 := rOrderR hv g2 (by omega)
  obtain ⟨t, b, d, rfl, _⟩ := hv
  obtain ⟨x, hx⟩ : ∃ x, x = haV p (loQ (zv s a) k) (loQ (hiN (zv s a) p) k) r := ⟨_, rfl⟩
  rw [← hx]
  unfold haV at hx
  clear g1 g2
  generalize cq (loQ (zv s a) k) r = x1 at *
  generalize cq r (loQ (hiN (zv s a) p) k) = x2 at *
  generalize loQ (zv s a) k = L at *
  generalize loQ (hiN (zv s a) p) k = H at *
  generalize (k : Int) = kk at *
  cases p
  · simp only [Bool.false_eq_true, if_false] at hx
    by_cases g : x1 < 0
    · rw [decide_eq_true g, Bool.true_and] at hx
      refine mkQ fol J0s Tryz.func67 a67 ?_
      unfold a67
      simp only [init_eq, initE, qm, qr, qn]
      have zc1 := h2
      exact wdQ (ai @hx (ai @g @bz_C4))
    · rw [decide_eq_false g, Bool.false_and] at hx
      refine mkQ fol J0s Tryz.func67 a67 ?_
      unfold a67
      simp only [init_eq, initE, qm, qr, qn]
      exact wdQ (ai @hx (ai @g @bz_C4))
  · replace hx : x = decide (x1 = 0) := hx
    refine mkQ fol J0s Tryz.func67 a67 ?_
    unfold a67
    simp only [init_eq, initE, qm, qr, qn]
    exact wdQ (ai @hx @bz_C4)
end Go.Proofs.YtfcpigjmagbnkaaGreatDoor
