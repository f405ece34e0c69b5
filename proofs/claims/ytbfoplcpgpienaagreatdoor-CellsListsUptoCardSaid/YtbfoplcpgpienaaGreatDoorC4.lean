/-
  Cells, by the document.
-/
import Derived.Test.YtbfoplcpgpienaaGreatDoorC3
import Derived.Test.YtbfoplcpgpienaaGreatDoorQE
namespace Go.Proofs.YtbfoplcpgpienaaGreatDoor
open Go Go.RowKit Ab
set_option linter.unusedSimpArgs false
set_option linter.unusedVariables false
set_option maxHeartbeats 10000000
theorem bz_C4 : type_of% (And.intro @W_len (And.intro @D_len (And.intro @Nat.div_one (And.intro @Nat.mul_one (And.intro @tn_nat (And.intro @W_nf (And.intro @D_nf (And.intro @W_nil (And.intro @D_nil (And.intro @wi (And.intro @nf_g (And.intro @Bool.false_and (@W_cell))))))))))))) := And.intro @W_len (And.intro @D_len (And.intro @Nat.div_one (And.intro @Nat.mul_one (And.intro @tn_nat (And.intro @W_nf (And.intro @D_nf (And.intro @W_nil (And.intro @D_nil (And.intro @wi (And.intro @nf_g (And.intro @Bool.false_and (@W_cell))))))))))))
theorem rOrderR {v w : V} {p q : Rat} {m : Nat} (hv : Rr v p m) (hw : Rr w q m) (hm : m ≤ 3000000) : AFun Tryz.prog J0 62 [v, w] (.i .i64 (cq p q)) := by
  obtain ⟨s, a, d, rfl, ha, hd, la, ld, h0, rfl⟩ := hv
  obtain ⟨t, b, e, rfl, hb, he, lb, le, k0, rfl⟩ := hw
  have h := rOrder_spec s t a b d e m (by omega) ha hb hd he la lb ld le h0 k0
  rw [cz_q h0 k0] at h
  exact h
theorem rPlusR {v w : V} {p q : Rat} {m : Nat} (hv : Rr v p m) (hw : Rr w q m) (hm : m ≤ 3000000) : AFun Tryz.prog J0 87 [v, w] (rN (p + q).num (p + q).den) ∧ Rr (rN (p + q).num (p + q).den) (p + q) (m + m + 1) := by
  obtain ⟨s, a, d, rfl, ha, hd, la, ld, h0, rfl⟩ := hv
  obtain ⟨t, b, e, rfl, hb, he, lb, le, k0, rfl⟩ := hw
  have h := rPlus_spec s t a b d e m (by omega) ha hb hd he la lb ld le (Nat.mul_ne_zero h0 k0)
  obtain ⟨e1, e2, e3⟩ := rv_q (m := m + m + 1) (Nat.mul_ne_zero h0 k0) (Rat.mkRat_add_mkRat (zv s a) (zv t b) h0 k0).symm (Nat.lt_of_le_of_lt (Int.natAbs_add_le _ _) (padd (mul_lt (zv_lt ha la) (nvlt he le)) (mul_lt (zv_lt hb lb) (nvlt hd ld)))) (pup (mulN_lt (nvlt hd ld) (nvlt he le)) (by omega))
  rw [rv_p _ (Nat.mul_ne_zero h0 k0)] at e1
  rw [e1] at h
  exact ⟨h, e3⟩
def a52 : AC := .seq (.reg [qr 2 (.mv (.k (.i .i64 0)))])
 (.seq (.blk 0
 (.seq (.reg [qm 4 0,
 qr 5 (.bin .lss (.t 4) (.k (.i .i64 0))),
 qm 3 5])
 (.cond (.t 3)
 (.seq (.reg [qr 2 (.mv (.k (.i .i64 3)))])
 (.ret))
 (.seq (.reg [qm 7 0,
 qr 8 (.bin .gtr (.t 7) (.k (.i .i64 1048576))),
 qm 6 8])
 (.cond (.t 6)
 (.seq (.reg [qr 2 (.mv (.k (.i .i64 13)))])
 (.ret))
 (.skip))))))
 (.seq (.reg [qr 2 (.mv (.k (.i .i64 0)))])
 (.ret)))
theorem rexp_spec (k : Int) : AFun Tryz.prog J0 52 [.i .i64 k] (.i .i64 (ckE k)) := by
  by_cases h1 : k < 0
  · rw [ckE_n h1]
    refine mkQ fol J0s Tryz.func52 a52 ?_
    unfold a52
    simp only [init_eq, initE, qm, qr, qn]
    exact pdQ (ai @h1 @bz_C4)
  · by_cases h2 : 1048576 < k
    · rw [ckE_b h2]
      refine mkQ fol J0s Tryz.func52 a52 ?_
      unfold a52
      simp only [init_eq, initE, qm, qr, qn]
      exact pdQ (ai @h2 (ai @h1 @bz_C4))
    · rw [ckE_0 (by omega) (by omega)]
      refine mkQ fol J0s Tryz.func52 a52 ?_
      unfold a52
      simp only [init_eq, initE, qm, qr, qn]
      exact pdQ (ai @h2 (ai @h1 @bz_C4))
def a11 : AC := .seq (.reg [qr 1 (.bx 27 (.t 0)),
 qr 2 (.mv (.k (.i .i64 0)))])
 (.seq (.reg [qr 3 (.fad 2 (.t 1)),
 qr 4 (.ld false 1 (.t 3)),
 qr 5 (.call 52 [(1, (.t 4))]),
 qm 2 5])
 (.ret))
theorem rccheck_spec (s : Bool) (a : List Nat) (k : Int) (p : Bool) : AFun Tryz.prog J0 11 [cL s a k p] (.i .i64 (ckE k)) := by
  have h := rexp_spec k
  generalize ckE k = e at *
  refine mkQ fol J0s Tryz.func11 a11 ?_
  unfold a11
  simp only [init_eq, initE, qm, qr, qn]
  exact wdQ @bz_C4
def fst2 (x y : Int) : Int := if x = 0 then y else x
theorem fst2_ck (k j : Int) : fst2 (ckE k) (ckE j) = ck2 k j := rfl
def a61 : AC := .seq (.reg [qr 2 (.mv (.k (.i .i64 0)))])
 (.seq (.seq (.reg [qr 3 (.mv (.k (.i .i64 0)))])
 (.blk 0
 (.loop
 (.seq (.seq (.reg [qm 4 3,
 qm 5 0,
 qr 6 (.len (.t 5)),
 qr 7 (.bin .lss (.t 4) (.t 6))])
 (.cond (.t 7)
 (.skip)
 (.exit 0)))
 (.seq (.blk 1
 (.seq (.reg [qm 10 0,
 qm 11 3,
 qr 12 (.idx 1 (.t 10) (.t 11)),
 qr 13 (.ld false 1 (.t 12)),
 qr 14 (.bin .neq (.t 13) (.k (.i .i64 0)))])
 (.cond (.t 14)
 (.seq (.reg [qm 15 0,
 qm 16 3,
 qr 17 (.idx 1 (.t 15) (.t 16)),
 qr 18 (.ld false 1 (.t 17)),
 qm 2 18])
 (.ret))
 (.skip))))
 (.reg [qm 8 3,
 qr 9 (.bin .add (.t 8) (.k (.i .i64 1))),
 qm 3 9]))))))
 (.seq (.reg [qr 2 (.mv (.k (.i .i64 0)))])
 (.ret)))
theorem rfirst2_spec (x y : Int) : AFun Tryz.prog J0 61 [.l 1 [.i .i64 x, .i .i64 y]] (.i .i64 (fst2 x y)) := by
  obtain ⟨r, hr0⟩ : ∃ r, r = fst2 x y := ⟨_, rfl⟩
  rw [← hr0]
  unfold fst2 at hr0
  refine mkQ fol J0s Tryz.func61 a61 ?_
  unfold a61
  simp only [init_eq, initE, qm, qr, qn]
  refine spQ @bz_C4 ?_
  refine vm_loopA [] Nat (fun i => ⟨[(0, .l 1 [.i .i64 x, .i .i64 y]), (3, .i .i64 (i : Int))], [], 0⟩)
    (fun i => i ≤ 2 ∧ (0 < i → x = 0) ∧ (1 < i → y = 0)) (fun i => 2 - i) 0 ⟨Nat.zero_le _, fun h => by omega, fun h => by omega⟩ (by exact leQ) (by
    exact ltQ) ?_
  intro i ⟨hi, g1, g2⟩ Q' hQ he hr
  by_cases h : (i : Int) < 2
  · obtain ⟨w, hw⟩ : ∃ w, w = if i = 0 then x else y := ⟨_, rfl⟩
    have hg : ([.i .i64 x, .i .i64 y] : List V).getD i .un = .i .i64 w := by
      rcases (by omega : i = 0 ∨ i = 1) with rfl | rfl
      · rw [hw]; rfl
      · rw [hw]; rfl
    have hlt : i < 2 := by omega
    have hl : ([.i .i64 x, .i .i64 y] : List V).length = 2 := rfl
    by_cases h0 : w = 0
    · subst h0
      refine spQ (ai @hlt (ai @hl (ai @hg (ai @h @bz_C4)))) ?_
      refine hQ _ (i + 1) ⟨by omega, fun _ => ?_, fun h1 => ?_⟩ (by omega) ?_
      · by_cases e : i = 0
        · rw [if_pos e] at hw; exact hw.symm
        · exact g1 (by omega)
      · rw [if_neg (by omega)] at hw; exact hw.symm
      · simp (disch := (first | omega | assumption)) only [Sl, Sa, Sw, ↓reduceIte, Nat.reduceEqDiff, Nat.reduceLT, List.all_nil, List.all_cons, Nat.reduceBneDiff, Nat.reduceAdd, bne_iff_ne, ne_eq, reduceCtorEq, not_false_eq_true, not_true_eq_false, Bool.and_true, Bool.true_and, and_true, true_and, and_self, i_eq]
        repeat' first | rfl | omega | (simp only [List.length_append, List.length_cons, List.length_nil]; done) | apply And.intro
    · have e : r = w := by
        rw [hr0, hw]
        by_cases e : i = 0
        · rw [if_pos e, if_neg (by rw [if_pos e] at hw; rw [← hw]; exact h0)]
        · rw [if_neg e, if_pos (g1 (by omega))]
      refine spQ (ai @h0 (ai @hlt (ai @hl (ai @hg (ai @h @bz_C4))))) ?_
      refine hr _ ?_
      refine spQ @bz_C4 ?_
      exact rtQ (ai @e @bz_C4)
  · have e := g1 (by omega)
    have e2 := g2 (by omega)
    subst e e2
    rw [if_pos rfl] at hr0
    refine spQ (ai @h @bz_C4) ?_
    refine he _ _ ?_
    refine spQ @bz_C4 ?_
    exact rtQ (ai @hr0 @bz_C4)
def a77 : AC := .seq (.reg [qr 1 (.bx 43 (.t 0)),
 qr 2 (.mv (.k (.i .i64 0)))])
 (.seq (.seq (.reg [qr 3 (.ld true 3 (.t 1)),
 qr 4 (.call 28 [(1, (.t 3))]),
 qr 5 (.un .not (.t 4))])
 (.cond (.t 5)
 (.seq (.reg [qr 2 (.mv (.k (.i .i64 1)))])
 (.ret))
 (.skip)))
 (.seq (.reg [qr 2 (.mv (.k (.i .i64 0)))])
 (.ret)))
theorem rrat_spec (s : Bool) (a d : List Nat) (hd : Wd d) (ld : d.length ≤ 1000000000) : AFun Tryz.prog J0 77 [rL s a d] (.i .i64 (if nv B d = 0 then 1 else 0)) := by
  have h1 := rOk_spec s a d hd ld
  by_cases h0 : nv B d = 0
  · rw [decide_eq_true h0] at h1
    rw [if_pos h0]
    refine mkQ fol J0s Tryz.func77 a77 ?_
    unfold a77
    simp only [init_eq, initE, qm, qr, qn]
    exact wdQ @bz_C4
  · rw [decide_eq_false h0] at h1
    rw [if_neg h0]
    refine mkQ fol J0s Tryz.func77 a77 ?_
    unfold a77
    simp only [init_eq, initE, qm, qr, qn]
    exact wdQ @bz_C4
def a14 : AC := .seq (.reg [qr 2 (.bx 27 (.t 0)),
 qr 3 (.bx 27 (.t 1)),
 qr 4 (.mv (.k (.b false)))])
 (.seq (.reg [qr 5 (.fad 2 (.t 2)),
 qr 6 (.ld false 1 (.t 5)),
 qr 7 (.fad 2 (.t 3)),
 qr 8 (.ld false 1 (.t 7)),
 qr 9 (.bin .eql (.t 6) (.t 8)),
 qm 10 9,
 ⟨some 11, some (10, true), .fad 3 (.t 2)⟩,
 ⟨some 12, some (10, true), .ld false 1 (.t 11)⟩,
 ⟨some 13, some (10, true), .fad 3 (.t 3)⟩,
 ⟨some 14, some (10, true), .ld false 1 (.t 13)⟩,
 ⟨some 15, some (10, true), .eqb false (.t 12) (.t 14)⟩,
 qr 16 (.pick (.t 10) (.t 15) (.k (.b false))),
 qm 17 16,
 ⟨some 18, some (17, true), .fad 0 (.t 2)⟩,
 ⟨some 19, some (17, true), .ld true 2 (.t 18)⟩,
 ⟨some 20, some (17, true), .fad 0 (.t 3)⟩,
 ⟨some 21, some (17, true), .ld true 2 (.t 20)⟩,
 ⟨some 22, some (17, true), .call 54 [(1, (.t 19)), (1, (.t 21))]⟩,
 qr 23 (.pick (.t 17) (.t 22) (.k (.b false))),
 qm 4 23])
 (.ret))
theorem rcsame_true (s : Bool) (a : List Nat) (k : Int) (p : Bool) (la : a.length ≤ 1000000000) : AFun Tryz.prog J0 14 [cL s a k p, cL s a k p] (.b true) := by
  have h1 := hsameI_spec s s a a la la
  rw [show (s == s) = true from by cases s <;> rfl, Bool.true_and, decide_eq_true rfl] at h1
  have hp : (p == p) = true := by cases p <;> rfl
  refine mkQ fol J0s Tryz.func14 a14 ?_
  unfold a14
  simp only [init_eq, initE, qm, qr, qn]
  exact wdQ (ai @hp (ai @eqsA @bz_C4))
def a41 : AC := .seq (.reg [qr 1 (.bx 27 (.t 0)),
 qr 2 (.al 43 [(.b false), (.l 1 []), (.l 1 [])])])
 (.seq (.dreg [qr 3 (.fad 0 (.t 1)),
 qr 4 (.ld true 2 (.t 3)),
 qr 5 (.fad 2 (.t 1)),
 qr 6 (.ld false 1 (.t 5)),
 qr 7 (.call 85 [(1, (.t 6))]),
 qr 8 (.call 84 [(1, (.t 4)), (1, (.t 7))]),
 qn (.st 3 (.t 2) (.t 8))])
 (.ret))
theorem rlow_spec (s : Bool) (a : List Nat) (k m : Nat) (p : Bool) (hk : k ≤ 1048576) (ha : Wd a) (la : a.length ≤ m) (hm : 20000 ≤ m) (hm1 : m ≤ 3000000) :
    AFun Tryz.prog J0 41 [cL s a (k : Int) p] (rN (loQ (zv s a) k).num (loQ (zv s a) k).den) ∧ Rr (rN (loQ (zv s a) k).num (loQ (zv s a) k).den) (loQ (zv s a) k) m := by
  have t1 := (htwo_spec k (by omega)).frozen
  have r1 := rR_spec s a (dg B (2 ^ k)) m (by omega) ha (Wd_dg _) la (dlen (pow2_B k (by omega))) (by rw [nv_dgB]; exact two_ne k)
  rw [nv_dgB] at r1
  obtain ⟨e1, e2, e3⟩ := rv_q (z := zv s a) (d := 2 ^ k) (m := m) (p := loQ (zv s a) k) (two_ne k) rfl (zv_lt ha la) (pow2_B k (by omega))
  rw [rv_p _ (two_ne k)] at e1
  rw [e1] at r1
  refine ⟨?_, e3⟩
  clear e1 e2 e3
  generalize dg B (2 ^ k) = t at *
  generalize loQ (zv s a) k = L at *
  generalize (k : Int) = kk at *
  refine mkcQ fol J0s Tryz.func41 a41 [.c 2 true 3] ?_
  unfold a41
  simp only [init_eq, initE, qm, qr, qn]
  exact wcQ @bz_C4
def a42 : AC := .seq (.reg [qr 1 (.bx 27 (.t 0)),
 qr 2 (.al 43 [(.b false), (.l 1 []), (.l 1 [])])])
 (.seq (.seq (.reg [qr 3 (.fad 3 (.t 1)),
 qr 4 (.ld false 1 (.t 3))])
 (.cond (.t 4)
 (.seq (.reg [qr 5 (.ld true 4 (.t 1)),
 qr 6 (.call 41 [(1, (.t 5))]),
 qn (.st 3 (.t 2) (.t 6))])
 (.ret))
 (.skip)))
 (.seq (.dreg [qr 7 (.fad 0 (.t 1)),
 qr 8 (.ld true 2 (.t 7)),
 qr 9 (.call 51 [(1, (.k (.i .i64 1)))]),
 qr 10 (.call 57 [(1, (.t 8)), (1, (.t 9))]),
 qr 11 (.fad 2 (.t 1)),
 qr 12 (.ld false 1 (.t 11)),
 qr 13 (.call 85 [(1, (.t 12))]),
 qr 14 (.call 84 [(1, (.t 10)), (1, (.t 13))]),
 qn (.st 3 (.t 2) (.t 14))])
 (.ret)))
theorem rhigh_spec (s : Bool) (a : List Nat) (k m : Nat) (p : Bool) (hk : k ≤ 1048576) (ha : Wd a) (la : a.length ≤ m) (hm : 20000 ≤ m) (hm1 : m ≤ 2500000) :
    AFun Tryz.prog J0 42 [cL s a (k : Int) p] (rN (loQ (hiN (zv s a) p) k).num (loQ (hiN (zv s a) p) k).den) ∧ Rr (rN (loQ (hiN (zv s a) p) k).num (loQ (hiN (zv s a) p) k).den) (loQ (hiN (zv s a) p) k) (m + 1) := by
  cases p with
  | true =>
    obtain ⟨h1, g1⟩ := rlow_spec s a k m true hk ha la hm (by omega)
    refine ⟨?_, Rr_up g1 (Nat.le_succ m)⟩
    show AFun Tryz.prog J0 42 [cL s a (k : Int) true] (rN (loQ (zv s a) k).num (loQ (zv s a) k).den)
    clear g1
    generalize loQ (zv s a) k = L at *
    generalize (k : Int) = kk at *
    refine mkcQ fol J0s Tryz.func42 a42 [.c 2 true 3] ?_
    unfold a42
    simp only [init_eq, initE, qm, qr, qn]
    exact wcQ @bz_C4
  | false =>
    show AFun Tryz.prog J0 42 [cL s a (k : Int) false] (rN (loQ (zv s a + 1) k).num (loQ (zv s a + 1) k).den) ∧ Rr (rN (loQ (zv s a + 1) k).num (loQ (zv s a + 1) k).den) (loQ (zv s a + 1) k) (m + 1)
    have z1 := hZ_spec 1 (by decide) (by decide)
    have a1 := hzadd_spec s (decide ((1 : Int) < 0)) a (dg B (1 : Int).natAbs) m (by omega) ha (Wd_dg _) la (Nat.le_trans (dlen (k := 1) (by decide)) (by omega))
    rw [zv_N] at a1
    have b1 : (zv s a + 1).natAbs < B ^ (m + 1) := hiN_abs (p := false) (zv_lt ha la)
    generalize zv s a + 1 = z at *
    have t1 := (htwo_spec k (by omega)).frozen
    have r1 := rR_spec (decide (z < 0)) (dg B z.natAbs) (dg B (2 ^ k)) (m + 1) (by omega) (Wd_dg _) (Wd_dg _) (dlen b1) (dlen (pow2_B k (by omega))) (by rw [nv_dgB]; exact two_ne k)
    rw [zv_N, nv_dgB] at r1
    obtain ⟨e1, e2, e3⟩ := rv_q (z := z) (d := 2 ^ k) (m := m + 1) (p := loQ z k) (two_ne k) rfl b1 (pow2_B k (by omega))
    rw [rv_p _ (two_ne k)] at e1
    rw [e1] at r1
    refine ⟨?_, e3⟩
    clear e1 e2 e3
    generalize dg B (2 ^ k) = t at *
    generalize loQ z k = L at *
    generalize (k : Int) = kk at *
    refine mkcQ fol J0s Tryz.func42 a42 [.c 2 true 3] ?_
    unfold a42
    simp only [init_eq, initE, qm, qr, qn]
    exact wcQ @bz_C4
def a68 : AC := .seq (.reg [qr 2 (.bx 27 (.t 0)),
 qr 3 (.bx 43 (.t 1)),
 qr 4 (.mv (.k (.b false)))])
 (.seq (.seq (.reg [qr 5 (.fad 3 (.t 2)),
 qr 6 (.ld false 1 (.t 5))])
 (.cond (.t 6)
 (.seq (.dreg [qr 7 (.ld true 4 (.t 2)),
 qr 8 (.call 41 [(1, (.t 7))]),
 qr 9 (.ld true 3 (.t 3)),
 qr 10 (.call 62 [(1, (.t 8)), (1, (.t 9))]),
 qr 11 (.bin .eql (.t 10) (.k (.i .i64 0))),
 qm 4 11])
 (.ret))
 (.skip)))
 (.seq (.dreg [qr 12 (.ld true 4 (.t 2)),
 qr 13 (.call 41 [(1, (.t 12))]),
 qr 14 (.ld true 3 (.t 3)),
 qr 15 (.call 62 [(1, (.t 13)), (1, (.t 14))]),
 qr 16 (.bin .lss (.t 15) (.k (.i .i64 0))),
 qm 17 16,
 ⟨some 18, some (17, true), .ld true 3 (.t 3)⟩,
 ⟨some 19, some (17, true), .ld true 4 (.t 2)⟩,
 ⟨some 20, some (17, true), .call 42 [(1, (.t 19))]⟩,
 ⟨some 21, some (17, true), .call 62 [(1, (.t 18)), (1, (.t 20))]⟩,
 ⟨some 22, some (17, true), .bin .lss (.t 21) (.k (.i .i64 0))⟩,
 qr 23 (.pick (.t 17) (.t 22) (.k (.b false))),
 qm 4 23])
 (.ret)))
theorem rhas_spec (s : Bool) (a : List Nat) (k m : Nat) (p : Bool) {v : V} {r : Rat} (hk : k ≤ 1048576) (ha : Wd a) (la : a.length ≤ m) (hv : Rr v r (m + 1)) (hm : 20000 ≤ m) (hm1 : m ≤ 2000000) :
    AFun Tryz.prog J0 68 [cL s a (k : Int) p, v] (.b (haV p (loQ (zv s a) k) (loQ (hiN (zv s a) p) k) r)) := by
  obtain ⟨h1, g1⟩ := rlow_spec s a k m p hk ha la hm (by omega)
  obtain ⟨h2, g2⟩ := rhigh_spec s a k m p hk ha la hm (by omega)
  have h3 := rOrderR (Rr_up g1 (Nat.le_succ m)) hv (by omega)
  have h4 := rOrderR hv g2 (by omega)
  obtain ⟨t, b, d, rfl, _⟩ := hv
  obtain ⟨x, hx⟩ : ∃ x, x = haV p (loQ (zv s a) k) (loQ (hiN (zv s a) p) k) r := ⟨_, rfl⟩
  rw [← hx]
  unfold haV at hx
  clear g1 g2
  generalize cq (loQ (zv s a) k) r = x1 at *
  generalize cq r (loQ (hiN (zv s a) p) k) = x2 at *
  generalize loQ (zv s a) k = L at *
  generalize loQ (hiN (zv s a) p) k = H at *
  generalize (k : Int) = kk at *
  cases p
  · simp only [Bool.false_eq_true, if_false] at hx
    by_cases g : x1 < 0
    · rw [decide_eq_true g, Bool.true_and] at hx
      refine mkQ fol J0s Tryz.func68 a68 ?_
      unfold a68
      simp only [init_eq, initE, qm, qr, qn]
      have zc1 := h2
      exact wdQ (ai @hx (ai @g @bz_C4))
    · rw [decide_eq_false g, Bool.false_and] at hx
      refine mkQ fol J0s Tryz.func68 a68 ?_
      unfold a68
      simp only [init_eq, initE, qm, qr, qn]
      exact wdQ (ai @hx (ai @g @bz_C4))
  · replace hx : x = decide (x1 = 0) := hx
    refine mkQ fol J0s Tryz.func68 a68 ?_
    unfold a68
    simp only [init_eq, initE, qm, qr, qn]
    exact wdQ (ai @hx @bz_C4)
def meetV (p q : Bool) (La Ha Lb Hb : Rat) : Bool :=
  if p && q then decide (cq La Lb = 0) else if p then haV q Lb Hb La else if q then haV p La Ha Lb else decide (cq La Hb < 0) && decide (cq Lb Ha < 0)
def a66 : AC := .seq (.reg [qr 2 (.bx 27 (.t 0)),
 qr 3 (.bx 27 (.t 1)),
 qr 4 (.mv (.k (.b false)))])
 (.seq (.seq (.reg [qr 5 (.fad 3 (.t 2)),
 qr 6 (.ld false 1 (.t 5)),
 qm 7 6,
 ⟨some 8, some (7, true), .fad 3 (.t 3)⟩,
 ⟨some 9, some (7, true), .ld false 1 (.t 8)⟩,
 qr 10 (.pick (.t 7) (.t 9) (.k (.b false)))])
 (.cond (.t 10)
 (.seq (.dreg [qr 11 (.ld true 4 (.t 2)),
 qr 12 (.call 41 [(1, (.t 11))]),
 qr 13 (.ld true 4 (.t 3)),
 qr 14 (.call 41 [(1, (.t 13))]),
 qr 15 (.call 62 [(1, (.t 12)), (1, (.t 14))]),
 qr 16 (.bin .eql (.t 15) (.k (.i .i64 0))),
 qm 4 16])
 (.ret))
 (.skip)))
 (.seq (.seq (.reg [qr 17 (.fad 3 (.t 2)),
 qr 18 (.ld false 1 (.t 17))])
 (.cond (.t 18)
 (.seq (.dreg [qr 19 (.ld true 4 (.t 3)),
 qr 20 (.ld true 4 (.t 2)),
 qr 21 (.call 41 [(1, (.t 20))]),
 qr 22 (.call 68 [(1, (.t 19)), (1, (.t 21))]),
 qm 4 22])
 (.ret))
 (.skip)))
 (.seq (.seq (.reg [qr 23 (.fad 3 (.t 3)),
 qr 24 (.ld false 1 (.t 23))])
 (.cond (.t 24)
 (.seq (.dreg [qr 25 (.ld true 4 (.t 2)),
 qr 26 (.ld true 4 (.t 3)),
 qr 27 (.call 41 [(1, (.t 26))]),
 qr 28 (.call 68 [(1, (.t 25)), (1, (.t 27))]),
 qm 4 28])
 (.ret))
 (.skip)))
 (.seq (.dreg [qr 29 (.ld true 4 (.t 2)),
 qr 30 (.call 41 [(1, (.t 29))]),
 qr 31 (.ld true 4 (.t 3)),
 qr 32 (.call 42 [(1, (.t 31))]),
 qr 33 (.call 62 [(1, (.t 30)), (1, (.t 32))]),
 qr 34 (.bin .lss (.t 33) (.k (.i .i64 0))),
 qm 35 34,
 ⟨some 36, some (35, true), .ld true 4 (.t 3)⟩,
 ⟨some 37, some (35, true), .call 41 [(1, (.t 36))]⟩,
 ⟨some 38, some (35, true), .ld true 4 (.t 2)⟩,
 ⟨some 39, some (35, true), .call 42 [(1, (.t 38))]⟩,
 ⟨some 40, some (35, true), .call 62 [(1, (.t 37)), (1, (.t 39))]⟩,
 ⟨some 41, some (35, true), .bin .lss (.t 40) (.k (.i .i64 0))⟩,
 qr 42 (.pick (.t 35) (.t 41) (.k (.b false))),
 qm 4 42])
 (.ret)))))
theorem rmeet_spec (s t : Bool) (a b : List Nat) (k j m : Nat) (p q : Bool) (hk : k ≤ 1048576) (hj : j ≤ 1048576) (ha : Wd a) (hb : Wd b) (la : a.length ≤ m) (lb : b.length ≤ m) (hm : 20000 ≤ m) (hm1 : m ≤ 2000000) :
    AFun Tryz.prog J0 66 [cL s a (k : Int) p, cL t b (j : Int) q] (.b (meetV p q (loQ (zv s a) k) (loQ (hiN (zv s a) p) k) (loQ (zv t b) j) (loQ (hiN (zv t b) q) j))) := by
  obtain ⟨h1, g1⟩ := rlow_spec s a k m p hk ha la hm (by omega)
  obtain ⟨h2, g2⟩ := rhigh_spec s a k m p hk ha la hm (by omega)
  obtain ⟨h3, g3⟩ := rlow_spec t b j m q hj hb lb hm (by omega)
  obtain ⟨h4, g4⟩ := rhigh_spec t b j m q hj hb lb hm (by omega)
  have g1' := Rr_up g1 (Nat.le_succ m)
  have g3' := Rr_up g3 (Nat.le_succ m)
  have o1 := rOrderR g1' g3' (by omega)
  have o2 := rOrderR g1' g4 (by omega)
  have o3 := rOrderR g3' g2 (by omega)
  have c1 := rhas_spec t b j m q hj hb lb g1' hm hm1
  have c2 := rhas_spec s a k m p hk ha la g3' hm hm1
  obtain ⟨x, hx⟩ : ∃ x, x = meetV p q (loQ (zv s a) k) (loQ (hiN (zv s a) p) k) (loQ (zv t b) j) (loQ (hiN (zv t b) q) j) := ⟨_, rfl⟩
  rw [← hx]
  unfold meetV at hx
  clear g1 g2 g3 g4 g1' g3'
  generalize cq (loQ (zv s a) k) (loQ (zv t b) j) = x1 at *
  generalize cq (loQ (zv s a) k) (loQ (hiN (zv t b) q) j) = x2 at *
  generalize cq (loQ (zv t b) j) (loQ (hiN (zv s a) p) k) = x3 at *
  generalize haV q (loQ (zv t b) j) (loQ (hiN (zv t b) q) j) (loQ (zv s a) k) = y1 at *
  generalize haV p (loQ (zv s a) k) (loQ (hiN (zv s a) p) k) (loQ (zv t b) j) = y2 at *
  generalize loQ (zv s a) k = La at *
  generalize loQ (hiN (zv s a) p) k = Ha at *
  generalize loQ (zv t b) j = Lb at *
  generalize loQ (hiN (zv t b) q) j = Hb at *
  generalize (k : Int) = kk at *
  generalize (j : Int) = jj at *
  cases p
  · cases q
    · replace hx : x = (decide (x2 < 0) && decide (x3 < 0)) := hx
      by_cases g : x2 < 0
      · rw [decide_eq_true g, Bool.true_and] at hx
        refine mkQ fol J0s Tryz.func66 a66 ?_
        unfold a66
        simp only [init_eq, initE, qm, qr, qn]
        have zc2 := h2
        exact wdQ (ai @hx (ai @g @bz_C4))
      · rw [decide_eq_false g, Bool.false_and] at hx
        refine mkQ fol J0s Tryz.func66 a66 ?_
        unfold a66
        simp only [init_eq, initE, qm, qr, qn]
        exact wdQ (ai @hx (ai @g @bz_C4))
    · replace hx : x = y2 := hx
      refine mkQ fol J0s Tryz.func66 a66 ?_
      unfold a66
      simp only [init_eq, initE, qm, qr, qn]
      exact wdQ (ai @hx @bz_C4)
  · cases q
    · replace hx : x = y1 := hx
      refine mkQ fol J0s Tryz.func66 a66 ?_
      unfold a66
      simp only [init_eq, initE, qm, qr, qn]
      exact wdQ (ai @hx @bz_C4)
    · replace hx : x = decide (x1 = 0) := hx
      refine mkQ fol J0s Tryz.func66 a66 ?_
      unfold a66
      simp only [init_eq, initE, qm, qr, qn]
      exact wdQ (ai @hx @bz_C4)
theorem cell_ends {z : Int} {p : Bool} {k : Nat} : if p then loQ (hiN z p) k = loQ z k else loQ z k < loQ (hiN z p) k := by
  cases p
  · show loQ z k < loQ (z + 1) k
    rw [lt_q (two_ne k) (two_ne k)]
    exact Int.mul_lt_mul_of_pos_right (by omega) (Int.natCast_pos.2 (Nat.two_pow_pos k))
  · rfl
theorem cmp_law (p q : Bool) (La Ha Lb Hb : Rat) (ha : if p then Ha = La else La < Ha) (hb : if q then Hb = Lb else Lb < Hb) :
    cpV (cq Ha Lb) (cq La Hb) (!p || !q) = if meetV p q La Ha Lb Hb then 0 else if cq La Lb < 0 ∨ cq Ha Hb < 0 then -1 else 1 := by
  unfold cpV meetV haV
  simp only [cq_lt, cq_eq, cq_gt]
  cases p <;> cases q <;> simp at ha hb ⊢ <;> grind
def a21 : AC := .seq (.reg [qr 2 (.bx 27 (.t 0)),
 qr 3 (.bx 27 (.t 1)),
 qr 4 (.mv (.k (.i .i64 0))),
 qr 5 (.mv (.k (.i .i64 0)))])
 (.seq (.dreg [qr 7 (.ld true 4 (.t 2)),
 qr 8 (.call 11 [(1, (.t 7))]),
 qr 9 (.ld true 4 (.t 3)),
 qr 10 (.call 11 [(1, (.t 9))]),
 qr 11 (.bsl 29 1 2 [(.i .i64 0), (.i .i64 0)] [(0, (.t 8)), (1, (.t 10))]),
 qr 12 (.call 61 [(1, (.t 11))]),
 qm 6 12])
 (.seq (.seq (.reg [qm 13 6,
 qr 14 (.bin .neq (.t 13) (.k (.i .i64 0)))])
 (.cond (.t 14)
 (.seq (.reg [qm 15 6,
 qr 4 (.mv (.k (.i .i64 0))),
 qm 5 15])
 (.ret))
 (.skip)))
 (.seq (.blk 0
 (.seq (.reg [qr 17 (.ld true 4 (.t 2)),
 qr 18 (.ld true 4 (.t 3)),
 qr 19 (.call 66 [(1, (.t 17)), (1, (.t 18))]),
 qm 16 19])
 (.cond (.t 16)
 (.seq (.reg [qr 4 (.mv (.k (.i .i64 0))),
 qr 5 (.mv (.k (.i .i64 0)))])
 (.ret))
 (.seq (.dreg [qr 21 (.ld true 4 (.t 2)),
 qr 22 (.call 41 [(1, (.t 21))]),
 qr 23 (.ld true 4 (.t 3)),
 qr 24 (.call 41 [(1, (.t 23))]),
 qr 25 (.call 62 [(1, (.t 22)), (1, (.t 24))]),
 qr 26 (.bin .lss (.t 25) (.k (.i .i64 0))),
 qm 27 26,
 ⟨some 28, some (27, false), .ld true 4 (.t 2)⟩,
 ⟨some 29, some (27, false), .call 42 [(1, (.t 28))]⟩,
 ⟨some 30, some (27, false), .ld true 4 (.t 3)⟩,
 ⟨some 31, some (27, false), .call 42 [(1, (.t 30))]⟩,
 ⟨some 32, some (27, false), .call 62 [(1, (.t 29)), (1, (.t 31))]⟩,
 ⟨some 33, some (27, false), .bin .lss (.t 32) (.k (.i .i64 0))⟩,
 qr 34 (.pick (.t 27) (.k (.b true)) (.t 33)),
 qm 20 34])
 (.cond (.t 20)
 (.seq (.reg [qr 4 (.mv (.k (.i .i64 (-1)))),
 qr 5 (.mv (.k (.i .i64 0)))])
 (.ret))
 (.skip))))))
 (.seq (.reg [qr 4 (.mv (.k (.i .i64 1))),
 qr 5 (.mv (.k (.i .i64 0)))])
 (.ret)))))
theorem rccmp_spec (s t : Bool) (a b : List Nat) (k j m : Nat) (p q : Bool) (hk : k ≤ 1048576) (hj : j ≤ 1048576) (ha : Wd a) (hb : Wd b) (la : a.length ≤ m) (lb : b.length ≤ m) (hm : 20000 ≤ m) (hm1 : m ≤ 2000000) :
    AFun Tryz.prog J0 21 [cL s a (k : Int) p, cL t b (j : Int) q] (.t [.i .i64 (cpV (cq (loQ (hiN (zv s a) p) k) (loQ (zv t b) j)) (cq (loQ (zv s a) k) (loQ (hiN (zv t b) q) j)) (!p || !q)), .i .i64 0]) := by
  have e1 := rccheck_spec s a (k : Int) p
  have e2 := rccheck_spec t b (j : Int) q
  rw [ckE_0 (by omega) (by omega)] at e1 e2
  have e3 := rfirst2_spec 0 0
  rw [show fst2 0 0 = 0 from rfl] at e3
  have c1 := rmeet_spec s t a b k j m p q hk hj ha hb la lb hm hm1
  obtain ⟨h1, g1⟩ := rlow_spec s a k m p hk ha la hm (by omega)
  obtain ⟨h2, g2⟩ := rhigh_spec s a k m p hk ha la hm (by omega)
  obtain ⟨h3, g3⟩ := rlow_spec t b j m q hj hb lb hm (by omega)
  obtain ⟨h4, g4⟩ := rhigh_spec t b j m q hj hb lb hm (by omega)
  have o1 := rOrderR g1 g3 (by omega)
  have o2 := rOrderR g2 g4 (by omega)
  obtain ⟨x, hx⟩ : ∃ x, x = cpV (cq (loQ (hiN (zv s a) p) k) (loQ (zv t b) j)) (cq (loQ (zv s a) k) (loQ (hiN (zv t b) q) j)) (!p || !q) := ⟨_, rfl⟩
  rw [← hx]
  rw [cmp_law p q _ _ _ _ (cell_ends (z := zv s a) (p := p) (k := k)) (cell_ends (z := zv t b) (p := q) (k := j))] at hx
  clear g1 g2 g3 g4
  generalize meetV p q (loQ (zv s a) k) (loQ (hiN (zv s a) p) k) (loQ (zv t b) j) (loQ (hiN (zv t b) q) j) = mt at *
  generalize cq (loQ (zv s a) k) (loQ (zv t b) j) = x1 at *
  generalize cq (loQ (hiN (zv s a) p) k) (loQ (hiN (zv t b) q) j) = x2 at *
  generalize loQ (zv s a) k = La at *
  generalize loQ (hiN (zv s a) p) k = Ha at *
  generalize loQ (zv t b) j = Lb at *
  generalize loQ (hiN (zv t b) q) j = Hb at *
  generalize (k : Int) = kk at *
  generalize (j : Int) = jj at *
  cases mt
  · simp only [Bool.false_eq_true, if_false] at hx
    by_cases g : x1 < 0
    · rw [if_pos (.inl g)] at hx
      refine mkQ fol J0s Tryz.func21 a21 ?_
      unfold a21
      simp only [init_eq, initE, qm, qr, qn]
      exact wdQ (ai @hx (ai @g @bz_C4))
    · by_cases g' : x2 < 0
      · rw [if_pos (.inr g')] at hx
        refine mkQ fol J0s Tryz.func21 a21 ?_
        unfold a21
        simp only [init_eq, initE, qm, qr, qn]
        have zc3 := h2
        exact wdQ (ai @hx (ai @g' (ai @g @bz_C4)))
      · rw [if_neg (by omega)] at hx
        refine mkQ fol J0s Tryz.func21 a21 ?_
        unfold a21
        simp only [init_eq, initE, qm, qr, qn]
        have zc4 := h2
        exact wdQ (ai @hx (ai @g' (ai @g @bz_C4)))
  · replace hx : x = 0 := hx
    refine mkQ fol J0s Tryz.func21 a21 ?_
    unfold a21
    simp only [init_eq, initE, qm, qr, qn]
    exact wdQ (ai @hx @bz_C4)
theorem rccmpE_spec (s t : Bool) (a b : List Nat) (k j : Int) (p q : Bool) (h : ck2 k j ≠ 0) : AFun Tryz.prog J0 21 [cL s a k p, cL t b j q] (.t [.i .i64 0, .i .i64 (ck2 k j)]) := by
  have e1 := rccheck_spec s a k p
  have e2 := rccheck_spec t b j q
  have e3 := rfirst2_spec (ckE k) (ckE j)
  rw [fst2_ck] at e3
  generalize ck2 k j = e at *
  generalize ckE k = x at *
  generalize ckE j = y at *
  refine mkQ fol J0s Tryz.func21 a21 ?_
  unfold a21
  simp only [init_eq, initE, qm, qr, qn]
  exact wdQ (ai @h @bz_C4)
def a67 : AC := .seq (.reg [qr 2 (.bx 27 (.t 0)),
 qr 3 (.bx 27 (.t 1)),
 qr 4 (.mv (.k (.b false)))])
 (.seq (.dreg [qr 5 (.ld true 4 (.t 2)),
 qr 6 (.call 41 [(1, (.t 5))]),
 qr 7 (.ld true 4 (.t 3)),
 qr 8 (.call 42 [(1, (.t 7))]),
 qr 9 (.call 62 [(1, (.t 6)), (1, (.t 8))]),
 qr 10 (.bin .leq (.t 9) (.k (.i .i64 0))),
 qm 11 10,
 ⟨some 12, some (11, true), .ld true 4 (.t 3)⟩,
 ⟨some 13, some (11, true), .call 41 [(1, (.t 12))]⟩,
 ⟨some 14, some (11, true), .ld true 4 (.t 2)⟩,
 ⟨some 15, some (11, true), .call 42 [(1, (.t 14))]⟩,
 ⟨some 16, some (11, true), .call 62 [(1, (.t 13)), (1, (.t 15))]⟩,
 ⟨some 17, some (11, true), .bin .leq (.t 16) (.k (.i .i64 0))⟩,
 qr 18 (.pick (.t 11) (.t 17) (.k (.b false))),
 qm 4 18])
 (.ret))
theorem rtouches_spec (s t : Bool) (a b : List Nat) (k j m : Nat) (p q : Bool) (hk : k ≤ 1048576) (hj : j ≤ 1048576) (ha : Wd a) (hb : Wd b) (la : a.length ≤ m) (lb : b.length ≤ m) (hm : 20000 ≤ m) (hm1 : m ≤ 2000000) :
    AFun Tryz.prog J0 67 [cL s a (k : Int) p, cL t b (j : Int) q] (.b (decide (0 ≤ cq (loQ (hiN (zv s a) p) k) (loQ (zv t b) j)) && decide (cq (loQ (zv s a) k) (loQ (hiN (zv t b) q) j) ≤ 0))) := by
  obtain ⟨h1, g1⟩ := rlow_spec s a k m p hk ha la hm (by omega)
  obtain ⟨h2, g2⟩ := rhigh_spec s a k m p hk ha la hm (by omega)
  obtain ⟨h3, g3⟩ := rlow_spec t b j m q hj hb lb hm (by omega)
  obtain ⟨h4, g4⟩ := rhigh_spec t b j m q hj hb lb hm (by omega)
  have o1 := rOrderR (Rr_up g1 (Nat.le_succ m)) g4 (by omega)
  have o2 := rOrderR (Rr_up g3 (Nat.le_succ m)) g2 (by omega)
  rw [cq_anti (loQ (hiN (zv s a) p) k) (loQ (zv t b) j)] at o2
  obtain ⟨x, hx⟩ : ∃ x, x = (decide (0 ≤ cq (loQ (hiN (zv s a) p) k) (loQ (zv t b) j)) && decide (cq (loQ (zv s a) k) (loQ (hiN (zv t b) q) j) ≤ 0)) := ⟨_, rfl⟩
  rw [← hx]
  rw [Bool.and_comm, show decide (0 ≤ cq (loQ (hiN (zv s a) p) k) (loQ (zv t b) j)) = decide (-(cq (loQ (hiN (zv s a) p) k) (loQ (zv t b) j)) ≤ 0) from decide_eq_decide.2 ⟨fun h => by omega, fun h => by omega⟩] at hx
  clear g1 g2 g3 g4
  generalize cq (loQ (zv s a) k) (loQ (hiN (zv t b) q) j) = x1 at *
  generalize -(cq (loQ (hiN (zv s a) p) k) (loQ (zv t b) j)) = x2 at *
  generalize loQ (zv s a) k = La at *
  generalize loQ (hiN (zv s a) p) k = Ha at *
  generalize loQ (zv t b) j = Lb at *
  generalize loQ (hiN (zv t b) q) j = Hb at *
  generalize (k : Int) = kk at *
  generalize (j : Int) = jj at *
  by_cases g : x1 ≤ 0
  · rw [decide_eq_true g, Bool.true_and] at hx
    refine mkQ fol J0s Tryz.func67 a67 ?_
    unfold a67
    simp only [init_eq, initE, qm, qr, qn]
    have zc5 := h2
    exact wdQ (ai @hx (ai @g @bz_C4))
  · rw [decide_eq_false g, Bool.false_and] at hx
    refine mkQ fol J0s Tryz.func67 a67 ?_
    unfold a67
    simp only [init_eq, initE, qm, qr, qn]
    exact wdQ (ai @hx (ai @g @bz_C4))
end Go.Proofs.YtbfoplcpgpienaaGreatDoor
