/-
  surdref23: pairs of integers of any length.
-/
import Derived.Test.YteaiegppmbcibaaG8
namespace Go.Proofs.Yteaiegppmbcibaa
open Go Go.RowKit Ab
set_option linter.unusedSimpArgs false
set_option linter.unusedVariables false
set_option maxHeartbeats 10000000
theorem bz_R23a : type_of% (And.intro @W_len (And.intro @D_len (And.intro @Nat.div_one (And.intro @Nat.mul_one (And.intro @tn_nat (And.intro @W_nf (And.intro @D_nf (And.intro @W_nil (And.intro @D_nil (And.intro @wi (And.intro @nf_g (And.intro @Bool.false_and (And.intro @W_cell (And.intro @ZC_cell (@ZC_nil))))))))))))))) := And.intro @W_len (And.intro @D_len (And.intro @Nat.div_one (And.intro @Nat.mul_one (And.intro @tn_nat (And.intro @W_nf (And.intro @D_nf (And.intro @W_nil (And.intro @D_nil (And.intro @wi (And.intro @nf_g (And.intro @Bool.false_and (And.intro @W_cell (And.intro @ZC_cell (@ZC_nil))))))))))))))
abbrev LZ (a b : Int) : V := .g [.b (decide (a < 0)), .l 1 (W (dg B a.natAbs)), .b (decide (b < 0)), .l 1 (W (dg B b.natAbs))]
abbrev LV (z : GZ) : V := LZ z.1 z.2
def ZB (z : GZ) (m : Nat) : Prop := z.1.natAbs < B ^ m ∧ z.2.natAbs < B ^ m
theorem BW1 {n : Nat} (h : n < 18446744073709551616) : n < B ^ 1 := by rw [Nat.pow_one]; exact h
theorem ZB_small {z : GZ} (h : gsz z < SM) : ZB z 1 := by
  unfold gsz at h; simp only [SM] at h
  exact ⟨BW1 (by omega), BW1 (by omega)⟩
theorem ZB_pi {z : GZ} (h : Pi z.1 ∧ Pi z.2) : ZB z 1 := by unfold Pi at h; exact ⟨BW1 (by omega), BW1 (by omega)⟩
def a40 : AC := .seq (.reg [qr 2 (.al 58 [(.b false), (.l 1 [])])])
 (.seq (.seq (.reg [qm 3 0,
 qr 4 (.bin .lss (.t 3) (.k (.i .i64 0)))])
 (.cond (.t 4)
 (.seq (.reg [qm 5 0,
 qr 6 (.bin .add (.t 5) (.k (.i .i64 1))),
 qr 7 (.un .neg (.t 6)),
 qr 8 (.call 28 [(1, (.t 7))]),
 qr 9 (.call 28 [(1, (.k (.i .i64 1)))]),
 qr 10 (.call 29 [(1, (.t 8)), (1, (.t 9))]),
 qr 11 (.call 39 [(1, (.k (.b true))), (1, (.t 10))]),
 qn (.st 2 (.t 2) (.t 11))])
 (.ret))
 (.skip)))
 (.seq (.reg [qm 12 0,
 qr 13 (.call 28 [(1, (.t 12))]),
 qr 14 (.call 39 [(1, (.k (.b false))), (1, (.t 13))]),
 qn (.st 2 (.t 2) (.t 14))])
 (.ret)))
theorem part_spec (n : Int) (h : Pi n) : AFun Try.prog J0 40 [.i .i64 n] (zN n) := by
  obtain ⟨h1, h2⟩ := h
  by_cases hn : n < 0
  · obtain ⟨k, hk⟩ : ∃ k : Nat, n = -((k : Int) + 1) := ⟨(-(n + 1)).toNat, by omega⟩
    have p1 := (hword_spec k (by omega)).frozen
    have p2 := (hword_spec 1 (by decide)).frozen
    have p3 := (haddN (u := k) (v := 1) (m := 1) (BW1 (by omega)) (BW1 (by omega)) (by decide)).frozen
    have p4 := hID true (n := k + 1) (m := 1) (BW1 (by omega)) (by decide)
    rw [show zI true (k + 1) = n from by unfold zI; rw [hk]; simp] at p4
    have w1 : IntKind.i64.wrap (n + 1) = n + 1 := wi (by omega)
    have w2 : IntKind.i64.wrap (0 - (n + 1)) = (k : Int) := by rw [wi (by omega)]; omega
    have e1 : zN n = .g [.b true, .l 1 (W (dg B n.natAbs))] := by show V.g [.b (decide (n < 0)), _] = _; rw [decide_eq_true hn]
    rw [e1] at p4 ⊢
    generalize W (dg B n.natAbs) = c at *
    refine mkcQ fol J0s Try.func40 a40 [.c 2 true 2] ?_
    unfold a40
    simp only [init_eq, initE, qm, qr, qn]
    exact wcQ (ai @w2 (ai @w1 (ai @hn @bz_R23a)))
  · obtain ⟨k, rfl⟩ : ∃ k : Nat, n = (k : Int) := ⟨n.toNat, by omega⟩
    have p1 := (hword_spec k (by omega)).frozen
    have p4 := hID false (n := k) (m := 1) (BW1 (by omega)) (by decide)
    rw [show zI false k = (k : Int) from rfl] at p4
    have e1 : zN (k : Int) = .g [.b false, .l 1 (W (dg B (k : Int).natAbs))] := by show V.g [.b (decide ((k : Int) < 0)), _] = _; rw [decide_eq_false hn]
    rw [e1] at p4 ⊢
    generalize W (dg B (k : Int).natAbs) = c at *
    refine mkcQ fol J0s Try.func40 a40 [.c 2 true 2] ?_
    unfold a40
    simp only [init_eq, initE, qm, qr, qn]
    exact wcQ (ai @hn @bz_R23a)
def a25 : AC := .seq (.reg [qr 1 (.bx 40 (.t 0)),
 qr 2 (.al 73 [(.b false), (.l 1 []), (.b false), (.l 1 [])])])
 (.seq (.dreg [qr 3 (.fad 0 (.t 1)),
 qr 4 (.ld false 1 (.t 3)),
 qr 5 (.call 40 [(1, (.t 4))]),
 qr 6 (.fad 1 (.t 1)),
 qr 7 (.ld false 1 (.t 6)),
 qr 8 (.call 40 [(1, (.t 7))]),
 qr 9 (.bld [(.b false), (.l 1 []), (.b false), (.l 1 [])] [(0, 2, (.t 5)), (2, 2, (.t 8))]),
 qn (.st 4 (.t 2) (.t 9))])
 (.ret))
theorem of23_spec (z : GZ) (h : Pi z.1 ∧ Pi z.2) : AFun Try.prog J0 25 [nV z] (LV z) := by
  have p1 := part_spec z.1 h.1
  have p2 := part_spec z.2 h.2
  simp only [nV, LV, LZ]
  refine mkcQ fol J0s Try.func25 a25 [.c 2 true 4] ?_
  unfold a25
  simp only [init_eq, initE, qm, qr, qn]
  exact wcQ @bz_R23a
def a24 : AC := .seq (.reg [qr 1 (.bx 73 (.t 0)),
 qr 2 (.mv (.k .nl))])
 (.seq (.reg [qr 3 (.fad 0 (.t 1)),
 qr 4 (.fad 1 (.t 3)),
 qr 5 (.ld false 1 (.t 4)),
 qr 6 (.fad 2 (.t 1)),
 qr 7 (.fad 1 (.t 6)),
 qr 8 (.ld false 1 (.t 7)),
 qr 9 (.call 29 [(1, (.t 5)), (1, (.t 8))]),
 qm 2 9])
 (.ret))
theorem size23_spec (z : GZ) (m : Nat) (hm : m ≤ 100000000) (h : ZB z m) : AFun Try.prog J0 24 [LV z] (.l 1 (W (dg B (gsz z)))) := by
  have p1 := (haddN h.1 h.2 hm).frozen
  simp only [LV, LZ]
  unfold gsz
  refine mkQ fol J0s Try.func24 a24 ?_
  unfold a24
  simp only [init_eq, initE, qm, qr, qn]
  exact wdQ @bz_R23a
def a26 : AC := .seq (.reg [qr 2 (.mv (.k (.b false)))])
 (.seq (.reg [qm 3 0,
 qr 4 (.call 28 [(1, (.k (.i .i64 1125899906842624)))]),
 qr 5 (.call 41 [(1, (.t 3)), (1, (.t 4))]),
 qr 6 (.bin .lss (.t 5) (.k (.i .i64 0))),
 qm 2 6])
 (.ret))
theorem small23_spec (u m : Nat) (hm : m ≤ 100000000) (h1 : 1 ≤ m) (h : u < B ^ m) : AFun Try.prog J0 26 [.l 1 (W (dg B u))] (.b (decide (u < SM))) := by
  have p1 := (hword_spec SM (by decide)).frozen
  have p2 := hcmpN h (v := SM) (Nat.lt_of_lt_of_le (BW1 (by decide)) (Nat.pow_le_pow_right (by decide) h1)) hm
  have hs : (sg u SM < 0) = (u < SM) := by
    unfold sg; split
    · rename_i h; simp [h]
    · rename_i h; split <;> simp [h]
  rw [show ((SM : Nat) : Int) = 1125899906842624 from rfl] at p1
  generalize sg u SM = s at *
  refine mkQ fol J0s Try.func26 a26 ?_
  unfold a26
  simp only [init_eq, initE, qm, qr, qn]
  exact wdQ (ai @hs @bz_R23a)
def a51 : AC := .seq (.reg [qr 1 (.bx 58 (.t 0)),
 qr 2 (.mv (.k (.i .i64 0)))])
 (.seq (.reg [qr 3 (.mv (.k (.i .i64 0)))])
 (.seq (.seq (.reg [qr 5 (.fad 1 (.t 1)),
 qr 6 (.ld false 1 (.t 5)),
 qr 7 (.len (.t 6)),
 qr 8 (.bin .sub (.t 7) (.k (.i .i64 1))),
 qm 4 8])
 (.blk 0
 (.loop
 (.seq (.seq (.reg [qm 9 4,
 qr 10 (.bin .geq (.t 9) (.k (.i .i64 0)))])
 (.cond (.t 10)
 (.skip)
 (.exit 0)))
 (.seq (.blk 1
 (.reg [qr 13 (.fad 1 (.t 1)),
 qr 14 (.ld false 1 (.t 13)),
 qm 15 4,
 qr 16 (.idx 1 (.t 14) (.t 15)),
 qr 17 (.ld false 1 (.t 16)),
 qr 18 (.cvt .i64 (.t 17)),
 qm 3 18]))
 (.reg [qm 11 4,
 qr 12 (.bin .sub (.t 11) (.k (.i .i64 1))),
 qm 4 12]))))))
 (.seq (.seq (.reg [qr 19 (.fad 0 (.t 1)),
 qr 20 (.ld false 1 (.t 19))])
 (.cond (.t 20)
 (.seq (.reg [qm 21 3,
 qr 22 (.un .neg (.t 21)),
 qm 2 22])
 (.ret))
 (.skip)))
 (.seq (.reg [qm 23 3,
 qm 2 23])
 (.ret)))))
theorem plain_spec (c : Int) (h : c.natAbs < 9223372036854775808) : AFun Try.prog J0 51 [zN c] (.i .i64 c) := by
  obtain ⟨s, hs⟩ : ∃ s, s = decide (c < 0) := ⟨_, rfl⟩
  obtain ⟨u, hu⟩ : ∃ u, u = c.natAbs := ⟨_, rfl⟩
  show AFun Try.prog J0 51 [.g [.b (decide (c < 0)), .l 1 (W (dg B c.natAbs))]] (.i .i64 c)
  rw [← hs, ← hu]
  obtain ⟨L, hL⟩ : ∃ L, L = (dg B u).length := ⟨_, rfl⟩
  have hL1 : L ≤ 1 := by rw [hL]; exact dlen (BW1 (by omega))
  have hLu : L = 0 → u = 0 := fun h => (dg_nil B2).1 (List.eq_nil_of_length_eq_zero (by omega))
  have hg : L = 1 → (dg B u).getD 0 0 = u := fun h => by
    rcases Nat.eq_zero_or_pos u with h0 | h0
    · rw [h0, dg_zero] at hL; simp at hL; omega
    · rw [dg_one h0 (by show u < 18446744073709551616; omega)]; rfl
  generalize dg B u = d at *
  have wu1 : IntKind.i64.wrap (u : Int) = (u : Int) := wi (by omega)
  refine mkQ fol J0s Try.func51 a51 ?_
  unfold a51
  simp only [init_eq, initE, qm, qr, qn]
  repeat first
    | (refine hK _ ?_; clear hK K)
    | ((first | refine vm_reg (fun K hK => ?_) | refine vm_dreg (fun K hK => ?_) | refine vm_dregx (fun K hK => ?_)); simp (disch := (first | omega | assumption)) only [S1, ↓reduceIte, Nat.reduceEqDiff, Nat.reduceAdd, Nat.reduceMul, Nat.reduceDiv, AOp.sb, AOp.mut, frzf, ↓Bool.false_eq_true, beq_self_eq_true, ite_self, Nat.reduceLeDiff, Int.reduceEq, Int.reduceSub, Int.reduceAdd, Int.reduceNeg, Int.reduceLT, Int.reduceLE, Nat.reduceLT, bz_R23a, ← hL]; refine hK _ ?_; clear hK K)
    | simp only [Sv, ↓reduceIte, Nat.reduceEqDiff]
  refine vm_loopA [] Nat (fun k => ⟨[(1, .pt 0 0), (3, .i .i64 ((if k = L then 0 else u : Nat) : Int)), (4, .i .i64 ((k : Int) - 1))], [(0, some ⟨58, 2, [.b s, .l 1 (W d)], true, true⟩)], 1⟩)
    (fun k => k ≤ L) (fun k => k) L (Nat.le_refl _) (by exact leQ) (by
    exact ltQ) ?_
  intro k hk Q' hQ he hr
  have e1 : (if 0 = L then 0 else u) = u := by split; (rename_i h; exact (hLu h.symm).symm); rfl
  by_cases h0 : (0 : Int) ≤ (k : Int) - 1
  · obtain rfl : k = 1 := by omega
    have hg1 := hg (by omega)
    have hw := W_get d 0 (by omega)
    rw [hg1] at hw
    have e0 : ((1 : Nat) : Int) - 1 = 0 := rfl
    simp only [e0]
    repeat first
      | (refine hK _ ?_; clear hK K)
      | ((first | refine vm_reg (fun K hK => ?_) | refine vm_dreg (fun K hK => ?_) | refine vm_dregx (fun K hK => ?_)); simp (disch := (first | omega | assumption)) only [S1, ↓reduceIte, Nat.reduceEqDiff, Nat.reduceAdd, Nat.reduceMul, Nat.reduceDiv, AOp.sb, AOp.mut, frzf, ↓Bool.false_eq_true, beq_self_eq_true, ite_self, Nat.reduceLeDiff, Int.reduceEq, Int.reduceSub, Int.reduceAdd, Int.reduceNeg, Int.reduceLT, Int.reduceLE, Nat.reduceLT, bz_R23a, ← hL, Int.toNat_zero, hw, wu1]; refine hK _ ?_; clear hK K)
      | simp only [Sv, ↓reduceIte, Nat.reduceEqDiff]
    refine hQ _ 0 (by omega) (by omega) ?_
    simp (disch := (first | omega | assumption)) only [Sl, Sa, Sw, ↓reduceIte, Nat.reduceEqDiff, Nat.reduceLT, List.all_nil, List.all_cons, Nat.reduceBneDiff, Nat.reduceAdd, bne_iff_ne, ne_eq, reduceCtorEq, not_false_eq_true, not_true_eq_false, Bool.and_true, Bool.true_and, and_true, true_and, and_self, i_eq]
    rw [e1]
    repeat' first | rfl | omega | (simp only [List.length_append, List.length_cons, List.length_nil]; done) | apply And.intro
  · obtain rfl : k = 0 := by omega
    rw [e1]
    refine spQ (ai @h0 @bz_R23a) ?_
    refine he _ _ ?_
    cases s with
    | true =>
      have hc : c < 0 := of_decide_eq_true hs.symm
      have w2 : IntKind.i64.wrap (0 - (u : Int)) = c := by rw [wi (by omega), hu]; omega
      refine spQ (ai @w2 @bz_R23a) ?_
      exact rtQ @bz_R23a
    | false =>
      have hc : ¬ c < 0 := of_decide_eq_false hs.symm
      have w2 : (u : Int) = c := by rw [hu]; omega
      refine spQ @bz_R23a ?_
      exact rtQ (ai @w2 @bz_R23a)
def a33 : AC := .seq (.reg [qr 1 (.bx 73 (.t 0)),
 qr 2 (.al 40 [(.i .i64 0), (.i .i64 0)])])
 (.seq (.dreg [qr 3 (.fad 0 (.t 1)),
 qr 4 (.ld true 2 (.t 3)),
 qr 5 (.call 51 [(1, (.t 4))]),
 qr 6 (.fad 2 (.t 1)),
 qr 7 (.ld true 2 (.t 6)),
 qr 8 (.call 51 [(1, (.t 7))]),
 qr 9 (.bld [(.i .i64 0), (.i .i64 0)] [(0, 1, (.t 5)), (1, 1, (.t 8))]),
 qn (.st 2 (.t 2) (.t 9))])
 (.ret))
theorem num23_spec (z : GZ) (h : z.1.natAbs < 9223372036854775808 ∧ z.2.natAbs < 9223372036854775808) : AFun Try.prog J0 33 [LV z] (nV z) := by
  have p1 := plain_spec z.1 h.1
  have p2 := plain_spec z.2 h.2
  simp only [nV, LV, LZ]
  refine mkcQ fol J0s Try.func33 a33 [.c 2 true 2] ?_
  unfold a33
  simp only [init_eq, initE, qm, qr, qn]
  exact wcQ @bz_R23a
def a31 : AC := .seq (.reg [qr 2 (.bx 73 (.t 0)),
 qr 3 (.bx 73 (.t 1)),
 qr 4 (.al 73 [(.b false), (.l 1 []), (.b false), (.l 1 [])])])
 (.seq (.dreg [qr 5 (.fad 0 (.t 2)),
 qr 6 (.ld true 2 (.t 5)),
 qr 7 (.fad 0 (.t 3)),
 qr 8 (.ld true 2 (.t 7)),
 qr 9 (.call 48 [(1, (.t 6)), (1, (.t 8))]),
 qr 10 (.fad 2 (.t 2)),
 qr 11 (.ld true 2 (.t 10)),
 qr 12 (.fad 2 (.t 3)),
 qr 13 (.ld true 2 (.t 12)),
 qr 14 (.call 48 [(1, (.t 11)), (1, (.t 13))]),
 qr 15 (.bld [(.b false), (.l 1 []), (.b false), (.l 1 [])] [(0, 2, (.t 9)), (2, 2, (.t 14))]),
 qn (.st 4 (.t 4) (.t 15))])
 (.ret))
theorem add23_spec (x y : GZ) (m : Nat) (hm : m ≤ 100000000) (hx : ZB x m) (hy : ZB y m) : AFun Try.prog J0 31 [LV x, LV y] (LV (gadd x y)) := by
  have p1 := haddZ hx.1 hy.1 hm
  have p2 := haddZ hx.2 hy.2 hm
  show AFun Try.prog J0 31 [LV x, LV y] (LZ (x.1 + y.1) (x.2 + y.2))
  generalize x.1 + y.1 = a at *
  generalize x.2 + y.2 = b at *
  simp only [LV, LZ]
  refine mkcQ fol J0s Try.func31 a31 [.c 4 true 4] ?_
  unfold a31
  simp only [init_eq, initE, qm, qr, qn]
  exact wcQ @bz_R23a
theorem zprod {a b : Int} {m : Nat} (ha : a.natAbs < B ^ m) (hb : b.natAbs < B ^ m) : (a * b).natAbs < B ^ (m + m) := by
  rw [Int.natAbs_mul, Nat.pow_add]; exact Nat.mul_lt_mul_of_lt_of_lt ha hb
def a32 : AC := .seq (.reg [qr 2 (.bx 73 (.t 0)),
 qr 3 (.bx 73 (.t 1)),
 qr 4 (.al 73 [(.b false), (.l 1 []), (.b false), (.l 1 [])])])
 (.seq (.dreg [qr 5 (.fad 0 (.t 2)),
 qr 6 (.ld true 2 (.t 5)),
 qr 7 (.fad 0 (.t 3)),
 qr 8 (.ld true 2 (.t 7)),
 qr 9 (.call 50 [(1, (.t 6)), (1, (.t 8))]),
 qr 10 (.fad 2 (.t 2)),
 qr 11 (.ld true 2 (.t 10)),
 qr 12 (.fad 2 (.t 3)),
 qr 13 (.ld true 2 (.t 12)),
 qr 14 (.call 50 [(1, (.t 11)), (1, (.t 13))]),
 qr 15 (.call 49 [(1, (.t 9)), (1, (.t 14))]),
 qr 16 (.fad 0 (.t 2)),
 qr 17 (.ld true 2 (.t 16)),
 qr 18 (.fad 2 (.t 3)),
 qr 19 (.ld true 2 (.t 18)),
 qr 20 (.call 50 [(1, (.t 17)), (1, (.t 19))]),
 qr 21 (.fad 2 (.t 2)),
 qr 22 (.ld true 2 (.t 21)),
 qr 23 (.fad 0 (.t 3)),
 qr 24 (.ld true 2 (.t 23)),
 qr 25 (.call 50 [(1, (.t 22)), (1, (.t 24))]),
 qr 26 (.call 48 [(1, (.t 20)), (1, (.t 25))]),
 qr 27 (.bld [(.b false), (.l 1 []), (.b false), (.l 1 [])] [(0, 2, (.t 15)), (2, 2, (.t 26))]),
 qn (.st 4 (.t 4) (.t 27))])
 (.ret))
theorem mul23_spec (x y : GZ) (m : Nat) (hm : m ≤ 10000000) (hx : ZB x m) (hy : ZB y m) : AFun Try.prog J0 32 [LV x, LV y] (LV (gmul x y)) := by
  have p1 := hmulZ hx.1 hy.1 (by omega)
  have p2 := hmulZ hx.2 hy.2 (by omega)
  have p3 := hmulZ hx.1 hy.2 (by omega)
  have p4 := hmulZ hx.2 hy.1 (by omega)
  have p5 := hsubZ (zprod hx.1 hy.1) (zprod hx.2 hy.2) (by omega)
  have p6 := haddZ (zprod hx.1 hy.2) (zprod hx.2 hy.1) (by omega)
  show AFun Try.prog J0 32 [LV x, LV y] (LZ (x.1 * y.1 - x.2 * y.2) (x.1 * y.2 + x.2 * y.1))
  generalize x.1 * y.1 = a at *
  generalize x.2 * y.2 = b at *
  generalize x.1 * y.2 = c at *
  generalize x.2 * y.1 = d at *
  generalize a - b = e at *
  generalize c + d = f at *
  simp only [LV, LZ]
  refine mkcQ fol J0s Try.func32 a32 [.c 4 true 4] ?_
  unfold a32
  simp only [init_eq, initE, qm, qr, qn]
  exact wcQ @bz_R23a
end Go.Proofs.Yteaiegppmbcibaa
