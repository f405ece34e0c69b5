/-
  evals: values; lines.
-/
import Derived.Test.YtbkpaeejjepnpaaGreatVP0
namespace Go.Proofs.YtbkpaeejjepnpaaGreat
open Go Go.RowKit Ab
set_option linter.unusedSimpArgs false
set_option linter.unusedVariables false
set_option maxHeartbeats 10000000
theorem bz_VP1 : type_of% (And.intro @W_len (And.intro @D_len (And.intro @Nat.div_one (And.intro @Nat.mul_one (And.intro @tn_nat (And.intro @W_nf (And.intro @D_nf (And.intro @W_nil (And.intro @D_nil (And.intro @wi (And.intro @nf_g (And.intro @Bool.false_and (And.intro @W_cell (@RC_nf)))))))))))))) := And.intro @W_len (And.intro @D_len (And.intro @Nat.div_one (And.intro @Nat.mul_one (And.intro @tn_nat (And.intro @W_nf (And.intro @D_nf (And.intro @W_nil (And.intro @D_nil (And.intro @wi (And.intro @nf_g (And.intro @Bool.false_and (And.intro @W_cell (@RC_nf)))))))))))))
def a80 : AC := .seq (.reg [qr 1 (.bx 31 (.t 0)),
 qr 2 (.mv (.k (.b false)))])
 (.seq (.reg [qr 3 (.ld true 3 (.t 1)),
 qr 4 (.call 41 [(1, (.t 3))]),
 qr 5 (.bin .neq (.t 4) (.k (.i .i64 0))),
 qm 2 5])
 (.ret))
theorem good1_spec (s : Bool) (a d : List Nat) (hd : Wd d) (ld : d.length ≤ 1000000000) (h0 : nv B d ≠ 0) : AFun Tryz.prog J0 80 [rL s a d] (.b false) := by
  have h := qcheck_spec s a d hd ld
  rw [if_neg h0] at h
  refine mkQ fol J0s Tryz.func80 a80 ?_
  unfold a80
  simp only [init_eq, initE, qm, qr, qn]
  exact wdQ @bz_VP1
def a93 : AC := .seq (.reg [qr 4 (.mv (.k (.i .i64 0)))])
 (.seq (.seq (.reg [qm 6 0,
 qr 7 (.len (.t 6)),
 qr 8 (.mv (.k (.i .i64 0)))])
 (.blk 0
 (.loop
 (.seq (.reg [qr 9 (.bin .lss (.t 8) (.t 7))])
 (.seq (.cond (.t 9)
 (.skip)
 (.exit 0))
 (.seq (.blk 1
 (.seq (.reg [qm 10 8,
 qm 5 10])
 (.seq (.reg [qm 11 1,
 qm 12 0,
 qm 13 5,
 qr 14 (.idx 3 (.t 12) (.t 13)),
 qr 15 (.ld true 3 (.t 14)),
 qr 16 (.dcall (.t 11) [(1, (.t 15))])])
 (.cond (.t 16)
 (.seq (.reg [qm 17 5,
 qm 4 17])
 (.ret))
 (.skip)))))
 (.reg [qr 18 (.bin .add (.t 8) (.k (.i .i64 1))),
 qm 8 18])))))))
 (.seq (.reg [qr 4 (.mv (.k (.i .i64 (-1))))])
 (.ret)))
theorem goodI_spec (l : R3) (m : Nat) (hm : m ≤ 1000000000) (ll : l.length ≤ 1000000000) (hp : Qk l m) : AFun Tryz.prog J0 93 [.l 3 (RC l), .c (.func (.func 80) #[] #[])] (.i .i64 (-1)) := by
  have hz := RC_len l
  have hd : l.length * 3 / 3 = l.length := by omega
  refine mkQ fol J0s Tryz.func93 a93 ?_
  unfold a93
  simp only [init_eq, initE, qm, qr, qn]
  refine spQ (ai @hd (ai @hz @bz_VP1)) ?_
  refine vm_loopA [] Nat (fun i => ⟨[(0, .l 3 (RC l)), (1, .c (.func (.func 80) #[] #[])), (7, .i .i64 (l.length : Int)), (8, .i .i64 (i : Int))], [], 0⟩) (fun i => i ≤ l.length) (fun i => l.length - i) 0 (Nat.zero_le _) (by exact leQ) (by
    exact ltQ) ?_
  intro i hi Q' hQ he hr
  by_cases h : (i : Int) < (l.length : Int)
  · have r1 := RC_row l i (by omega)
    change ((RC l).drop (i * 3)).take 3 = [.b (l.getD i nul3).1, .l 1 (W (l.getD i nul3).2.1), .l 1 (W (l.getD i nul3).2.2)] at r1
    obtain ⟨w1, w2, l1, l2, h0⟩ := hp _ (getD_mem (l := l) (i := i) (by omega))
    have h1 := good1_spec (l.getD i nul3).1 (l.getD i nul3).2.1 (l.getD i nul3).2.2 w2 (by omega) h0
    generalize l.getD i nul3 = x at *
    refine wkQ (ai @r1 (ai @hz (ai @h @bz_VP1))) ?_
    refine hQ _ (i + 1) (by omega) (by omega) ?_
    exact ltQ
  · obtain rfl : i = l.length := by omega
    refine spQ (ai @h @bz_VP1) ?_
    refine he _ _ ?_
    refine spQ @bz_VP1 ?_
    exact rtQ @bz_VP1
def a79 : AC := .seq (.reg [qr 4 (.mv (.k (.b false)))])
 (.seq (.reg [qm 5 0,
 qm 6 1,
 qr 7 (.call 93 [(3, (.t 5)), (1, (.t 6))]),
 qr 8 (.bin .geq (.t 7) (.k (.i .i64 0))),
 qm 4 8])
 (.ret))
theorem goodC_spec (l : R3) (m : Nat) (hm : m ≤ 1000000000) (ll : l.length ≤ 1000000000) (hp : Qk l m) : AFun Tryz.prog J0 79 [.l 3 (RC l), .c (.func (.func 80) #[] #[])] (.b false) := by
  have h := goodI_spec l m hm ll hp
  refine mkQ fol J0s Tryz.func79 a79 ?_
  unfold a79
  simp only [init_eq, initE, qm, qr, qn]
  exact wdQ @bz_VP1
def a60 : AC := .seq (.reg [qr 2 (.mv (.k (.b false)))])
 (.seq (.reg [qm 3 0,
 qr 4 (.call 79 [(3, (.t 3)), (1, (.k (.c (.func (.func 80) #[] #[]))))]),
 qr 5 (.un .not (.t 4)),
 qm 2 5])
 (.ret))
theorem good_spec (l : R3) (m : Nat) (hm : m ≤ 1000000000) (ll : l.length ≤ 1000000000) (hp : Qk l m) : AFun Tryz.prog J0 60 [.l 3 (RC l)] (.b true) := by
  have h := goodC_spec l m hm ll hp
  refine mkQ fol J0s Tryz.func60 a60 ?_
  unfold a60
  simp only [init_eq, initE, qm, qr, qn]
  exact wdQ @bz_VP1
def a53 : AC := .seq (.reg [qr 2 (.mv (.k (.b false)))])
 (.seq (.reg [qm 3 0,
 qr 4 (.call 60 [(3, (.t 3))]),
 qm 2 4])
 (.ret))
theorem egood_spec (l : R3) (m : Nat) (hm : m ≤ 1000000000) (ll : l.length ≤ 1000000000) (hp : Qk l m) : AFun Tryz.prog J0 53 [.l 3 (RC l)] (.b true) := by
  have h := good_spec l m hm ll hp
  refine mkQ fol J0s Tryz.func53 a53 ?_
  unfold a53
  simp only [init_eq, initE, qm, qr, qn]
  exact wdQ @bz_VP1
theorem rN_int (n : Int) : rN (n : Rat).num (n : Rat).den = .g [.b (decide (n < 0)), .l 1 (W (dg B n.natAbs)), .l 1 [.i .u64 1]] := by
  show V.g [.b (decide (n < 0)), .l 1 (W (dg B n.natAbs)), .l 1 (W (dg B 1))] = _
  rw [show dg B 1 = [1] from by decide +kernel]; rfl
def a54 : AC := .seq (.reg [qr 2 (.al 31 [(.b false), (.l 1 []), (.l 1 [])])])
 (.seq (.reg [qm 3 0,
 qr 4 (.call 52 [(1, (.t 3))]),
 qr 5 (.bsl 29 1 1 [(.i .u64 0)] [(0, (.k (.i .u64 1)))]),
 qr 6 (.bld [(.b false), (.l 1 []), (.l 1 [])] [(0, 2, (.t 4)), (2, 1, (.t 5))]),
 qn (.st 3 (.t 2) (.t 6))])
 (.ret))
theorem ewhole_spec (n : Int) (h1 : -9223372036854775808 ≤ n) (h2 : n < 9223372036854775808) : AFun Tryz.prog J0 54 [.i .i64 n] (rN (n : Rat).num (n : Rat).den) := by
  have h := zofn_spec n h1 h2
  rw [rN_int]
  refine mkcQ fol J0s Tryz.func54 a54 [.c 2 true 3] ?_
  unfold a54
  simp only [init_eq, initE, qm, qr, qn]
  exact wcQ @bz_VP1
theorem rat_0 : ((0 : Int) : Rat) = 0 := rfl
theorem rat_1 : ((1 : Int) : Rat) = 1 := rfl
def a29 : AC := .seq (.reg [qr 3 (.bx 31 (.t 1)),
 qr 4 (.al 31 [(.b false), (.l 1 []), (.l 1 [])]),
 qr 5 (.mv (.k (.i .i64 0)))])
 (.seq (.seq (.reg [qm 8 0,
 qr 9 (.call 60 [(3, (.t 8))]),
 qr 10 (.un .not (.t 9)),
 qm 11 10,
 ⟨some 12, some (11, false), .ld true 3 (.t 3)⟩,
 ⟨some 13, some (11, false), .call 41 [(1, (.t 12))]⟩,
 ⟨some 14, some (11, false), .bin .neq (.t 13) (.k (.i .i64 0))⟩,
 qr 15 (.pick (.t 11) (.k (.b true)) (.t 14))])
 (.cond (.t 15)
 (.seq (.reg [qr 16 (.bld [(.b false), (.l 1 []), (.l 1 [])] []),
 qn (.st 3 (.t 4) (.t 16)),
 qr 5 (.mv (.k (.i .i64 1)))])
 (.ret))
 (.skip)))
 (.seq (.reg [qr 17 (.call 54 [(1, (.k (.i .i64 0)))]),
 qr 6 (.al 31 [(.b false), (.l 1 []), (.l 1 [])]),
 qn (.st 3 (.t 6) (.t 17))])
 (.seq (.seq (.reg [qm 18 0,
 qr 19 (.len (.t 18)),
 qr 20 (.bin .sub (.t 19) (.k (.i .i64 1))),
 qm 7 20])
 (.blk 0
 (.loop
 (.seq (.seq (.reg [qm 21 7,
 qr 22 (.bin .geq (.t 21) (.k (.i .i64 0)))])
 (.cond (.t 22)
 (.skip)
 (.exit 0)))
 (.seq (.blk 1
 (.seq (.reg [qr 26 (.ld true 3 (.t 6)),
 qr 27 (.ld true 3 (.t 3)),
 qr 28 (.call 44 [(1, (.t 26)), (1, (.t 27))]),
 qm 25 28,
 qr 29 (.ext (.t 25) 0),
 qr 30 (.ext (.t 25) 1),
 qn (.st 3 (.t 6) (.t 29))])
 (.dreg [qr 32 (.ld true 3 (.t 6)),
 qm 33 0,
 qm 34 7,
 qr 35 (.idx 3 (.t 33) (.t 34)),
 qr 36 (.ld true 3 (.t 35)),
 qr 37 (.call 50 [(1, (.t 32)), (1, (.t 36))]),
 qm 31 37,
 qr 38 (.ext (.t 31) 0),
 qr 39 (.ext (.t 31) 1),
 qn (.st 3 (.t 6) (.t 38))])))
 (.reg [qm 23 7,
 qr 24 (.bin .sub (.t 23) (.k (.i .i64 1))),
 qm 7 24]))))))
 (.seq (.reg [qr 40 (.ld true 3 (.t 6)),
 qn (.st 3 (.t 4) (.t 40)),
 qr 5 (.mv (.k (.i .i64 0)))])
 (.ret)))))
theorem eat_spec (l : R3) (s : Bool) (a d : List Nat) (m : Nat) (hm : m ≤ 48000000) (ll : l.length ≤ 1000000) (hl : Qk l m) (ha : Wd a) (hd : Wd d) (la : a.length ≤ m) (ld : d.length ≤ m) (h0 : nv B d ≠ 0) (hsz : Hz (qcs l) (mkRat (zv s a) (nv B d)) m) :
    AFun Tryz.prog J0 29 [.l 3 (RC l), rL s a d] (.t [rN (val (qcs l) (mkRat (zv s a) (nv B d))).num (val (qcs l) (mkRat (zv s a) (nv B d))).den, .i .i64 0]) := by
  have hz := RC_len l
  have hdv : l.length * 3 / 3 = l.length := by omega
  have hcl := qcs_len l
  have g1 := good_spec l m (by omega) (by omega) hl
  have g2 := qcheck_spec s a d hd (by omega)
  rw [if_neg h0] at g2
  have w0 := ewhole_spec 0 (by decide) (by decide)
  rw [rat_0] at w0
  have hx := Rr_raw (s := s) ha hd la ld h0
  have hRr : ∀ i, i < l.length → Rr (rL (l.getD i nul3).1 (l.getD i nul3).2.1 (l.getD i nul3).2.2) ((qcs l).getD i 0) m := fun i hi => Qk_Rr hl hi
  generalize mkRat (zv s a) (nv B d) = x at *
  generalize qcs l = R at *
  have hmul : ∀ k, AFun Tryz.prog J0 44 [rN (val (R.drop k) x).num (val (R.drop k) x).den, rL s a d] (.t [rN (val (R.drop k) x * x).num (val (R.drop k) x * x).den, .i .i64 0]) := fun k => (qmulR (Rr_c (hsz k).1.1 (hsz k).1.2) hx (by omega)).1
  have hadd : ∀ k, k < l.length → AFun Tryz.prog J0 50 [rN (val (R.drop (k + 1)) x * x).num (val (R.drop (k + 1)) x * x).den, rL (l.getD k nul3).1 (l.getD k nul3).2.1 (l.getD k nul3).2.2] (.t [rN (val (R.drop k) x).num (val (R.drop k) x).den, .i .i64 0]) := fun k hk => by
    rw [val_drop (l := R) (x := x) (j := k) (by omega)]
    exact (qaddR (Rr_c (hsz (k + 1)).2.1 (hsz (k + 1)).2.2) (hRr k hk) (by omega)).1
  have hv0 : val (R.drop l.length) x = 0 := by rw [List.drop_eq_nil_of_le (by omega)]; rfl
  have hvn : val R x = val (R.drop 0) x := rfl
  rw [hvn]
  clear hvn hsz hRr hx
  rw [rN_b] at w0
  simp only [rN_b] at hmul hadd ⊢
  refine mkcQ fol J0s Tryz.func29 a29 [.c 4 true 3, .t 5] ?_
  unfold a29
  simp only [init_eq, initE, qm, qr, qn]
  refine wkQ (ai @hdv (ai @hz @bz_VP1)) ?_
  refine vm_loopA [] Nat (fun j => ⟨[(0, .l 3 (RC l)), (3, .pt 0 0), (4, .pt 1 0), (5, .i .i64 0), (6, .pt 2 0), (7, .i .i64 ((j : Int) - 1))],
      [(0, some ⟨31, 3, [.b s, .l 1 (W a), .l 1 (W d)], true, true⟩), (1, some ⟨31, 3, [.b false, .l 1 [], .l 1 []], true, true⟩),
       (2, some ⟨31, 3, [.b (decide ((val (R.drop j) x).num < 0)), .l 1 (W (dg B (val (R.drop j) x).num.natAbs)), .l 1 (W (dg B (val (R.drop j) x).den))], true, true⟩)], 3⟩)
    (fun j => j ≤ l.length) (fun j => j) l.length (Nat.le_refl _) (by exact leQ) (by
    rw [hv0]
    simp (disch := (first | omega | assumption)) only [Sl, Sa, Sw, ↓reduceIte, Nat.reduceEqDiff, Nat.reduceLT, List.all_nil, List.all_cons, Nat.reduceBneDiff, Nat.reduceAdd, bne_iff_ne, ne_eq, reduceCtorEq, not_false_eq_true, not_true_eq_false, Bool.and_true, Bool.true_and, and_true, true_and, and_self, i_eq]
    all_goals rfl) ?_
  intro j hj Q' hQ he hr
  by_cases h : (0 : Int) ≤ (j : Int) - 1
  · obtain ⟨k, rfl⟩ : ∃ k, j = k + 1 := ⟨j - 1, by omega⟩
    have hk : k < l.length := by omega
    have r1 := RC_row l k hk
    change ((RC l).drop (k * 3)).take 3 = [.b (l.getD k nul3).1, .l 1 (W (l.getD k nul3).2.1), .l 1 (W (l.getD k nul3).2.2)] at r1
    have m1 := hmul (k + 1)
    have m2 := hadd k hk
    have hkI : ((k + 1 : Nat) : Int) - 1 = (k : Int) := by omega
    clear hmul hadd hv0
    generalize hA : val (R.drop k) x = va at *
    generalize val (R.drop (k + 1)) x * x = vb at *
    generalize val (R.drop (k + 1)) x = vc at *
    generalize l.getD k nul3 = y at *
    have hk0 : (0 : Int) ≤ (k : Int) := by omega
    refine wkQ (ai @r1 (ai @hz (ai @hk0 (ai @hkI @bz_VP1)))) ?_
    refine hQ _ k (by omega) (by omega) ?_
    rw [hA]
    exact ltQ
  · obtain rfl : j = 0 := by omega
    refine spQ (ai @h @bz_VP1) ?_
    refine he _ _ ?_
    refine spQ @bz_VP1 ?_
    exact rcQ @bz_VP1
theorem qnegR {v : V} {p : Rat} {m : Nat} (hv : Rr v p m) (hm : m ≤ 49000000) : AFun Tryz.prog J0 77 [v] (.t [rN (-p).num (-p).den, .i .i64 0]) := by
  obtain ⟨s, a, d, rfl, ha, hd, la, ld, h0, rfl⟩ := hv
  have h := qneg_spec s a d m (by omega) ha hd la ld
  obtain ⟨e1, e2, e3⟩ := rv_q (m := m) h0 (Rat.neg_mkRat (zv s a) (nv B d)).symm (by rw [Int.natAbs_neg]; exact zv_lt (s := s) ha la) (nvlt hd ld)
  rw [e1, e2] at h
  exact h
def a55 : AC := .seq (.reg [qr 1 (.bx 31 (.t 0)),
 qr 2 (.mv (.k .nl))])
 (.seq (.reg [qr 6 (.ld true 3 (.t 1)),
 qr 7 (.call 77 [(1, (.t 6))]),
 qm 5 7,
 qr 8 (.ext (.t 5) 0),
 qr 9 (.ext (.t 5) 1),
 qr 3 (.al 31 [(.b false), (.l 1 []), (.l 1 [])]),
 qn (.st 3 (.t 3) (.t 8)),
 qm 4 9])
 (.seq (.dreg [qr 10 (.ld true 3 (.t 3)),
 qr 11 (.call 54 [(1, (.k (.i .i64 1)))]),
 qr 12 (.bsl 31 3 2 [(.b false), (.l 1 []), (.l 1 []), (.b false), (.l 1 []), (.l 1 [])] [(0, (.t 10)), (1, (.t 11))]),
 qm 2 12])
 (.ret)))
theorem line_spec (s : Bool) (a d : List Nat) (m : Nat) (hm : m ≤ 49000000) (ha : Wd a) (hd : Wd d) (la : a.length ≤ m) (ld : d.length ≤ m) (h0 : nv B d ≠ 0) : AFun Tryz.prog J0 55 [rL s a d] (.l 3 (RC (nfq [-(mkRat (zv s a) (nv B d)), 1]))) := by
  have h1 := qnegR (Rr_raw (s := s) ha hd la ld h0) hm
  have h2 := ewhole_spec 1 (by decide) (by decide)
  rw [rat_1] at h2
  generalize mkRat (zv s a) (nv B d) = x at *
  rw [show RC (nfq [-x, 1]) = [.b (decide ((-x).num < 0)), .l 1 (W (dg B (-x).num.natAbs)), .l 1 (W (dg B (-x).den)), .b (decide ((1 : Rat).num < 0)), .l 1 (W (dg B (1 : Rat).num.natAbs)), .l 1 (W (dg B (1 : Rat).den))] from rfl]
  rw [rN_b] at h1 h2
  generalize (1 : Rat) = o at *
  refine mkQ fol J0s Tryz.func55 a55 ?_
  unfold a55
  simp only [init_eq, initE, qm, qr, qn]
  exact wdQ @bz_VP1
end Go.Proofs.YtbkpaeejjepnpaaGreat
