/-
  qpoly: out of the integers, derivatives, integrals.
-/
import Derived.Test.YtbkpaeejjepnpaaGreatQP4
namespace Go.Proofs.YtbkpaeejjepnpaaGreat
open Go Go.RowKit Ab
set_option linter.unusedSimpArgs false
set_option linter.unusedVariables false
set_option maxHeartbeats 10000000
theorem bz_QP5 : type_of% (And.intro @W_len (And.intro @D_len (And.intro @Nat.div_one (And.intro @Nat.mul_one (And.intro @tn_nat (And.intro @W_nf (And.intro @D_nf (And.intro @W_nil (And.intro @D_nil (And.intro @wi (And.intro @nf_g (And.intro @Bool.false_and (And.intro @W_cell (And.intro @RC_nf (And.intro @ZC_cell (@ZC_nil)))))))))))))))) := And.intro @W_len (And.intro @D_len (And.intro @Nat.div_one (And.intro @Nat.mul_one (And.intro @tn_nat (And.intro @W_nf (And.intro @D_nf (And.intro @W_nil (And.intro @D_nil (And.intro @wi (And.intro @nf_g (And.intro @Bool.false_and (And.intro @W_cell (And.intro @RC_nf (And.intro @ZC_cell (@ZC_nil)))))))))))))))
def rof (Z : List Int) : List Rat := Z.map fun z : Int => ((z : Int) : Rat)
theorem rof_len (Z : List Int) : (rof Z).length = Z.length := by simp [rof]
theorem rof_get (Z : List Int) (i : Nat) : (rof Z).getD i 0 = ((Z.getD i 0 : Int) : Rat) := by
  unfold rof
  rw [List.getD_eq_getElem?_getD, List.getElem?_map, List.getD_eq_getElem?_getD]
  cases Z[i]? <;> simp
theorem rof_row (z : Int) : [V.b (decide (z < 0)), .l 1 (W (dg B z.natAbs)), .l 1 (W (dg B 1))] = [V.b (decide ((z : Rat).num < 0)), .l 1 (W (dg B (z : Rat).num.natAbs)), .l 1 (W (dg B (z : Rat).den))] := rfl
def a16 : AC := .seq (.reg [qr 2 (.mv (.k .nl))])
 (.seq (.reg [qr 3 (.mv (.k .nl))])
 (.seq (.seq (.reg [qm 6 0,
 qr 7 (.call 45 [(2, (.t 6))]),
 qr 8 (.len (.t 7)),
 qr 9 (.mv (.k (.i .i64 0)))])
 (.blk 0
 (.loop
 (.seq (.reg [qr 10 (.bin .lss (.t 9) (.t 8))])
 (.seq (.cond (.t 10)
 (.skip)
 (.exit 0))
 (.seq (.blk 1
 (.seq (.reg [qr 11 (.idx 2 (.t 7) (.t 9)),
 qr 12 (.ld true 2 (.t 11)),
 qr 5 (.al 27 [(.b false), (.l 1 [])]),
 qn (.st 2 (.t 5) (.t 12))])
 (.dreg [qm 13 3,
 qr 14 (.ld true 2 (.t 5)),
 qr 15 (.call 46 [(1, (.k (.i .u64 1)))]),
 qr 16 (.bld [(.b false), (.l 1 []), (.l 1 [])] [(0, 2, (.t 14)), (2, 1, (.t 15))]),
 qr 17 (.bsl 31 3 1 [(.b false), (.l 1 []), (.l 1 [])] [(0, (.t 16))]),
 qr 18 (.app 31 3 56 (.t 13) (.t 17)),
 qm 3 18])))
 (.reg [qr 19 (.bin .add (.t 9) (.k (.i .i64 1))),
 qm 9 19])))))))
 (.seq (.reg [qm 20 3,
 qm 2 20])
 (.ret))))
theorem pof_spec (Z : List Int) (m : Nat) (hm : m ≤ 49000000) (lZ : Z.length ≤ 100000) (hZ : Cz Z m) : AFun Tryz.prog J0 16 [.l 2 (ZC (nfl Z))] (.l 3 (RC (nfq (rof (tzi Z))))) := by
  have h1 := zpnormN Z m (by omega) (by omega) hZ
  have h2 := (natOf_spec 1 (by decide)).frozen
  have lT := Nat.le_trans (tzi_len Z) lZ
  generalize tzi Z = T at *
  have hz := ZN_len T
  have hd : T.length * 2 / 2 = T.length := by omega
  have hRl := rof_len T
  refine mkQ fol J0s Tryz.func16 a16 ?_
  unfold a16
  simp only [init_eq, initE, qm, qr, qn]
  refine wkQ (ai @hd (ai @hz @bz_QP5)) ?_
  refine vm_loopA [(3, 31, 3)] Nat (fun i => ⟨[(3, .ow 3 0 i), (7, .l 2 (ZC (nfl T))), (8, .i .i64 (T.length : Int)), (9, .i .i64 (i : Int))], [(0, some ⟨31, 3, RC (nfq ((rof T).take i)), true, false⟩)], 1⟩)
    (fun i => i ≤ T.length) (fun i => T.length - i) 0 (Nat.zero_le _) (by exact leQ) (by
    exact ltQ) ?_
  intro i hi Q' hQ he hr
  by_cases h : (i : Int) < (T.length : Int)
  · have r1 := ZN_row T i (by omega)
    have hap := QC_app1 ((rof T).take i) ((rof T).getD i 0)
    rw [← take_snocq (rof T) i (by omega), rof_get, ← rof_row] at hap
    have l0 := QC_len ((rof T).take i)
    have l1 := QC_len ((rof T).take (i + 1))
    rw [List.length_take] at l0 l1
    generalize T.getD i 0 = z at *
    refine wkQ (ai @hap (ai @r1 (ai @hz (ai @h @bz_QP5)))) ?_
    refine hQ _ (i + 1) (by omega) (by omega) ?_
    exact ltQ
  · obtain rfl : i = T.length := by omega
    rw [show (rof T).take T.length = rof T from by rw [← hRl]; exact List.take_length]
    refine spQ (ai @h @bz_QP5) ?_
    refine he _ _ ?_
    refine spQ @bz_QP5 ?_
    exact rtQ @bz_QP5
theorem pqof (n : Int) (k m : Nat) (h1 : -9223372036854775808 ≤ n) (h2 : n < 9223372036854775808) (k1 : 0 < k) (k2 : k < 9223372036854775808) : AFun Tryz.prog J0 23 [.i .i64 n, .i .i64 (k : Int)] (.t [rN (mkRat n k).num (mkRat n k).den, .i .i64 0]) ∧ Rr (rN (mkRat n k).num (mkRat n k).den) (mkRat n k) (m + 1) := by
  have h := qof_spec n (k : Int) h1 h2 (by omega) (by omega)
  have hn : n.natAbs < B ^ 1 := by rw [Nat.pow_one]; show n.natAbs < 18446744073709551616; omega
  have hk : k < B ^ 1 := by rw [Nat.pow_one]; show k < 18446744073709551616; omega
  obtain ⟨e1, e2, e3⟩ := rv_q (m := m + 1) (show k ≠ 0 by omega) rfl (pup hn (by omega)) (pup hk (by omega)) (p := mkRat n k) (z := n)
  rw [show ((k : Int)).natAbs = k from rfl, show mz n (k : Int) = n from if_neg (by omega), e1, e2] at h
  exact ⟨h, e3⟩
def drq (A : List Rat) : List Rat := (List.range (A.length - 1)).map fun i => A.getD (i + 1) 0 * mkRat ((i + 1 : Nat) : Int) 1
theorem drq_len (A : List Rat) : (drq A).length = A.length - 1 := by simp [drq]
theorem drq_get (A : List Rat) (i : Nat) (h : i + 1 < A.length) : (drq A).getD i 0 = A.getD (i + 1) 0 * mkRat ((i + 1 : Nat) : Int) 1 := by
  unfold drq
  rw [List.getD_eq_getElem?_getD, List.getElem?_map, List.getElem?_range (by omega)]; rfl
theorem drq_cf (A : List Rat) (i : Nat) : (drq A).getD i 0 = A.getD (i + 1) 0 * mkRat ((i + 1 : Nat) : Int) 1 := by
  by_cases h : i + 1 < A.length
  · exact drq_get A i h
  · rw [gq0 (by rw [drq_len]; omega), gq0 (l := A) (by omega)]; grind
def a20 : AC := .seq (.reg [qr 2 (.mv (.k .nl)),
 qr 3 (.mv (.k (.i .i64 0)))])
 (.seq (.reg [qm 13 0,
 qr 14 (.call 14 [(3, (.t 13))]),
 qm 12 14,
 qr 15 (.ext (.t 12) 0),
 qr 16 (.ext (.t 12) 1),
 qm 4 15,
 qm 5 16])
 (.seq (.seq (.reg [qm 17 5,
 qr 18 (.bin .neq (.t 17) (.k (.i .i64 0)))])
 (.cond (.t 18)
 (.seq (.reg [qm 19 5,
 qr 2 (.mv (.k .nl)),
 qm 3 19])
 (.ret))
 (.skip)))
 (.seq (.reg [qr 6 (.mv (.k .nl))])
 (.seq (.seq (.reg [qr 7 (.mv (.k (.i .i64 1)))])
 (.blk 0
 (.loop
 (.seq (.seq (.reg [qm 20 7,
 qm 21 4,
 qr 22 (.len (.t 21)),
 qr 23 (.bin .lss (.t 20) (.t 22))])
 (.cond (.t 23)
 (.skip)
 (.exit 0)))
 (.seq (.blk 1
 (.seq (.reg [qm 27 7,
 qr 28 (.call 23 [(1, (.t 27)), (1, (.k (.i .i64 1)))]),
 qm 26 28,
 qr 29 (.ext (.t 26) 0),
 qr 30 (.ext (.t 26) 1),
 qr 8 (.al 31 [(.b false), (.l 1 []), (.l 1 [])]),
 qn (.st 3 (.t 8) (.t 29)),
 qm 9 30])
 (.seq (.dreg [qm 32 4,
 qm 33 7,
 qr 34 (.idx 3 (.t 32) (.t 33)),
 qr 35 (.ld true 3 (.t 34)),
 qr 36 (.ld true 3 (.t 8)),
 qr 37 (.call 44 [(1, (.t 35)), (1, (.t 36))]),
 qm 31 37,
 qr 38 (.ext (.t 31) 0),
 qr 39 (.ext (.t 31) 1),
 qr 10 (.al 31 [(.b false), (.l 1 []), (.l 1 [])]),
 qn (.st 3 (.t 10) (.t 38)),
 qm 11 39])
 (.seq (.seq (.reg [qm 40 11,
 qr 41 (.bin .neq (.t 40) (.k (.i .i64 0)))])
 (.cond (.t 41)
 (.seq (.reg [qm 42 11,
 qr 2 (.mv (.k .nl)),
 qm 3 42])
 (.ret))
 (.skip)))
 (.reg [qm 43 6,
 qr 44 (.ld true 3 (.t 10)),
 qr 45 (.bsl 31 3 1 [(.b false), (.l 1 []), (.l 1 [])] [(0, (.t 44))]),
 qr 46 (.app 31 3 56 (.t 43) (.t 45)),
 qm 6 46])))))
 (.reg [qm 24 7,
 qr 25 (.bin .add (.t 24) (.k (.i .i64 1))),
 qm 7 25]))))))
 (.seq (.reg [qm 47 6,
 qr 48 (.ocall 40 (.t 47)),
 qm 2 48,
 qr 3 (.mv (.k (.i .i64 0)))])
 (.ret))))))
theorem pderiv_spec (l : R3) (A : List Rat) (m : Nat) (hm : m ≤ 23000000) (lA : A.length ≤ 100000) (hcA : Cq A m)
    (hno : AFun Tryz.prog J0 14 [.l 3 (RC l)] (.t [.l 3 (RC (nfq A)), .i .i64 0])) : AFun Tryz.prog J0 20 [.l 3 (RC l)] (.t [.l 3 (RC (nfq (tzq (drq A)))), .i .i64 0]) := by
  have hz := QC_len A
  have hd : A.length * 3 / 3 = A.length := by omega
  have hRl := drq_len A
  have hcA' := Cq_up hcA (show m ≤ m + 1 by omega)
  have hof : ∀ i, i < A.length → AFun Tryz.prog J0 23 [.i .i64 ((i + 1 : Nat) : Int), .i .i64 1] (.t [rN (mkRat ((i + 1 : Nat) : Int) 1).num (mkRat ((i + 1 : Nat) : Int) 1).den, .i .i64 0]) ∧ Rr (rN (mkRat ((i + 1 : Nat) : Int) 1).num (mkRat ((i + 1 : Nat) : Int) 1).den) (mkRat ((i + 1 : Nat) : Int) 1) (m + 1) := fun i hi => pqof ((i + 1 : Nat) : Int) 1 m (by omega) (by omega) (by decide) (by decide)
  have hmu : ∀ i, i < A.length → AFun Tryz.prog J0 44 [rN (A.getD (i + 1) 0).num (A.getD (i + 1) 0).den, rN (mkRat ((i + 1 : Nat) : Int) 1).num (mkRat ((i + 1 : Nat) : Int) 1).den] (.t [rN (A.getD (i + 1) 0 * mkRat ((i + 1 : Nat) : Int) 1).num (A.getD (i + 1) 0 * mkRat ((i + 1 : Nat) : Int) 1).den, .i .i64 0]) ∧ Rr (rN (A.getD (i + 1) 0 * mkRat ((i + 1 : Nat) : Int) 1).num (A.getD (i + 1) 0 * mkRat ((i + 1 : Nat) : Int) 1).den) (A.getD (i + 1) 0 * mkRat ((i + 1 : Nat) : Int) 1) (m + 1 + (m + 1)) := fun i hi => qmulR (Cq_Rr hcA' (i + 1)) (hof i hi).2 (by omega)
  have hcR : Cq (drq A) (m + 1 + (m + 1)) := fun i => by
    by_cases h : i + 1 < A.length
    · rw [drq_get A i h]; exact Rr_num (hmu i (by omega)).2
    · rw [gq0 (by rw [drq_len]; omega)]
      have := (Qk_Cq (l := []) (m := m + 1 + m) (fun p hp => by cases hp)) 0
      exact this
  have htr := ptrim_spec (drq A) (m + 1 + (m + 1)) (by omega) (by rw [hRl]; omega) hcR
  have hRg := drq_get A
  clear hcR hcA'
  generalize tzq (drq A) = T at *
  generalize drq A = R at *
  refine mkQ fol J0s Tryz.func20 a20 ?_
  unfold a20
  simp only [init_eq, initE, qm, qr, qn]
  have zc1 := hno
  refine wkQ (ai @hd (ai @hz @bz_QP5)) ?_
  refine vm_loopA [(6, 31, 3)] Nat (fun i => ⟨[(4, .l 3 (RC (nfq A))), (6, .ow 3 0 i), (7, .i .i64 ((i + 1 : Nat) : Int))], [(0, some ⟨31, 3, RC (nfq (R.take i)), true, false⟩)], 1⟩)
    (fun i => i ≤ A.length - 1) (fun i => A.length - i) 0 (Nat.zero_le _) (by exact leQ) (by
    exact ltQ) ?_
  intro i hi Q' hQ he hr
  by_cases h : ((i + 1 : Nat) : Int) < (A.length : Int)
  · have r1 := QC_row A (i + 1) (by omega)
    obtain ⟨o1, _⟩ := hof i (by omega)
    obtain ⟨o2, _⟩ := hmu i (by omega)
    rw [← hRg i (by omega)] at o2
    have hap := QC_app1 (R.take i) (R.getD i 0)
    rw [← take_snocq R i (by omega)] at hap
    have l0 := QC_len (R.take i)
    have l1 := QC_len (R.take (i + 1))
    rw [List.length_take] at l0 l1
    rw [rN_b] at o1 o2
    rw [rN_b] at o2
    rw [rN_b] at o2
    clear hof hmu hRg
    generalize R.getD i 0 = y at *
    generalize A.getD (i + 1) 0 = y1 at *
    generalize mkRat ((i + 1 : Nat) : Int) 1 = y2 at *
    have zc2 := o1
    refine wkQ (ai @hap (ai @r1 (ai @hd (ai @hz (ai @h @bz_QP5))))) ?_
    refine hQ _ (i + 1) (by omega) (by omega) ?_
    exact ltQ
  · obtain rfl : i = A.length - 1 := by omega
    rw [show R.take (A.length - 1) = R from by rw [← hRl]; exact List.take_length]
    refine spQ (ai @hd (ai @hz (ai @h @bz_QP5))) ?_
    refine he _ _ ?_
    exact wdQ @bz_QP5
def inq (A : List Rat) : List Rat := 0 :: (List.range A.length).map fun i => A.getD i 0 * mkRat 1 (i + 1)
theorem inq_len (A : List Rat) : (inq A).length = A.length + 1 := by simp [inq]
theorem inq_get (A : List Rat) (i : Nat) (h : i < A.length) : (inq A).getD (i + 1) 0 = A.getD i 0 * mkRat 1 (i + 1) := by
  unfold inq
  rw [List.getD_cons_succ, List.getD_eq_getElem?_getD, List.getElem?_map, List.getElem?_range h]; rfl
theorem inq_cf (A : List Rat) (i : Nat) : (inq A).getD (i + 1) 0 = A.getD i 0 * mkRat 1 (i + 1) := by
  by_cases h : i < A.length
  · exact inq_get A i h
  · rw [gq0 (by rw [inq_len]; omega), gq0 (l := A) (by omega)]; grind
def a19 : AC := .seq (.reg [qr 2 (.mv (.k .nl)),
 qr 3 (.mv (.k (.i .i64 0)))])
 (.seq (.reg [qm 14 0,
 qr 15 (.call 14 [(3, (.t 14))]),
 qm 13 15,
 qr 16 (.ext (.t 13) 0),
 qr 17 (.ext (.t 13) 1),
 qm 4 16,
 qm 5 17])
 (.seq (.seq (.reg [qm 18 5,
 qr 19 (.bin .neq (.t 18) (.k (.i .i64 0))),
 qm 20 19,
 ⟨some 21, some (20, false), .mv (.t 4)⟩,
 ⟨some 22, some (20, false), .len (.t 21)⟩,
 ⟨some 23, some (20, false), .bin .eql (.t 22) (.k (.i .i64 0))⟩,
 qr 24 (.pick (.t 20) (.k (.b true)) (.t 23))])
 (.cond (.t 24)
 (.seq (.reg [qm 25 5,
 qr 2 (.mv (.k .nl)),
 qm 3 25])
 (.ret))
 (.skip)))
 (.seq (.reg [qr 26 (.call 47 []),
 qr 27 (.bsl 31 3 1 [(.b false), (.l 1 []), (.l 1 [])] [(0, (.t 26))]),
 qm 6 27])
 (.seq (.seq (.reg [qm 28 4,
 qr 29 (.len (.t 28)),
 qr 30 (.mv (.k (.i .i64 0)))])
 (.blk 0
 (.loop
 (.seq (.reg [qr 31 (.bin .lss (.t 30) (.t 29))])
 (.seq (.cond (.t 31)
 (.skip)
 (.exit 0))
 (.seq (.blk 1
 (.seq (.reg [qm 32 30,
 qr 33 (.idx 3 (.t 28) (.t 30)),
 qr 34 (.ld true 3 (.t 33)),
 qr 8 (.al 31 [(.b false), (.l 1 []), (.l 1 [])]),
 qm 7 32,
 qn (.st 3 (.t 8) (.t 34))])
 (.seq (.reg [qm 36 7,
 qr 37 (.bin .add (.t 36) (.k (.i .i64 1))),
 qr 38 (.call 23 [(1, (.k (.i .i64 1))), (1, (.t 37))]),
 qm 35 38,
 qr 39 (.ext (.t 35) 0),
 qr 40 (.ext (.t 35) 1),
 qr 9 (.al 31 [(.b false), (.l 1 []), (.l 1 [])]),
 qn (.st 3 (.t 9) (.t 39)),
 qm 10 40])
 (.seq (.reg [qr 42 (.ld true 3 (.t 8)),
 qr 43 (.ld true 3 (.t 9)),
 qr 44 (.call 44 [(1, (.t 42)), (1, (.t 43))]),
 qm 41 44,
 qr 45 (.ext (.t 41) 0),
 qr 46 (.ext (.t 41) 1),
 qr 11 (.al 31 [(.b false), (.l 1 []), (.l 1 [])]),
 qn (.st 3 (.t 11) (.t 45)),
 qm 12 46])
 (.seq (.seq (.reg [qm 47 12,
 qr 48 (.bin .neq (.t 47) (.k (.i .i64 0)))])
 (.cond (.t 48)
 (.seq (.reg [qm 49 12,
 qr 2 (.mv (.k .nl)),
 qm 3 49])
 (.ret))
 (.skip)))
 (.reg [qm 50 6,
 qr 51 (.ld true 3 (.t 11)),
 qr 52 (.bsl 31 3 1 [(.b false), (.l 1 []), (.l 1 [])] [(0, (.t 51))]),
 qr 53 (.app 31 3 56 (.t 50) (.t 52)),
 qm 6 53]))))))
 (.reg [qr 54 (.bin .add (.t 30) (.k (.i .i64 1))),
 qm 30 54])))))))
 (.seq (.reg [qm 55 6,
 qm 2 55,
 qr 3 (.mv (.k (.i .i64 0)))])
 (.ret))))))
theorem pinteg_spec (l : R3) (A : List Rat) (m : Nat) (hm : m ≤ 23000000) (lA : A.length ≤ 100000) (hcA : Cq A m)
    (hno : AFun Tryz.prog J0 14 [.l 3 (RC l)] (.t [.l 3 (RC (nfq A)), .i .i64 0])) : AFun Tryz.prog J0 19 [.l 3 (RC l)] (.t [.l 3 (RC (nfq (if A.length = 0 then [] else inq A))), .i .i64 0]) := by
  have hz := QC_len A
  have hd : A.length * 3 / 3 = A.length := by omega
  by_cases a0 : A.length = 0
  · have aI : (A.length : Int) = 0 := by omega
    rw [if_pos a0]
    refine mkQ fol J0s Tryz.func19 a19 ?_
    unfold a19
    simp only [init_eq, initE, qm, qr, qn]
    have zc3 := hno
    repeat first | (refine hK _ ?_; clear hK K) | simp only [Sv, ↓reduceIte, Nat.reduceEqDiff] | ((first | refine vm_reg (fun K hK => ?_) | refine vm_dreg (fun K hK => ?_) | refine vm_dregx (fun K hK => ?_) | refine clp_q ?_ | refine clq_mk (by assumption) ?_ | refine mcq_q ?_ | (apply mcr_mk; assumption) | (apply ocr_mk; assumption)); simp (disch := (first | omega | assumption)) only [S1, ↓reduceIte, Nat.reduceEqDiff, Nat.reduceAdd, Nat.reduceMul, Nat.reduceDiv, AOp.sb, AOp.mut, frzf, ↓Bool.false_eq_true, beq_self_eq_true, ite_self, Nat.reduceLeDiff, Int.reduceEq, Int.reduceSub, Int.reduceAdd, Int.reduceNeg, Int.reduceLT, Int.reduceLE, Nat.reduceLT, bz_QP5, hz, hd, aI, show RC (nfq []) = [] from rfl])
    simp (disch := (first | omega | assumption)) only [retOk, retN, ret1, retF, ret1F, V.okArg, and_true, true_and, S1, ↓reduceIte, Nat.reduceEqDiff, Nat.reduceAdd, Nat.reduceMul, Nat.reduceDiv, AOp.sb, AOp.mut, frzf, ↓Bool.false_eq_true, beq_self_eq_true, ite_self, Nat.reduceLeDiff, Int.reduceEq, Int.reduceSub, Int.reduceAdd, Int.reduceNeg, Int.reduceLT, Int.reduceLE, Nat.reduceLT, bz_QP5, hz, hd, aI, show RC (nfq []) = [] from rfl]
  · have aI : ¬ (A.length : Int) = 0 := by omega
    rw [if_neg a0]
    have hn := pnone_spec
    have hRl := inq_len A
    have hcA' := Cq_up hcA (show m ≤ m + 1 by omega)
    have hof : ∀ i, i < A.length → AFun Tryz.prog J0 23 [.i .i64 1, .i .i64 ((i + 1 : Nat) : Int)] (.t [rN (mkRat 1 (i + 1)).num (mkRat 1 (i + 1)).den, .i .i64 0]) ∧ Rr (rN (mkRat 1 (i + 1)).num (mkRat 1 (i + 1)).den) (mkRat 1 (i + 1)) (m + 1) := fun i hi => pqof 1 (i + 1) m (by decide) (by decide) (by omega) (by omega)
    have hmu : ∀ i, i < A.length → AFun Tryz.prog J0 44 [rN (A.getD i 0).num (A.getD i 0).den, rN (mkRat 1 (i + 1)).num (mkRat 1 (i + 1)).den] (.t [rN (A.getD i 0 * mkRat 1 (i + 1)).num (A.getD i 0 * mkRat 1 (i + 1)).den, .i .i64 0]) := fun i hi => (qmulR (Cq_Rr hcA' i) (hof i hi).2 (by omega)).1
    have hRg := inq_get A
    have hR1 : (inq A).take 1 = [0] := rfl
    generalize inq A = R at *
    have z0 : [V.b false, .l 1 [], .l 1 (W (dg B 1))] = RC (nfq (R.take 1)) := by
      rw [hR1]
      show _ = [V.b (decide ((0 : Int) < 0)), .l 1 (W (dg B 0)), .l 1 (W (dg B 1))]
      rw [dg_zero]; rfl
    rw [rN_01] at hn
    refine mkQ fol J0s Tryz.func19 a19 ?_
    unfold a19
    simp only [init_eq, initE, qm, qr, qn]
    have zc4 := hno
    refine wkQ (ai @aI (ai @hd (ai @hz @bz_QP5))) ?_
    refine vm_loopA [] Nat (fun i => ⟨[(6, .ow 3 0 (i + 1)), (28, .l 3 (RC (nfq A))), (29, .i .i64 (A.length : Int)), (30, .i .i64 (i : Int))], [(0, some ⟨31, 3, RC (nfq (R.take (i + 1))), true, false⟩)], 1⟩)
      (fun i => i ≤ A.length) (fun i => A.length - i) 0 (Nat.zero_le _) (by exact leQ) (by
      simp (disch := (first | omega | assumption)) only [Sl, Sa, Sw, ↓reduceIte, Nat.reduceEqDiff, Nat.reduceLT, List.all_nil, List.all_cons, Nat.reduceBneDiff, Nat.reduceAdd, bne_iff_ne, ne_eq, reduceCtorEq, not_false_eq_true, not_true_eq_false, Bool.and_true, Bool.true_and, and_true, true_and, and_self, i_eq]
      first | exact z0 | (refine ⟨?_, ?_⟩ <;> first | rfl | exact z0)) ?_
    intro i hi Q' hQ he hr
    by_cases h : (i : Int) < (A.length : Int)
    · have r1 := QC_row A i (by omega)
      obtain ⟨o1, _⟩ := hof i (by omega)
      have o2 := hmu i (by omega)
      rw [← hRg i (by omega)] at o2
      have hap := QC_app1 (R.take (i + 1)) (R.getD (i + 1) 0)
      rw [← take_snocq R (i + 1) (by omega)] at hap
      have l0 := QC_len (R.take (i + 1))
      have l1 := QC_len (R.take (i + 1 + 1))
      rw [List.length_take] at l0 l1
      rw [rN_b] at o1 o2
      rw [rN_b] at o2
      rw [rN_b] at o2
      clear hof hmu hRg
      generalize R.getD (i + 1) 0 = y at *
      generalize A.getD i 0 = y1 at *
      generalize mkRat 1 (i + 1) = y2 at *
      have zc5 := o1
      refine wkQ (ai @hap (ai @r1 (ai @hz (ai @h @bz_QP5)))) ?_
      refine hQ _ (i + 1) (by omega) (by omega) ?_
      exact ltQ
    · obtain rfl : i = A.length := by omega
      rw [show R.take (A.length + 1) = R from by rw [← hRl]; exact List.take_length]
      refine spQ (ai @h @bz_QP5) ?_
      refine he _ _ ?_
      refine spQ @bz_QP5 ?_
      exact rtQ @bz_QP5
end Go.Proofs.YtbkpaeejjepnpaaGreat
