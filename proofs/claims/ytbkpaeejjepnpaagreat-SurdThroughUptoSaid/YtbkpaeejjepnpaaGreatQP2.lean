/-
  qpoly: forms, sums, scaled polynomials.
-/
import Derived.Test.YtbkpaeejjepnpaaGreatQP1
namespace Go.Proofs.YtbkpaeejjepnpaaGreat
open Go Go.RowKit Ab
set_option linter.unusedSimpArgs false
set_option linter.unusedVariables false
set_option maxHeartbeats 10000000
theorem bz_QP2 : type_of% (And.intro @W_len (And.intro @D_len (And.intro @Nat.div_one (And.intro @Nat.mul_one (And.intro @tn_nat (And.intro @W_nf (And.intro @D_nf (And.intro @W_nil (And.intro @D_nil (And.intro @wi (And.intro @nf_g (And.intro @Bool.false_and (And.intro @W_cell (@RC_nf)))))))))))))) := And.intro @W_len (And.intro @D_len (And.intro @Nat.div_one (And.intro @Nat.mul_one (And.intro @tn_nat (And.intro @W_nf (And.intro @D_nf (And.intro @W_nil (And.intro @D_nil (And.intro @wi (And.intro @nf_g (And.intro @Bool.false_and (And.intro @W_cell (@RC_nf)))))))))))))
theorem take_snocq (l : List Rat) (i : Nat) (h : i < l.length) : l.take (i + 1) = l.take i ++ [l.getD i 0] := by
  rw [List.take_succ_eq_append_getElem h, List.getD_eq_getElem?_getD, List.getElem?_eq_getElem h]; rfl
def a14 : AC := .seq (.reg [qr 2 (.mv (.k .nl)),
 qr 3 (.mv (.k (.i .i64 0)))])
 (.seq (.reg [qr 4 (.mv (.k .nl))])
 (.seq (.seq (.reg [qm 9 0,
 qr 10 (.len (.t 9)),
 qr 11 (.mv (.k (.i .i64 0)))])
 (.blk 0
 (.loop
 (.seq (.reg [qr 12 (.bin .lss (.t 11) (.t 10))])
 (.seq (.cond (.t 12)
 (.skip)
 (.exit 0))
 (.seq (.blk 1
 (.seq (.reg [qr 13 (.idx 3 (.t 9) (.t 11)),
 qr 14 (.ld true 3 (.t 13)),
 qr 6 (.al 31 [(.b false), (.l 1 []), (.l 1 [])]),
 qn (.st 3 (.t 6) (.t 14))])
 (.seq (.reg [qr 16 (.ld true 3 (.t 6)),
 qr 17 (.call 39 [(1, (.t 16))]),
 qm 15 17,
 qr 18 (.ext (.t 15) 0),
 qr 19 (.ext (.t 15) 1),
 qr 7 (.al 31 [(.b false), (.l 1 []), (.l 1 [])]),
 qn (.st 3 (.t 7) (.t 18)),
 qm 8 19])
 (.seq (.seq (.reg [qm 20 8,
 qr 21 (.bin .neq (.t 20) (.k (.i .i64 0)))])
 (.cond (.t 21)
 (.seq (.reg [qm 22 8,
 qr 2 (.mv (.k .nl)),
 qm 3 22])
 (.ret))
 (.skip)))
 (.reg [qm 23 4,
 qr 24 (.ld true 3 (.t 7)),
 qr 25 (.bsl 31 3 1 [(.b false), (.l 1 []), (.l 1 [])] [(0, (.t 24))]),
 qr 26 (.app 31 3 56 (.t 23) (.t 25)),
 qm 4 26])))))
 (.reg [qr 27 (.bin .add (.t 11) (.k (.i .i64 1))),
 qm 11 27])))))))
 (.seq (.reg [qm 28 4,
 qr 29 (.ocall 40 (.t 28)),
 qm 2 29,
 qr 3 (.mv (.k (.i .i64 0)))])
 (.ret))))
theorem pnorm_to (l : R3) (m : Nat) (hm : m ≤ 48000000) (ll : l.length ≤ 100000) (hp : Qk l m) : AFun Tryz.prog J0 14 [.l 3 (RC l)] (.to 31 3 (RC (nfq (tzq (qcs l)))) [.i .i64 0]) := by
  have hz := RC_len l
  have hd : l.length * 3 / 3 = l.length := by omega
  have hcl := qcs_len l
  have htr := ptrim_spec (qcs l) (m + 1) (by omega) (by omega) (Qk_Cq hp)
  have hRr : ∀ i, i < l.length → Rr (rL (l.getD i nul3).1 (l.getD i nul3).2.1 (l.getD i nul3).2.2) ((qcs l).getD i 0) m := fun i hi => Qk_Rr hp hi
  have hqz := QC_len (tzq (qcs l))
  generalize tzq (qcs l) = T at *
  generalize qcs l = R at *
  refine AFun.mkt fol J0s Tryz.func14 rfl (ac := a14) (by kernel_rfl) rfl (by decide) rfl (by decide) ?_
  apply vm_start
  unfold a14
  simp only [init_eq, initE, qm, qr, qn]
  refine spQ (ai @hd (ai @hz @bz_QP2)) ?_
  refine vm_loopA [(4, 31, 3)] Nat (fun i => ⟨[(4, .ow 3 0 i), (9, .l 3 (RC l)), (10, .i .i64 (l.length : Int)), (11, .i .i64 (i : Int))], [(0, some ⟨31, 3, RC (nfq (R.take i)), true, false⟩)], 1⟩)
    (fun i => i ≤ l.length) (fun i => l.length - i) 0 (Nat.zero_le _) (by exact leQ) (by
    exact ltQ) ?_
  intro i hi Q' hQ he hr
  by_cases h : (i : Int) < (l.length : Int)
  · have r1 := RC_row l i (by omega)
    obtain ⟨n1, n2⟩ := qnormR (hRr i (by omega)) (by omega)
    have hap := QC_app1 (R.take i) (R.getD i 0)
    rw [← take_snocq R i (by omega)] at hap
    have l0 := QC_len (R.take i)
    have l1 := QC_len (R.take (i + 1))
    rw [List.length_take] at l0 l1
    rw [rN_b] at n1
    change ((RC l).drop (i * 3)).take 3 = [.b (l.getD i nul3).1, .l 1 (W (l.getD i nul3).2.1), .l 1 (W (l.getD i nul3).2.2)] at r1
    generalize l.getD i nul3 = x at *
    generalize R.getD i 0 = y at *
    refine wkQ (ai @hap (ai @r1 (ai @hz (ai @h @bz_QP2)))) ?_
    refine hQ _ (i + 1) (by omega) (by omega) ?_
    exact ltQ
  · obtain rfl : i = l.length := by omega
    rw [show R.take l.length = R from by rw [← hcl]; exact List.take_length]
    refine spQ (ai @h @bz_QP2) ?_
    refine he _ _ ?_
    refine wkQ @bz_QP2 ?_
    exact ⟨⟨_, _, rfl, rfl, rfl⟩, ⟨rfl, rfl⟩, trivial⟩
theorem pnorm_spec (l : R3) (m : Nat) (hm : m ≤ 48000000) (ll : l.length ≤ 100000) (hp : Qk l m) : AFun Tryz.prog J0 14 [.l 3 (RC l)] (.t [.l 3 (RC (nfq (tzq (qcs l)))), .i .i64 0]) := (pnorm_to l m hm ll hp).tup
def Qw (l : R3) (m : Nat) : Prop := ∀ p, p ∈ l → Wd p.2.1 ∧ Wd p.2.2 ∧ p.2.1.length ≤ m ∧ p.2.2.length ≤ m
def a36 : AC := .seq (.reg [qr 4 (.mv (.k .nl)),
 qr 5 (.mv (.k .nl)),
 qr 6 (.mv (.k (.i .i64 0)))])
 (.seq (.reg [qm 11 0,
 qr 12 (.call 14 [(3, (.t 11))]),
 qm 10 12,
 qr 13 (.ext (.t 10) 0),
 qr 14 (.ext (.t 10) 1),
 qm 7 13,
 qm 8 14])
 (.seq (.seq (.reg [qm 15 8,
 qr 16 (.bin .neq (.t 15) (.k (.i .i64 0)))])
 (.cond (.t 16)
 (.seq (.reg [qm 17 8,
 qr 4 (.mv (.k .nl)),
 qr 5 (.mv (.k .nl)),
 qm 6 17])
 (.ret))
 (.skip)))
 (.seq (.reg [qm 19 1,
 qr 20 (.call 14 [(3, (.t 19))]),
 qm 18 20,
 qr 21 (.ext (.t 18) 0),
 qr 22 (.ext (.t 18) 1),
 qm 9 21,
 qm 8 22])
 (.seq (.seq (.reg [qm 23 8,
 qr 24 (.bin .neq (.t 23) (.k (.i .i64 0)))])
 (.cond (.t 24)
 (.seq (.reg [qm 25 8,
 qr 4 (.mv (.k .nl)),
 qr 5 (.mv (.k .nl)),
 qm 6 25])
 (.ret))
 (.skip)))
 (.seq (.reg [qm 26 7,
 qm 27 9,
 qm 4 26,
 qm 5 27,
 qr 6 (.mv (.k (.i .i64 0)))])
 (.ret))))))
theorem pboth_to (l k : R3) (m : Nat) (hm : m ≤ 48000000) (ll : l.length ≤ 100000) (lk : k.length ≤ 100000) (hp : Qk l m) (hk : Qk k m) : AFun Tryz.prog J0 36 [.l 3 (RC l), .l 3 (RC k)] (.to 31 3 (RC (nfq (tzq (qcs l)))) [.l 3 (RC (nfq (tzq (qcs k)))), .i .i64 0]) := by
  have h1 := pnorm_to l m hm ll hp
  have h2 := pnorm_spec k m hm lk hk
  refine AFun.mkt fol J0s Tryz.func36 rfl (ac := a36) (by kernel_rfl) rfl (by decide) rfl (by decide) ?_
  apply vm_start
  unfold a36
  simp only [init_eq, initE, qm, qr, qn]
  refine wkQ @bz_QP2 ?_
  exact ⟨⟨_, _, rfl, rfl, rfl⟩, ⟨by decide, trivial, rfl⟩, ⟨rfl, rfl⟩, trivial⟩
theorem pboth_spec (l k : R3) (m : Nat) (hm : m ≤ 48000000) (ll : l.length ≤ 100000) (lk : k.length ≤ 100000) (hp : Qk l m) (hk : Qk k m) : AFun Tryz.prog J0 36 [.l 3 (RC l), .l 3 (RC k)] (.t [.l 3 (RC (nfq (tzq (qcs l)))), .l 3 (RC (nfq (tzq (qcs k)))), .i .i64 0]) := (pboth_to l k m hm ll lk hp hk).tup
theorem rN_01 : rN (0 : Rat).num (0 : Rat).den = .g [.b false, .l 1 [], .l 1 (W (dg B 1))] := by
  show V.g [.b (decide ((0 : Int) < 0)), .l 1 (W (dg B 0)), .l 1 (W (dg B 1))] = _
  rw [dg_zero]; rfl
def a47 : AC := .seq (.reg [qr 0 (.al 31 [(.b false), (.l 1 []), (.l 1 [])])])
 (.seq (.reg [qr 1 (.call 46 [(1, (.k (.i .u64 1)))]),
 qr 2 (.bld [(.b false), (.l 1 []), (.l 1 [])] [(2, 1, (.t 1))]),
 qn (.st 3 (.t 0) (.t 2))])
 (.ret))
theorem pnone_spec : AFun Tryz.prog J0 47 [] (rN (0 : Rat).num (0 : Rat).den) := by
  have h := (natOf_spec 1 (by decide)).frozen
  rw [rN_01]
  refine mkcQ fol J0s Tryz.func47 a47 [.c 0 true 3] ?_
  unfold a47
  simp only [init_eq, initE, qm, qr, qn]
  exact wcQ @bz_QP2
def a71 : AC := .seq (.reg [qr 4 (.al 31 [(.b false), (.l 1 []), (.l 1 [])])])
 (.seq (.seq (.reg [qm 7 1,
 qr 8 (.bin .lss (.t 7) (.k (.i .i64 0))),
 qm 9 8,
 ⟨some 10, some (9, false), .mv (.t 1)⟩,
 ⟨some 11, some (9, false), .mv (.t 0)⟩,
 ⟨some 12, some (9, false), .len (.t 11)⟩,
 ⟨some 13, some (9, false), .bin .geq (.t 10) (.t 12)⟩,
 qr 14 (.pick (.t 9) (.k (.b true)) (.t 13))])
 (.cond (.t 14)
 (.seq (.reg [qr 15 (.call 47 []),
 qn (.st 3 (.t 4) (.t 15))])
 (.ret))
 (.skip)))
 (.seq (.reg [qm 17 0,
 qm 18 1,
 qr 19 (.idx 3 (.t 17) (.t 18)),
 qr 20 (.ld true 3 (.t 19)),
 qr 21 (.call 39 [(1, (.t 20))]),
 qm 16 21,
 qr 22 (.ext (.t 16) 0),
 qr 23 (.ext (.t 16) 1),
 qr 5 (.al 31 [(.b false), (.l 1 []), (.l 1 [])]),
 qn (.st 3 (.t 5) (.t 22)),
 qm 6 23])
 (.seq (.reg [qr 24 (.ld true 3 (.t 5)),
 qn (.st 3 (.t 4) (.t 24))])
 (.ret))))
theorem pcoef_spec (l : List Rat) (i m : Nat) (hm : m ≤ 49000000) (hp : Cq l m) (ll : l.length ≤ 1000000) (hi : i ≤ 1000000) : AFun Tryz.prog J0 71 [.l 3 (RC (nfq l)), .i .i64 (i : Int)] (rN (l.getD i 0).num (l.getD i 0).den) := by
  have hz := QC_len l
  have hd : l.length * 3 / 3 = l.length := by omega
  by_cases h : i < l.length
  · have r1 := QC_row l i h
    obtain ⟨n1, _⟩ := qnormR (Cq_Rr hp i) hm
    have g1 : ¬ (i : Int) < 0 := by omega
    have g2 : ¬ (l.length : Int) ≤ (i : Int) := by omega
    rw [rN_b] at n1 ⊢
    generalize l.getD i 0 = y at *
    refine mkcQ fol J0s Tryz.func71 a71 [.c 4 true 3] ?_
    unfold a71
    simp only [init_eq, initE, qm, qr, qn]
    exact wcQ (ai @r1 (ai @g2 (ai @g1 (ai @hd (ai @hz @bz_QP2)))))
  · have h1 := pnone_spec
    have g1 : ¬ (i : Int) < 0 := by omega
    have g2 : (l.length : Int) ≤ (i : Int) := by omega
    rw [gq0 (by omega)]
    rw [rN_b] at h1 ⊢
    refine mkcQ fol J0s Tryz.func71 a71 [.c 4 true 3] ?_
    unfold a71
    simp only [init_eq, initE, qm, qr, qn]
    exact wcQ (ai @g2 (ai @g1 (ai @hd (ai @hz @bz_QP2))))
end Go.Proofs.YtbkpaeejjepnpaaGreat
