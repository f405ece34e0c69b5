/-
  surdtop: polynomials over the rationals copied, compared; small ones.
-/
import Derived.Test.YtbkpaeejjepnpaaGreatQP5
import Derived.Test.YtbkpaeejjepnpaaGreatSF0
namespace Go.Proofs.YtbkpaeejjepnpaaGreat
open Go Go.RowKit Ab
set_option linter.unusedSimpArgs false
set_option linter.unusedVariables false
set_option maxHeartbeats 10000000
theorem bz_QP7 : type_of% (And.intro @W_len (And.intro @D_len (And.intro @Nat.div_one (And.intro @Nat.mul_one (And.intro @tn_nat (And.intro @W_nf (And.intro @D_nf (And.intro @W_nil (And.intro @D_nil (And.intro @wi (And.intro @nf_g (And.intro @Bool.false_and (And.intro @W_cell (And.intro @RC_nf (And.intro @ZC_cell (@ZC_nil)))))))))))))))) := And.intro @W_len (And.intro @D_len (And.intro @Nat.div_one (And.intro @Nat.mul_one (And.intro @tn_nat (And.intro @W_nf (And.intro @D_nf (And.intro @W_nil (And.intro @D_nil (And.intro @wi (And.intro @nf_g (And.intro @Bool.false_and (And.intro @W_cell (And.intro @RC_nf (And.intro @ZC_cell (@ZC_nil)))))))))))))))
def Ql (l : R3) (m : Nat) : Prop := ∀ p, p ∈ l → p.2.1.length ≤ m ∧ p.2.2.length ≤ m
theorem Ql_get {l : R3} {m : Nat} (h : Ql l m) (i : Nat) : (l.getD i nul3).2.1.length ≤ m ∧ (l.getD i nul3).2.2.length ≤ m := by
  by_cases hi : i < l.length
  · exact h _ (getD_mem hi)
  · rw [List.getD_eq_getElem?_getD, List.getElem?_eq_none (by omega)]; exact ⟨Nat.zero_le _, Nat.zero_le _⟩
theorem Qk_Ql {l : R3} {m : Nat} (h : Qk l m) : Ql l m := fun p hp => ⟨(h p hp).2.2.1, (h p hp).2.2.2.1⟩
theorem Qw_Ql {l : R3} {m : Nat} (h : Qw l m) : Ql l m := fun p hp => ⟨(h p hp).2.2.1, (h p hp).2.2.2⟩
theorem RC_snocg (l : R3) (i : Nat) (h : i < l.length) : RC (l.take i) ++ [.b (l.getD i nul3).1, .l 1 (W (l.getD i nul3).2.1), .l 1 (W (l.getD i nul3).2.2)] = RC (l.take (i + 1)) := by
  rw [List.take_succ_eq_append_getElem h, RC_app, List.getD_eq_getElem?_getD, List.getElem?_eq_getElem h]; rfl
def a8 : AC := .seq (.reg [qr 2 (.mv (.k .nl))])
 (.seq (.reg [qr 6 (.bsl 31 3 0 [] []),
 qm 3 6])
 (.seq (.seq (.reg [qm 7 0,
 qr 8 (.len (.t 7)),
 qr 9 (.mv (.k (.i .i64 0)))])
 (.blk 0
 (.loop
 (.seq (.reg [qr 10 (.bin .lss (.t 9) (.t 8))])
 (.seq (.cond (.t 10)
 (.skip)
 (.exit 0))
 (.seq (.blk 1
 (.seq (.reg [qr 11 (.idx 3 (.t 7) (.t 9)),
 qr 12 (.ld true 3 (.t 11)),
 qr 5 (.al 31 [(.b false), (.l 1 []), (.l 1 [])]),
 qn (.st 3 (.t 5) (.t 12))])
 (.reg [qm 13 3,
 qr 14 (.ld true 3 (.t 5)),
 qr 15 (.call 28 [(1, (.t 14))]),
 qr 16 (.bsl 31 3 1 [(.b false), (.l 1 []), (.l 1 [])] [(0, (.t 15))]),
 qr 17 (.app 31 3 56 (.t 13) (.t 16)),
 qm 3 17])))
 (.reg [qr 18 (.bin .add (.t 9) (.k (.i .i64 1))),
 qm 9 18])))))))
 (.seq (.reg [qm 19 3,
 qm 2 19])
 (.ret))))
theorem tcopyP_spec (l : R3) (m : Nat) (hm : m ≤ 1000000000) (ll : l.length ≤ 2000000) (hp : Ql l m) : AFun Tryz.prog J0 8 [.l 3 (RC l)] (.l 3 (RC l)) := by
  have hz := RC_len l
  have hd : l.length * 3 / 3 = l.length := by omega
  refine mkQ fol J0s Tryz.func8 a8 ?_
  unfold a8
  simp only [init_eq, initE, qm, qr, qn]
  refine spQ (ai @hd (ai @hz @bz_QP7)) ?_
  refine vm_loopA [] Nat (fun i => ⟨[(3, .ow 3 0 i), (7, .l 3 (RC l)), (8, .i .i64 (l.length : Int)), (9, .i .i64 (i : Int))], [(0, some ⟨31, 3, RC (l.take i), true, false⟩)], 1⟩)
    (fun i => i ≤ l.length) (fun i => l.length - i) 0 (Nat.zero_le _) (by exact leQ) (by
    exact ltQ) ?_
  intro i hi Q' hQ he hr
  by_cases h : (i : Int) < (l.length : Int)
  · have r1 := RC_row l i (by omega)
    change ((RC l).drop (i * 3)).take 3 = [.b (l.getD i nul3).1, .l 1 (W (l.getD i nul3).2.1), .l 1 (W (l.getD i nul3).2.2)] at r1
    obtain ⟨l1, l2⟩ := Ql_get hp i
    have h1 := tcopyR_spec (l.getD i nul3).1 (l.getD i nul3).2.1 (l.getD i nul3).2.2 (by omega) (by omega)
    have hap := RC_snocg l i (by omega)
    have l0 := RC_len (l.take i)
    have l3 := RC_len (l.take (i + 1))
    rw [List.length_take] at l0 l3
    generalize l.getD i nul3 = x at *
    refine wkQ (ai @hap (ai @r1 (ai @hz (ai @h @bz_QP7)))) ?_
    refine hQ _ (i + 1) (by omega) (by omega) ?_
    exact ltQ
  · obtain rfl : i = l.length := by omega
    rw [List.take_length]
    refine spQ (ai @h @bz_QP7) ?_
    refine he _ _ ?_
    refine spQ @bz_QP7 ?_
    exact rtQ @bz_QP7
theorem ce_eq (l : R3) : ce l = 0 ↔ ∀ i, i < l.length → nv B (l.getD i nul3).2.2 ≠ 0 := by
  constructor
  · intro h i hi; exact ce_0 h hi
  · intro h
    rcases ce_01 l with h1 | h1
    · exact h1
    · obtain ⟨i, hi, h0, _⟩ := ce_1 h1
      exact absurd h0 (h i hi)
def a12 : AC := .seq (.reg [qr 2 (.mv (.k (.b false)))])
 (.seq (.seq (.reg [qm 5 0,
 qr 6 (.len (.t 5)),
 qr 7 (.mv (.k (.i .i64 0)))])
 (.blk 0
 (.loop
 (.seq (.reg [qr 8 (.bin .lss (.t 7) (.t 6))])
 (.seq (.cond (.t 8)
 (.skip)
 (.exit 0))
 (.seq (.blk 1
 (.seq (.reg [qr 9 (.idx 3 (.t 5) (.t 7)),
 qr 10 (.ld true 3 (.t 9)),
 qr 4 (.al 31 [(.b false), (.l 1 []), (.l 1 [])]),
 qn (.st 3 (.t 4) (.t 10))])
 (.seq (.reg [qr 11 (.ld true 3 (.t 4)),
 qr 12 (.call 26 [(1, (.t 11))]),
 qr 13 (.un .not (.t 12))])
 (.cond (.t 13)
 (.seq (.reg [qr 2 (.mv (.k (.b false)))])
 (.ret))
 (.skip)))))
 (.reg [qr 14 (.bin .add (.t 7) (.k (.i .i64 1))),
 qm 7 14])))))))
 (.seq (.reg [qr 2 (.mv (.k (.b true)))])
 (.ret)))
theorem tmeansP_spec (l : R3) (m : Nat) (hm : m ≤ 1000000000) (ll : l.length ≤ 2000000) (hp : Qw l m) : AFun Tryz.prog J0 12 [.l 3 (RC l)] (.b (decide (ce l = 0))) := by
  have hz := RC_len l
  have hd : l.length * 3 / 3 = l.length := by omega
  obtain ⟨r, hr0⟩ : ∃ r, r = decide (ce l = 0) := ⟨_, rfl⟩
  rw [← hr0]
  refine mkQ fol J0s Tryz.func12 a12 ?_
  unfold a12
  simp only [init_eq, initE, qm, qr, qn]
  refine spQ (ai @hd (ai @hz @bz_QP7)) ?_
  refine vm_loopA [] Nat (fun i => ⟨[(5, .l 3 (RC l)), (6, .i .i64 (l.length : Int)), (7, .i .i64 (i : Int))], [], 0⟩) (fun i => i ≤ l.length ∧ ∀ u, u < i → nv B (l.getD u nul3).2.2 ≠ 0) (fun i => l.length - i) 0 ⟨Nat.zero_le _, fun u hu => by omega⟩ (by exact leQ) (by
    exact ltQ) ?_
  rintro i ⟨hi, hall⟩ Q' hQ he hr
  by_cases h : (i : Int) < (l.length : Int)
  · have r1 := RC_row l i (by omega)
    change ((RC l).drop (i * 3)).take 3 = [.b (l.getD i nul3).1, .l 1 (W (l.getD i nul3).2.1), .l 1 (W (l.getD i nul3).2.2)] at r1
    obtain ⟨w1, w2, l1, l2⟩ := hp _ (getD_mem (l := l) (i := i) (by omega))
    have h1 := tmeans_spec (l.getD i nul3).1 (l.getD i nul3).2.1 (l.getD i nul3).2.2 w2 (by omega)
    by_cases h0 : nv B (l.getD i nul3).2.2 = 0
    · have e : r = false := by
        rw [hr0]
        exact decide_eq_false fun hc => (ce_eq l).1 hc i (by omega) h0
      rw [decide_eq_false (fun hn => hn h0)] at h1
      generalize l.getD i nul3 = x at *
      refine wkQ (ai @r1 (ai @hz (ai @h @bz_QP7))) ?_
      refine hr _ ?_
      refine spQ @bz_QP7 ?_
      exact rtQ (ai @e @bz_QP7)
    · rw [decide_eq_true h0] at h1
      have hnx : ∀ u, u < i + 1 → nv B (l.getD u nul3).2.2 ≠ 0 := fun u hu => by
        by_cases e : u = i
        · rw [e]; exact h0
        · exact hall u (by omega)
      clear hall h0
      generalize l.getD i nul3 = x at *
      refine wkQ (ai @r1 (ai @hz (ai @h @bz_QP7))) ?_
      refine hQ _ (i + 1) ⟨by omega, hnx⟩ (by omega) ?_
      exact ltQ
  · obtain rfl : i = l.length := by omega
    have e : r = true := by
      rw [hr0]
      exact decide_eq_true ((ce_eq l).2 hall)
    refine spQ (ai @h @bz_QP7) ?_
    refine he _ _ ?_
    refine spQ @bz_QP7 ?_
    exact rtQ (ai @e @bz_QP7)
def a6 : AC := .seq (.reg [qr 0 (.mv (.k .nl))])
 (.seq (.reg [qr 1 (.bsl 29 1 1 [(.i .u64 0)] [(0, (.k (.i .u64 1)))]),
 qm 0 1])
 (.ret))
theorem tone_spec : AFun Tryz.prog J0 6 [] (.o 29 1 [.i .u64 1]) := by
  refine mkQ fol J0s Tryz.func6 a6 ?_
  unfold a6
  simp only [init_eq, initE, qm, qr, qn]
  refine spQ @bz_QP7 ?_
  exact rtQ @bz_QP7
def a10 : AC := .seq (.reg [qr 4 (.mv (.k (.b false)))])
 (.seq (.seq (.reg [qm 6 0,
 qr 7 (.len (.t 6)),
 qm 8 1,
 qr 9 (.len (.t 8)),
 qr 10 (.bin .neq (.t 7) (.t 9))])
 (.cond (.t 10)
 (.seq (.reg [qr 4 (.mv (.k (.b false)))])
 (.ret))
 (.skip)))
 (.seq (.seq (.reg [qm 11 0,
 qr 12 (.len (.t 11)),
 qr 13 (.mv (.k (.i .i64 0)))])
 (.blk 0
 (.loop
 (.seq (.reg [qr 14 (.bin .lss (.t 13) (.t 12))])
 (.seq (.cond (.t 14)
 (.skip)
 (.exit 0))
 (.seq (.blk 1
 (.seq (.reg [qm 15 13,
 qm 5 15])
 (.seq (.dreg [qm 16 0,
 qm 17 5,
 qr 18 (.idx 2 (.t 16) (.t 17)),
 qr 19 (.ld true 2 (.t 18)),
 qm 20 1,
 qm 21 5,
 qr 22 (.idx 2 (.t 20) (.t 21)),
 qr 23 (.ld true 2 (.t 22)),
 qr 24 (.call 35 [(1, (.t 19)), (1, (.t 23))]),
 qr 25 (.un .not (.t 24))])
 (.cond (.t 25)
 (.seq (.reg [qr 4 (.mv (.k (.b false)))])
 (.ret))
 (.skip)))))
 (.reg [qr 26 (.bin .add (.t 13) (.k (.i .i64 1))),
 qm 13 26])))))))
 (.seq (.reg [qr 4 (.mv (.k (.b true)))])
 (.ret))))
end Go.Proofs.YtbkpaeejjepnpaaGreat
