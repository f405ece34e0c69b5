/-
  qpoly: rows of rationals in cells; what is zero, rows cut short, forms.
-/
import Derived.Test.YtbkpaeejjepnpaaGreatQP0
import Derived.Test.YtbkpaeejjepnpaaGreatQO
import Derived.Test.YtbkpaeejjepnpaaGreatT1
namespace Go.Proofs.YtbkpaeejjepnpaaGreat.Ab
open Go Go.RowKit
set_option linter.unusedSimpArgs false
set_option linter.unusedVariables false
set_option maxHeartbeats 10000000
theorem AFun.tup {P : Program} {J : World → Prop} {f : FuncId} {args : List V} {e sz : Nat} {cs rs : List V} (h : AFun P J f args (.to e sz cs rs)) : AFun P J f args (.t (.l sz cs :: rs)) := .of0 rfl fun w H vs hJ hT hH hr => by
  obtain ⟨hsz, h⟩ := h
  refine (h w H vs hJ hT hH hr).mono ?_
  rintro x w' ⟨u, us, n, xs, N, rfl, hb, ho, hN, hno, hra, _, hm, hrs⟩
  refine ⟨_, rfl, hb, fun b => N b ∨ blk u = some b, fun b hb' => ?_, .inl ?_⟩
  · rcases hb' with h2 | h2
    · exact hN b h2
    · rcases ho.2 with ⟨rfl, _⟩ | ⟨g, cap, cur, rfl, hbg, hh, _⟩
      · cases h2
      · cases h2
        exact ⟨hbg, (Array.getElem?_eq_some_iff.1 hh).1⟩
  · refine .t (u :: us) _ (by simp [hrs.1]) fun j v x h1 h2 => ?_
    cases j with
    | zero =>
      cases h1; cases h2
      exact ownsRow_l hsz ho (hra.mono (fun b h => h.elim .inl fun h => .inr (.inl h)) (fun _ _ => rfl)) hm (fun b h => .inr (.inr h))
    | succ j => exact (hrs.2 j v x (by simpa using h1) (by simpa using h2)).mono (fun b h => h.elim .inl fun h => .inr (.inl h)) (fun _ _ => rfl)
end Go.Proofs.YtbkpaeejjepnpaaGreat.Ab
namespace Go.Proofs.YtbkpaeejjepnpaaGreat
open Go Go.RowKit Ab
theorem bz_QP1 : type_of% (And.intro @W_len (And.intro @D_len (And.intro @Nat.div_one (And.intro @Nat.mul_one (And.intro @tn_nat (And.intro @W_nf (And.intro @D_nf (And.intro @W_nil (And.intro @D_nil (And.intro @wi (And.intro @nf_g (And.intro @Bool.false_and (And.intro @W_cell (@RC_nf)))))))))))))) := And.intro @W_len (And.intro @D_len (And.intro @Nat.div_one (And.intro @Nat.mul_one (And.intro @tn_nat (And.intro @W_nf (And.intro @D_nf (And.intro @W_nil (And.intro @D_nil (And.intro @wi (And.intro @nf_g (And.intro @Bool.false_and (And.intro @W_cell (@RC_nf)))))))))))))
abbrev R3 := List (Bool × List Nat × List Nat)
def qvp (p : Bool × List Nat × List Nat) : Rat := mkRat (zv p.1 p.2.1) (nv B p.2.2)
def qcs (l : R3) : List Rat := l.map qvp
def nqp (p : Rat) : Bool × List Nat × List Nat := (decide (p.num < 0), dg B p.num.natAbs, dg B p.den)
def nfq (l : List Rat) : R3 := l.map nqp
theorem qvp_nqp (p : Rat) : qvp (nqp p) = p := by
  unfold qvp nqp
  simp only
  rw [zv_N, nv_dgB]; exact Rat.mkRat_self p
theorem qcs_nfq (l : List Rat) : qcs (nfq l) = l := by
  unfold qcs nfq
  rw [List.map_map, show qvp ∘ nqp = id from funext qvp_nqp, List.map_id]
theorem nfq_len (l : List Rat) : (nfq l).length = l.length := by simp [nfq]
theorem qcs_len (l : R3) : (qcs l).length = l.length := by simp [qcs]
theorem qcs_get (l : R3) (i : Nat) (h : i < l.length) : (qcs l).getD i 0 = qvp (l.getD i nul3) := by
  simp [qcs, List.getD_eq_getElem?_getD, h]
theorem nfq_get (l : List Rat) (i : Nat) (h : i < l.length) : (nfq l).getD i nul3 = nqp (l.getD i 0) := by
  simp [nfq, List.getD_eq_getElem?_getD, h]
theorem QC_len (l : List Rat) : (RC (nfq l)).length = l.length * 3 := by rw [RC_len, nfq_len]
theorem QC_row (l : List Rat) (i : Nat) (h : i < l.length) : ((RC (nfq l)).drop (i * 3)).take 3 = [.b (decide ((l.getD i 0).num < 0)), .l 1 (W (dg B (l.getD i 0).num.natAbs)), .l 1 (W (dg B (l.getD i 0).den))] := by
  have := RC_row (nfq l) i (by rw [nfq_len]; exact h)
  rw [show (nfq l).getD i (false, [], []) = nqp (l.getD i 0) from nfq_get l i h] at this
  exact this
theorem QC_app1 (l : List Rat) (p : Rat) : RC (nfq l) ++ [.b (decide (p.num < 0)), .l 1 (W (dg B p.num.natAbs)), .l 1 (W (dg B p.den))] = RC (nfq (l ++ [p])) := by
  rw [show nfq (l ++ [p]) = nfq l ++ [nqp p] from by simp [nfq], RC_app]; rfl
theorem QC_take (l : List Rat) (n : Nat) (h : n ≤ l.length) : (RC (nfq l)).take (n * 3) = RC (nfq (l.take n)) := by
  have e : nfq l = nfq (l.take n) ++ nfq (l.drop n) := by unfold nfq; rw [← List.map_append, List.take_append_drop]
  conv => lhs; rw [e]
  rw [RC_app, List.take_left' (by rw [QC_len, List.length_take]; omega)]
theorem Cq_Rr {l : List Rat} {m : Nat} (h : Cq l m) (i : Nat) : Rr (rN (l.getD i 0).num (l.getD i 0).den) (l.getD i 0) m := Rr_c (h i).1 (h i).2
theorem Cq_up {l : List Rat} {m n : Nat} (h : Cq l m) (k : m ≤ n) : Cq l n := fun i => ⟨pup (h i).1 k, pup (h i).2 k⟩
theorem psignR {v : V} {p : Rat} {m : Nat} (hv : Rr v p m) (hm : m ≤ 49000000) : AFun Tryz.prog J0 61 [v] (.t [.i .i64 (sgz p.num), .i .i64 0]) := by
  obtain ⟨s, a, d, rfl, ha, hd, la, ld, h0, rfl⟩ := hv
  have h := qsign_spec s a d m (by omega) ha hd la ld
  rw [if_neg h0, re_p h0] at h
  have e : sgz (mkRat (zv s a) (nv B d)).num = sgz (zv s a) := by
    rw [← r_num h0]
    unfold sgz
    have hg : 0 < (rG (zv s a) (nv B d) : Int) := by exact_mod_cast rG_pos h0
    have hdv : (rG (zv s a) (nv B d) : Int) ∣ zv s a := Int.ofNat_dvd_left.2 (Nat.gcd_dvd_left _ _)
    have hm : rz (zv s a) (nv B d) * (rG (zv s a) (nv B d) : Int) = zv s a := Int.tdiv_mul_cancel hdv
    have h1 : rz (zv s a) (nv B d) < 0 ↔ zv s a < 0 := by
      constructor
      · intro h; rw [← hm]; exact Int.mul_neg_of_neg_of_pos h hg
      · intro h
        refine Classical.byContradiction fun hn => ?_
        have := Int.mul_nonneg (Int.not_lt.1 hn) (Int.le_of_lt hg)
        omega
    have h2 : rz (zv s a) (nv B d) = 0 ↔ zv s a = 0 := by
      constructor
      · intro h; rw [← hm, h, Int.zero_mul]
      · intro h
        exact (Int.mul_eq_zero.1 (hm.trans h)).resolve_right (by omega)
    have h3 : 0 < rz (zv s a) (nv B d) ↔ 0 < zv s a := by omega
    simp only [h1, h3]
  rw [e]; exact h
theorem sgz_num (p : Rat) : sgz p.num = 0 ↔ p = 0 := by
  rw [sgz_z]
  constructor
  · intro h; exact Rat.num_eq_zero.1 h
  · intro h; rw [h]; rfl
def a69 : AC := .seq (.reg [qr 1 (.bx 31 (.t 0)),
 qr 2 (.mv (.k (.b false)))])
 (.seq (.reg [qr 6 (.ld true 3 (.t 1)),
 qr 7 (.call 61 [(1, (.t 6))]),
 qm 5 7,
 qr 8 (.ext (.t 5) 0),
 qr 9 (.ext (.t 5) 1),
 qm 3 8,
 qm 4 9])
 (.seq (.reg [qm 10 3,
 qr 11 (.bin .eql (.t 10) (.k (.i .i64 0))),
 qm 2 11])
 (.ret)))
theorem pzero_spec {v : V} {p : Rat} {m : Nat} (hv : Rr v p m) (hm : m ≤ 49000000) : AFun Tryz.prog J0 69 [v] (.b (decide (p = 0))) := by
  have h1 := psignR hv hm
  rw [show decide (p = 0) = decide (sgz p.num = 0) from by rw [decide_eq_decide]; exact (sgz_num p).symm]
  obtain ⟨s, a, d, rfl, _⟩ := hv
  generalize sgz p.num = g at *
  refine mkQ fol J0s Tryz.func69 a69 ?_
  unfold a69
  simp only [init_eq, initE, qm, qr, qn]
  exact wdQ @bz_QP1
def a40 : AC := .seq (.reg [qr 2 (.mv (.k .nl))])
 (.seq (.reg [qm 4 0,
 qr 5 (.len (.t 4)),
 qm 3 5])
 (.seq (.blk 0
 (.loop
 (.seq (.seq (.reg [qm 6 3,
 qr 7 (.bin .gtr (.t 6) (.k (.i .i64 0))),
 qm 8 7,
 ⟨some 9, some (8, true), .mv (.t 0)⟩,
 ⟨some 10, some (8, true), .mv (.t 3)⟩,
 ⟨some 11, some (8, true), .bin .sub (.t 10) (.k (.i .i64 1))⟩,
 ⟨some 12, some (8, true), .idx 3 (.t 9) (.t 11)⟩,
 ⟨some 13, some (8, true), .ld true 3 (.t 12)⟩,
 ⟨some 14, some (8, true), .call 69 [(1, (.t 13))]⟩,
 qr 15 (.pick (.t 8) (.t 14) (.k (.b false)))])
 (.cond (.t 15)
 (.skip)
 (.exit 0)))
 (.blk 1
 (.reg [qm 16 3,
 qr 17 (.bin .sub (.t 16) (.k (.i .i64 1))),
 qm 3 17])))))
 (.seq (.reg [qm 18 0,
 qm 19 3,
 qr 20 (.sub 3 (.t 18) none (some (.t 19))),
 qm 2 20])
 (.ret))))
theorem ptrim_spec (l : List Rat) (m : Nat) (hm : m ≤ 49000000) (ll : l.length ≤ 1000000) (hp : Cq l m) : AFun Tryz.prog J0 40 [.o 31 3 (RC (nfq l))] (.ta 31 3 (RC (nfq (tzq l)))) := by
  have hlen : (RC (nfq l)).length / 3 = l.length := by rw [QC_len]; omega
  have hz := QC_len l
  refine AFun.mko fol J0s Tryz.func40 rfl (ac := a40) (by kernel_rfl) rfl rfl (by kernel_rfl) ?_
  apply vm_start
  unfold a40
  simp only [initL_eq, initE, lent, qm, qr, qn]
  refine spQ (ai @hlen @bz_QP1) ?_
  refine vm_loopA [] Nat (fun n => ⟨[(0, .ow 3 0 l.length), (3, .i .i64 (n : Int))], [(0, some ⟨31, 3, RC (nfq l), true, false⟩)], 1⟩) (fun n => n ≤ l.length ∧ tzq l = tzq (l.take n)) (fun n => n) l.length ⟨by omega, by rw [List.take_length]⟩ (by exact leQ) (by
    exact ltQ) ?_
  intro n ⟨hn, ht⟩ Q' hQ he hr
  by_cases h0 : 0 < (n : Int)
  · obtain ⟨k, rfl⟩ : ∃ k, n = k + 1 := ⟨n - 1, by omega⟩
    have hk : k < l.length := by omega
    have r1 := QC_row l k hk
    have hs := pzero_spec (Cq_Rr hp k) hm
    rw [rN_b] at hs
    by_cases h1 : l.getD k 0 = 0
    · rw [decide_eq_true h1] at hs
      refine wkQ (ai @r1 (ai @hz (ai @Nat.add_sub_cancel (ai @tn_sub1 (ai @h0 @bz_QP1))))) ?_
      refine hQ _ k ⟨by omega, ?_⟩ (by omega) ?_
      · rw [ht]; exact tzq_zero _ k (by omega) h1
      · simp (disch := (first | omega | assumption)) only [Sl, Sa, Sw, ↓reduceIte, Nat.reduceEqDiff, Nat.reduceLT, List.all_nil, List.all_cons, Nat.reduceBneDiff, Nat.reduceAdd, bne_iff_ne, ne_eq, reduceCtorEq, not_false_eq_true, not_true_eq_false, Bool.and_true, Bool.true_and, and_true, true_and, and_self, i_eq]
        try omega
    · rw [decide_eq_false h1] at hs
      have e : tzq l = l.take (k + 1) := by rw [ht, tzq_top _ k (by omega) h1]
      refine wkQ (ai @r1 (ai @hz (ai @Nat.add_sub_cancel (ai @tn_sub1 (ai @h0 @bz_QP1))))) ?_
      refine he _ _ ?_
      refine spQ @bz_QP1 ?_
      refine ⟨0, l.length, k + 1, _, rfl, rfl, rfl, ?_, ?_⟩
      · rw [QC_len]; omega
      · rw [e, QC_take _ _ (by omega)]
  · obtain rfl : n = 0 := by omega
    have e : tzq l = [] := by rw [ht]; rfl
    refine spQ (ai @h0 @bz_QP1) ?_
    refine he _ _ ?_
    refine spQ @bz_QP1 ?_
    refine ⟨0, l.length, 0, _, rfl, rfl, rfl, Nat.zero_le _, ?_⟩
    rw [e, Nat.zero_mul]; rfl
def wt : R3 → Nat
  | [] => 0
  | p :: r => p.2.1.length + p.2.2.length + wt r
def DD : R3 → Nat
  | [] => 1
  | p :: r => nv B p.2.2 * DD r
def Qk (l : R3) (m : Nat) : Prop := ∀ p, p ∈ l → Wd p.2.1 ∧ Wd p.2.2 ∧ p.2.1.length ≤ m ∧ p.2.2.length ≤ m ∧ nv B p.2.2 ≠ 0
theorem Qk_up {l : R3} {m n : Nat} (h : Qk l m) (k : m ≤ n) : Qk l n := fun p hp => by
  obtain ⟨h1, h2, h3, h4, h5⟩ := h p hp
  exact ⟨h1, h2, by omega, by omega, h5⟩
theorem Qk_Rr {l : R3} {m : Nat} (h : Qk l m) {i : Nat} (hi : i < l.length) : Rr (rL (l.getD i nul3).1 (l.getD i nul3).2.1 (l.getD i nul3).2.2) ((qcs l).getD i 0) m := by
  obtain ⟨h1, h2, h3, h4, h5⟩ := h _ (getD_mem hi)
  rw [qcs_get l i hi]
  exact Rr_raw h1 h2 h3 h4 h5
theorem raw_PB : ∀ {l : R3} {m : Nat}, Qk l m → DD l ≠ 0 ∧ DD l ≤ B ^ wt l ∧ ∀ i, Fq ((qcs l).getD i 0) (DD l) (B ^ wt l)
  | [], _, _ => ⟨by simp [DD], by simp [DD, wt], fun i => by rw [show (qcs []).getD i 0 = 0 from by simp [qcs]]; exact Fq_zero⟩
  | p :: r, m, h => by
    obtain ⟨h1, h2, h3, h4, h5⟩ := h p List.mem_cons_self
    obtain ⟨k1, k2, k3⟩ := raw_PB (l := r) (m := m) fun q hq => h q (List.mem_cons_of_mem _ hq)
    have b1 := nvlt h2 (Nat.le_refl _)
    have b2 := zv_lt (s := p.1) h1 (Nat.le_refl _)
    have hw : B ^ (p.2.1.length + p.2.2.length + wt r) = B ^ p.2.1.length * (B ^ p.2.2.length * B ^ wt r) := by rw [Nat.pow_add, Nat.pow_add, Nat.mul_assoc]
    have hp1 : 1 ≤ B ^ p.2.1.length := Nat.pow_pos B0
    have hle : nv B p.2.2 * DD r ≤ B ^ p.2.2.length * B ^ wt r := Nat.mul_le_mul (Nat.le_of_lt b1) k2
    refine ⟨Nat.mul_ne_zero h5 k1, ?_, fun i => ?_⟩
    · show nv B p.2.2 * DD r ≤ B ^ (p.2.1.length + p.2.2.length + wt r)
      rw [hw]
      exact Nat.le_trans hle (Nat.le_mul_of_pos_left _ hp1)
    · show Fq _ (nv B p.2.2 * DD r) (B ^ (p.2.1.length + p.2.2.length + wt r))
      cases i with
      | zero =>
        have := Fq_up (k := DD r) h5 k1 (x := qvp p) (M := B ^ p.2.1.length) ⟨zv p.1 p.2.1, by unfold qvp; rw [Rat.mkRat_eq_div], Nat.le_of_lt b2⟩
        refine Fq_le (show Fq ((qcs (p :: r)).getD 0 0) _ _ from this) ?_
        rw [hw]
        refine Nat.mul_le_mul_left _ (Nat.le_trans k2 (Nat.le_mul_of_pos_left _ (Nat.pow_pos B0)))
      | succ i =>
        have := Fq_up k1 h5 (k3 i)
        rw [Nat.mul_comm (DD r)] at this
        refine Fq_le (show Fq ((qcs (p :: r)).getD (i + 1) 0) _ _ from by simpa [qcs] using this) ?_
        rw [hw]
        refine Nat.le_trans ?_ (Nat.le_mul_of_pos_left _ hp1)
        rw [Nat.mul_comm]
        exact Nat.mul_le_mul_right _ (Nat.le_of_lt b1)
theorem Qk_Cq {l : R3} {m : Nat} (h : Qk l m) : Cq (qcs l) (m + 1) := fun i => by
  by_cases hi : i < l.length
  · obtain ⟨h1, h2⟩ := Rr_num (Qk_Rr h hi)
    exact ⟨pup h1 (by omega), pup h2 (by omega)⟩
  · rw [gq0 (by rw [qcs_len]; omega)]
    have : 1 < B ^ (m + 1) := Nat.lt_of_lt_of_le (show 1 < B ^ 1 by decide) (Nat.pow_le_pow_right B0 (by omega))
    exact ⟨by simpa using (Nat.pow_pos B0), this⟩
theorem Qk_nfq {l : List Rat} {m : Nat} (h : Cq l m) : Qk (nfq l) m := fun p hp => by
  obtain ⟨c, hc, rfl⟩ := List.mem_map.1 hp
  obtain ⟨i, hi, rfl⟩ := List.getElem_of_mem hc
  have := h i
  rw [List.getD_eq_getElem?_getD, List.getElem?_eq_getElem hi] at this
  exact ⟨Wd_dg _, Wd_dg _, dlen this.1, dlen this.2, by show nv B (dg B _) ≠ 0; rw [nv_dgB]; exact Rat.den_nz _⟩
end Go.Proofs.YtbkpaeejjepnpaaGreat
