/-
  div.Mod, Exact, Up, Near, MulMod, raw.
-/
import Derived.Test.YtdaedplbhpiacaaDQ6
import Derived.Test.YtdaedplbhpiacaaP1
namespace Go.Proofs.Ytdaedplbhpiacaa
open Go Go.RowKit Go.Proofs Ab
set_option linter.unusedSimpArgs false
set_option linter.unusedVariables false
set_option maxHeartbeats 10000000
set_option maxHeartbeats 4000000
set_option maxRecDepth 2000000
theorem fin2 {fn : Func} {a : Act} {w w' : World} {A : List Nat} {f : Int} {v : Value} {n s t : Nat} (hr : resSlots fn.results.toList = some [s, t]) (hd : a.defers = []) (h4 : a.tmps.getD s undef = v) (h5 : a.tmps.getD t undef = .int .i64 f) (hb : Below w.heap.size w w') (o1 : w'.ownsRow w.heap.size 24 1 v n (Wv A)) :
    bodyPost Try.prog fn (RowT w A (.int .i64 f)) .ret a w' := by
  refine ⟨hd, _, resSlots_run hr _ _, v, n, ?_, hb, o1, ?_⟩
  · show Ending.returned (.tuple #[a.tmps.getD s undef, a.tmps.getD t undef]) = _
    rw [h4, h5]
  · rcases o1.2 with ⟨_, rfl⟩ | ⟨g, cap, cur, _, _, _, h3, h4, _⟩
    · exact Nat.zero_le _
    · exact Nat.le_trans h3 h4
theorem own_mx {w : World} {B n : Nat} {v : Value} {xs : List Value} (o1 : w.ownsRow B 24 1 v n xs) : n ≤ maxLen := by
  rcases o1.2 with ⟨_, rfl⟩ | ⟨g, cap, cur, _, _, _, h3, h4, _⟩
  · exact Nat.zero_le _
  · exact Nat.le_trans h3 h4
theorem own_nn {w : World} {B n : Nat} {v : Value} {A : List Nat} (o1 : w.ownsRow B 24 1 v n (Wv A)) : n = A.length := by
  have := o1.1
  simp only [Wv, List.length_map] at this
  omega
section
variable {w : World} {va vb : Value} {a b : List Nat} {Ha : Nat → Prop} (hHlt : ∀ q, Ha q → q < w.heap.size) (hva : Rep0 w Ha va (.l 1 (W a))) (hvb : Rep0 w Ha vb (.l 1 (W b))) (ha : Wd a) (hb : Wd b) (la : a.length ≤ 1000000000) (lb : b.length ≤ 1000000000)
include hHlt hva hvb ha hb la lb
theorem mod_raw : Calls Try.prog 7 #[va, vb] w (RowT w (qR (nv B a) (nv B b)) (.int .i64 (qE (nv B b)))) := by
  refine calls_at (vs := [va, vb]) Try.func7 (c := qf Try.f7) rfl (by show 2 ≤ _; decide) fun a0 z0 e0 d0 => ?_
  have i0 : a0.tmps.getD 0 undef = va := e0 0 (by show 0 < 2; decide)
  have i1 : a0.tmps.getD 1 undef = vb := e0 1 (by show 1 < 2; decide)
  change a0.tmps.size = 18 at z0
  refine wp_seq ?_
  refine dm0 z0 fun a1 z1 s1 d1 => ?_
  refine wp_seq ?_
  refine dm1 z1 ((s1 0 (by decide)).trans i0) ((s1 1 (by decide)).trans i1) (quo_raw hHlt hva hvb ha hb la lb) fun a2 w2 v1 v2 n1 n2 z2 s2 k6 k7 k8 d2 B2 o1 o2 _ => ?_
  refine wp_seq ?_
  refine dm2 z2 k7 k8 fun a3 z3 s3 h4 h5 d3 => ?_
  refine wp_ret ?_
  exact fin2 rfl (d3.trans (d2.trans (d1.trans d0))) h4 h5 B2 o2
theorem exact_raw : Calls Try.prog 11 #[va, vb] w (RowT w (exQ (nv B a) (nv B b)) (.int .i64 (exE (nv B a) (nv B b)))) := by
  have hq := quo_raw hHlt hva hvb ha hb la lb
  generalize nv B a = u at *
  generalize nv B b = v at *
  refine calls_at (vs := [va, vb]) Try.func11 (c := qf Try.f11) rfl (by show 2 ≤ _; decide) fun a0 z0 e0 d0 => ?_
  have i0 : a0.tmps.getD 0 undef = va := e0 0 (by show 0 < 2; decide)
  have i1 : a0.tmps.getD 1 undef = vb := e0 1 (by show 1 < 2; decide)
  change a0.tmps.size = 25 at z0
  refine wp_seq ?_
  refine dx0 z0 fun a1 z1 s1 d1 => ?_
  refine wp_seq ?_
  refine dx1 z1 ((s1 0 (by decide)).trans i0) ((s1 1 (by decide)).trans i1) hq fun a2 w2 v1 v2 n1 n2 z2 s2 k6 k7 k8 d2 B2 o1 o2 _ => ?_
  have dd : a2.defers = [] := d2.trans (d1.trans d0)
  refine wp_seq ?_
  refine wp_block ?_
  refine wp_seq ?_
  by_cases h0 : v = 0
  · subst h0
    rw [qE_0] at k8
    rw [show exQ u 0 = [] from if_pos rfl, show exE u 0 = 1 from if_pos rfl]
    refine dx2t z2 k8 fun a3 z3 s3 h16 d3 => ?_
    refine wp_cond_true h16 ?_
    refine wp_seq ?_
    refine dx3 z3 ((s3 8 (by decide)).trans k8) fun a4 z4 s4 h4 h5 d4 => ?_
    refine wp_ret ?_
    exact fin2 rfl (d4.trans (d3.trans dd)) h4 h5 B2 (own_nil _ _ _ _)
  rw [qE_p (by omega)] at k8
  refine dx2f z2 k8 fun a3 z3 s3 h16 d3 => ?_
  refine wp_cond_false h16 ?_
  refine wp_seq ?_
  obtain ⟨ta, tc, e2⟩ := ow_shape o2
  have l2 := own_nn o2
  by_cases h1 : u % v = 0
  · rw [show exQ u v = qQ u v from (if_neg h0).trans (if_pos h1), show exE u v = 0 from (if_neg h0).trans (if_pos h1)]
    have hl : ((qR u v).length : Int) = 0 := qR_nil.2 (.inr h1)
    refine dx4f z3 (((s3 7 (by decide)).trans k7).trans e2) (by omega) fun a4 z4 s4 h20 d4 => ?_
    refine wp_cond_false h20 ?_
    refine wp_skip ?_
    refine wp_seq ?_
    refine dx6 z4 ((s4 6 (by decide)).trans ((s3 6 (by decide)).trans k6)) fun a5 z5 s5 h4 h5 d5 => ?_
    refine wp_ret ?_
    exact fin2 rfl (d5.trans (d4.trans (d3.trans dd))) h4 h5 B2 o1
  · rw [show exQ u v = [] from (if_neg h0).trans (if_neg h1), show exE u v = 4 from (if_neg h0).trans (if_neg h1)]
    have hl : (0 : Int) < ((qR u v).length : Int) := by
      have : ¬ ((qR u v).length : Int) = 0 := fun h => by rcases qR_nil.1 h with h2 | h2 <;> omega
      omega
    refine dx4t z3 (((s3 7 (by decide)).trans k7).trans e2) (by omega) fun a4 z4 s4 h20 d4 => ?_
    refine wp_cond_true h20 ?_
    refine wp_seq ?_
    refine dx5 z4 fun a5 z5 s5 h4 h5 d5 => ?_
    refine wp_ret ?_
    exact fin2 rfl (d5.trans (d4.trans (d3.trans dd))) h4 h5 B2 (own_nil _ _ _ _)
theorem up_raw : Calls Try.prog 8 #[va, vb] w (RowT w (upQ (nv B a) (nv B b)) (.int .i64 (qE (nv B b)))) := by
  have hq := quo_raw hHlt hva hvb ha hb la lb
  have hql := qQ_len (v := nv B b) (nvlt ha la)
  have hof := natOf_spec 1 (by decide)
  generalize nv B a = u at *
  generalize nv B b = v at *
  have had := add_spec (qQ u v) (dg B 1) (qQ_Wd u v) (Wd_dg 1) (by omega) (by decide)
  rw [qQ_nv, nv1] at had
  refine calls_at (vs := [va, vb]) Try.func8 (c := qf Try.f8) rfl (by show 2 ≤ _; decide) fun a0 z0 e0 d0 => ?_
  have i0 : a0.tmps.getD 0 undef = va := e0 0 (by show 0 < 2; decide)
  have i1 : a0.tmps.getD 1 undef = vb := e0 1 (by show 1 < 2; decide)
  change a0.tmps.size = 26 at z0
  refine wp_seq ?_
  refine du0 z0 fun a1 z1 s1 d1 => ?_
  refine wp_seq ?_
  refine du1 z1 ((s1 0 (by decide)).trans i0) ((s1 1 (by decide)).trans i1) hq fun a2 w2 v1 v2 n1 n2 z2 s2 k6 k7 k8 d2 B2 o1 o2 _ => ?_
  have dd : a2.defers = [] := d2.trans (d1.trans d0)
  refine wp_seq ?_
  refine wp_seq ?_
  by_cases h0 : v = 0
  · subst h0
    rw [qE_0] at k8
    rw [show upQ u 0 = [] from if_pos rfl, qE_0]
    refine du2t z2 k8 fun a3 z3 s3 h16 d3 => ?_
    refine wp_cond_true h16 ?_
    refine wp_seq ?_
    refine du3 z3 ((s3 8 (by decide)).trans k8) fun a4 z4 s4 h4 h5 d4 => ?_
    refine wp_ret ?_
    exact fin2 rfl (d4.trans (d3.trans dd)) h4 h5 B2 (own_nil _ _ _ _)
  rw [qE_p (by omega)] at k8 ⊢
  refine du2f z2 k8 fun a3 z3 s3 h16 d3 => ?_
  refine wp_cond_false h16 ?_
  refine wp_skip ?_
  refine wp_seq ?_
  refine wp_seq ?_
  obtain ⟨ta, tc, e2⟩ := ow_shape o2
  have l2 := own_nn o2
  have q6 := (s3 6 (by decide)).trans k6
  by_cases h1 : u % v = 0
  · rw [show upQ u v = qQ u v from (if_neg h0).trans (if_pos h1)]
    have hl : ((qR u v).length : Int) = 0 := qR_nil.2 (.inr h1)
    refine du4f z3 (((s3 7 (by decide)).trans k7).trans e2) (by omega) fun a4 z4 s4 h20 d4 => ?_
    refine wp_cond_false h20 ?_
    refine wp_skip ?_
    refine wp_seq ?_
    refine du6 z4 ((s4 6 (by decide)).trans q6) fun a5 z5 s5 h4 h5 d5 => ?_
    refine wp_ret ?_
    exact fin2 rfl (d5.trans (d4.trans (d3.trans dd))) h4 h5 B2 o1
  · rw [show upQ u v = dg B (u / v + 1) from (if_neg h0).trans (if_neg h1)]
    have hl : (0 : Int) < ((qR u v).length : Int) := by
      have : ¬ ((qR u v).length : Int) = 0 := fun h => by rcases qR_nil.1 h with h2 | h2 <;> omega
      omega
    refine du4t z3 (((s3 7 (by decide)).trans k7).trans e2) (by omega) fun a4 z4 s4 h20 d4 => ?_
    refine wp_cond_true h20 ?_
    refine du5 z4 ((s4 6 (by decide)).trans q6) (A := dg B 1) (S := dg B (u / v + 1)) (o_raw (vs := [.int .u64 1]) (H := fun _ => False) hof (fun _ h => h.elim) (rp1 (.i _ _))) (fun x m w3 B3 ox mx => ?_) fun a5 w5 w6 u3 n3 z5 s5 h6 d5 B5 B6 o3 m3 => ?_
    · have p1 := (own_rep (ow_below o1 fun q hq => B3.block q (o1.lt q hq).2) (own_mx o1))
      have p2 := own_rep ox mx
      exact o_raw (vs := [_, x]) had (fun q h => h) (rp2 p1 p2)
    refine wp_seq ?_
    refine du6 z5 h6 fun a7 z7 s7 h4 h5 d7 => ?_
    refine wp_ret ?_
    have := B2.size
    have := B5.size
    exact fin2 rfl (d7.trans (d5.trans (d4.trans (d3.trans dd)))) h4 h5 (below_tr B2 (below_tr B5 B6)) (ow_base o3 (by omega))
theorem near_raw : Calls Try.prog 9 #[va, vb] w (RowT w (nrQ (nv B a) (nv B b)) (.int .i64 (qE (nv B b)))) := by
  obtain ⟨m, hm⟩ : ∃ m, m = 1000000000 := ⟨_, rfl⟩
  have lam : a.length ≤ m := by omega
  have hq := quo_raw hHlt hva hvb ha hb la lb
  have hql := qQ_len (v := nv B b) (nvlt ha la)
  have hrl := qR_len (v := nv B b) (nvlt ha la)
  have hof := natOf_spec 1 (by decide)
  have hrr := add_spec (qR (nv B a) (nv B b)) (qR (nv B a) (nv B b)) (qR_Wd _ _) (qR_Wd _ _) (by omega) (by omega)
  have had := add_spec (qQ (nv B a) (nv B b)) (dg B 1) (qQ_Wd _ _) (Wd_dg 1) (by omega) (by decide)
  rw [qQ_nv, nv1] at had
  refine calls_at (vs := [va, vb]) Try.func9 (c := qf Try.f9) rfl (by show 2 ≤ _; decide) fun a0 z0 e0 d0 => ?_
  have i0 : a0.tmps.getD 0 undef = va := e0 0 (by show 0 < 2; decide)
  have i1 : a0.tmps.getD 1 undef = vb := e0 1 (by show 1 < 2; decide)
  change a0.tmps.size = 29 at z0
  refine wp_seq ?_
  refine dn0 z0 fun a1 z1 s1 d1 => ?_
  refine wp_seq ?_
  have j1 := (s1 1 (by decide)).trans i1
  refine dn1 z1 ((s1 0 (by decide)).trans i0) j1 hq fun a2 w2 v1 v2 n1 n2 z2 s2 k6 k7 k8 d2 B2 o1 o2 _ => ?_
  have dd : a2.defers = [] := d2.trans (d1.trans d0)
  refine wp_seq ?_
  refine wp_seq ?_
  by_cases h0 : nv B b = 0
  · rw [h0, qE_0] at k8
    rw [h0, show nrQ (nv B a) 0 = [] from if_pos rfl, qE_0]
    refine dn2t z2 k8 fun a3 z3 s3 h16 d3 => ?_
    refine wp_cond_true h16 ?_
    refine wp_seq ?_
    refine dn3 z3 ((s3 8 (by decide)).trans k8) fun a4 z4 s4 h4 h5 d4 => ?_
    refine wp_ret ?_
    exact fin2 rfl (d4.trans (d3.trans dd)) h4 h5 B2 (own_nil _ _ _ _)
  rw [qE_p (by omega)] at k8 ⊢
  have hR : nv B (qR (nv B a) (nv B b)) = nv B a % nv B b := by rw [qR_p (by omega), nv_dgB]
  rw [hR] at hrr
  have hr2 : (dg B (nv B a % nv B b + nv B a % nv B b)).length ≤ m + 1 := dlen (padd (Nat.lt_of_le_of_lt (Nat.mod_le _ _) (nvlt ha lam)) (Nat.lt_of_le_of_lt (Nat.mod_le _ _) (nvlt ha lam)))
  have hcm := cmp_spec (dg B (nv B a % nv B b + nv B a % nv B b)) b (Wd_dg _) hb (by omega) (by omega)
  rw [nv_dgB] at hcm
  refine dn2f z2 k8 fun a3 z3 s3 h16 d3 => ?_
  refine wp_cond_false h16 ?_
  refine wp_skip ?_
  refine wp_seq ?_
  refine wp_seq ?_
  have q6 := (s3 6 (by decide)).trans k6
  have q7 := (s3 7 (by decide)).trans k7
  have q1 := (s3 1 (by decide)).trans ((s2 1 (by decide)).trans j1)
  have hlt2 : ∀ q, Ha q → q < w2.heap.size := fun q h => Nat.lt_of_lt_of_le (hHlt q h) B2.size
  have hvb2 := hvb.mono (w' := w2) (H' := fun q => q < w2.heap.size) hlt2 fun q h => B2.block q (hHlt q h)
  have pr := own_rep o2 (own_mx o2)
  have c1 := o_raw (vs := [v2, v2]) hrr (fun q h => h) (rp2 pr pr)
  have c2 : ∀ x m w3, Below w2.heap.size w2 w3 → w3.ownsRow w2.heap.size 24 1 x m (Wv (dg B (nv B a % nv B b + nv B a % nv B b))) → m ≤ maxLen → Calls Try.prog 29 #[x, vb] w3 (fun e w4 => e = .returned (.int .i64 (sg (nv B a % nv B b + nv B a % nv B b) (nv B b))) ∧ Below w3.heap.size w3 w4) := fun x m w3 B3 ox mx => i_raw (vs := [x, vb]) hcm (fun q h => h) (rp2 (own_rep ox mx) (hvb2.mono (fun q h => Nat.lt_of_lt_of_le h B3.size) fun q h => B3.block q h))
  by_cases h1 : nv B a % nv B b + nv B a % nv B b < nv B b
  · have hs : ¬ 0 ≤ sg (nv B a % nv B b + nv B a % nv B b) (nv B b) := fun h => by
      have := sg_lt (x := nv B a % nv B b + nv B a % nv B b) (y := nv B b)
      have := this.mpr h1
      omega
    rw [show nrQ (nv B a) (nv B b) = qQ (nv B a) (nv B b) from (if_neg h0).trans (if_pos h1)]
    refine dn4f z3 q7 q1 c1 c2 hs fun a4 w4 w5 z4 s4 h20 d4 B4 B5 => ?_
    refine wp_cond_false h20 ?_
    refine wp_skip ?_
    refine wp_seq ?_
    refine dn6 z4 ((s4 6 (by decide)).trans q6) fun a5 z5 s5 h4 h5 d5 => ?_
    refine wp_ret ?_
    have B25 := below_tr B4 B5
    exact fin2 rfl (d5.trans (d4.trans (d3.trans dd))) h4 h5 (below_tr B2 B25) (ow_below o1 fun q hq => B25.block q (o1.lt q hq).2)
  · have hs : 0 ≤ sg (nv B a % nv B b + nv B a % nv B b) (nv B b) := by
      have := sg_lt (x := nv B a % nv B b + nv B a % nv B b) (y := nv B b)
      exact Int.not_lt.1 fun h => h1 (this.mp h)
    rw [show nrQ (nv B a) (nv B b) = dg B (nv B a / nv B b + 1) from (if_neg h0).trans (if_neg h1)]
    refine dn4t z3 q7 q1 c1 c2 hs fun a4 w4 w5 z4 s4 h20 d4 B4 B5 => ?_
    have B25 := below_tr B4 B5
    refine wp_cond_true h20 ?_
    have o15 := ow_below o1 fun q hq => B25.block q (o1.lt q hq).2
    refine dn5 z4 ((s4 6 (by decide)).trans q6) (A := dg B 1) (S := dg B (nv B a / nv B b + 1)) (o_raw (vs := [.int .u64 1]) (H := fun _ => False) hof (fun _ h => h.elim) (rp1 (.i _ _))) (fun x m w3 B3 ox mx => ?_) fun a5 w6 w7 u3 n3 z5 s5 h6 d5 B6 B7 o3 m3 => ?_
    · have p1 := (own_rep (ow_below o15 fun q hq => B3.block q (o15.lt q hq).2) (own_mx o15))
      have p2 := own_rep ox mx
      exact o_raw (vs := [_, x]) had (fun q h => h) (rp2 p1 p2)
    refine wp_seq ?_
    refine dn6 z5 h6 fun a7 z7 s7 h4 h5 d7 => ?_
    refine wp_ret ?_
    have := B2.size
    have := B25.size
    have := B6.size
    exact fin2 rfl (d7.trans (d5.trans (d4.trans (d3.trans dd)))) h4 h5 (below_tr B2 (below_tr B25 (below_tr B6 B7))) (ow_base o3 (by omega))
end
theorem l_raw {f : FuncId} {args : List V} {A : List Nat} {w : World} {H : Nat → Prop} {vs : List Value} (c : AFun Try.prog J0 f args (.l 1 (W A))) (hH : ∀ q, H q → q < w.heap.size) (hr : RepAll w H vs args) : Calls Try.prog f vs.toArray w (fun e w1 => ∃ a n c, e = .returned (.slice a n c) ∧ Below w.heap.size w w1 ∧ Rep0 w1 (fun q => q < w1.heap.size) (.slice a n c) (.l 1 (W A))) := by
  refine ((c.to0 rfl) w H vs trivial (tj0 _ _) hH hr).mono ?_
  rintro e w' ⟨v, rfl, hB, N, hN, h⟩
  rcases h with h | ⟨e, sz, cs, n, xs, he, _⟩ | ⟨r, h, _⟩
  · obtain ⟨a, n, c, rfl⟩ := rep_slice h
    exact ⟨a, n, c, rfl, hB, h.mono (fun q hq => hq.elim (fun h => Nat.lt_of_lt_of_le (hH q h) hB.size) (fun h => (hN q h).2)) fun _ _ => rfl⟩
  · cases he
  · cases h
theorem mulMod_raw {w : World} {va vb vm : Value} {a b m : List Nat} {Ha : Nat → Prop} (hHlt : ∀ q, Ha q → q < w.heap.size) (hva : Rep0 w Ha va (.l 1 (W a))) (hvb : Rep0 w Ha vb (.l 1 (W b))) (hvm : Rep0 w Ha vm (.l 1 (W m))) (ha : Wd a) (hb : Wd b) (hm : Wd m) (la : a.length ≤ 10000000) (lb : b.length ≤ 10000000) (lm : m.length ≤ 10000000) :
    Calls Try.prog 13 #[va, vb, vm] w (RowT w (qR (nv B a * nv B b) (nv B m)) (.int .i64 (qE (nv B m)))) := by
  have h1 := mul_spec a b ha hb (by omega) (by omega)
  have hl : (dg B (nv B a * nv B b)).length ≤ a.length + b.length := dlen (by rw [Nat.pow_add]; exact Nat.mul_lt_mul_of_lt_of_lt (nv_lt ha) (nv_lt hb))
  refine calls_at (vs := [va, vb, vm]) Try.func13 (c := qf Try.f13) rfl (by show 3 ≤ _; decide) fun a0 z0 e0 d0 => ?_
  have i0 : a0.tmps.getD 0 undef = va := e0 0 (by show 0 < 3; decide)
  have i1 : a0.tmps.getD 1 undef = vb := e0 1 (by show 1 < 3; decide)
  have i2 : a0.tmps.getD 2 undef = vm := e0 2 (by show 2 < 3; decide)
  change a0.tmps.size = 15 at z0
  refine wp_seq ?_
  refine dk0 z0 fun a1 z1 s1 d1 => ?_
  refine wp_seq ?_
  refine dk1 z1 ((s1 0 (by decide)).trans i0) ((s1 1 (by decide)).trans i1) ((s1 2 (by decide)).trans i2) (Q1 := fun v w1 => Below w.heap.size w w1 ∧ Rep0 w1 (fun q => q < w1.heap.size) v (.l 1 (W (dg B (nv B a * nv B b))))) (A := qR (nv B a * nv B b) (nv B m)) (f := qE (nv B m)) (l_raw (vs := [va, vb]) h1 hHlt (rp2 hva hvb)) (fun v w1 hQ => ?_) fun a2 v w1 w2 u n z2 s2 h6 h7 d2 hQ B2 o2 m2 => ?_
  · have := mod_raw (w := w1) (fun q h => h) hQ.2 (hvm.mono (fun q h => Nat.lt_of_lt_of_le (hHlt q h) hQ.1.size) fun q h => hQ.1.block q (hHlt q h)) (Wd_dg _) hm (by omega) (by omega)
    rwa [nv_dgB] at this
  refine wp_ret ?_
  exact fin2 rfl (d2.trans (d1.trans d0)) h6 h7 (below_tr hQ.1 B2) (ow_base o2 hQ.1.size)
end Go.Proofs.Ytdaedplbhpiacaa
