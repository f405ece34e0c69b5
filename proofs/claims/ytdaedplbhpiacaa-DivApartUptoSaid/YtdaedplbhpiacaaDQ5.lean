/-
  div.Quo, raw: quotient and remainder as rows of the caller's own.
-/
import Derived.Test.YtdaedplbhpiacaaDQ4
namespace Go.Proofs.Ytdaedplbhpiacaa
open Go Go.RowKit Go.Proofs Ab
set_option linter.unusedSimpArgs false
set_option linter.unusedVariables false
set_option maxHeartbeats 10000000
set_option maxHeartbeats 4000000
set_option maxRecDepth 2000000
theorem below_rf (w : World) : Below w.heap.size w w := ⟨rfl, rfl, rfl, Nat.le_refl _, fun _ _ => rfl⟩
theorem own_nil (w : World) (B e sz : Nat) : w.ownsRow B e sz (.slice none 0 0) 0 (Wv []) := ⟨by simp [Wv], .inl ⟨rfl, rfl⟩⟩
theorem quo_fin {a : Act} {w w' : World} {A1 A2 : List Nat} {f : Int} {v1 v2 : Value} {n1 n2 : Nat} (hd : a.defers = []) (h4 : a.tmps.getD 4 undef = v1) (h5 : a.tmps.getD 5 undef = v2) (h6 : a.tmps.getD 6 undef = .int .i64 f) (hb : Below w.heap.size w w') (o1 : w'.ownsRow w.heap.size 24 1 v1 n1 (Wv A1)) (o2 : w'.ownsRow w.heap.size 24 1 v2 n2 (Wv A2)) (hs : ∀ q, v1.ownBlock = some q → v2.ownBlock ≠ some q) :
    bodyPost Try.prog Try.f6 (CutR w A1 A2 f) .ret a w' := by
  refine ⟨hd, _, resSlots_run (show resSlots Try.f6.results.toList = some [4, 5, 6] from rfl) _ _, v1, v2, n1, n2, ?_, hb, o1, o2, hs⟩
  show Ending.returned (.tuple #[a.tmps.getD 4 undef, a.tmps.getD 5 undef, a.tmps.getD 6 undef]) = _
  rw [h4, h5, h6]
theorem quo_raw {w : World} {va vb : Value} {a b : List Nat} {Ha : Nat → Prop} (hHlt : ∀ q, Ha q → q < w.heap.size) (hva : Rep0 w Ha va (.l 1 (W a))) (hvb : Rep0 w Ha vb (.l 1 (W b))) (ha : Wd a) (hb : Wd b) (la : a.length ≤ 1000000000) (lb : b.length ≤ 1000000000) :
    Calls Try.prog 6 #[va, vb] w (CutR w (qQ (nv B a) (nv B b)) (qR (nv B a) (nv B b)) (qE (nv B b))) := by
  have hna := norm_spec a (by omega)
  have hnb := norm_spec b (by omega)
  have ta : (tz a).length ≤ 1000000000 := Nat.le_trans (tz_len a) la
  have tb : (tz b).length ≤ 1000000000 := Nat.le_trans (tz_len b) lb
  have wa := Lt_tz ha
  have wb := Lt_tz hb
  have va' : nv B (tz a) = nv B a := nv_tz a
  have vb' : nv B (tz b) = nv B b := nv_tz b
  have ea := tz_tz a
  have eb := tz_tz b
  rw [← va', ← vb']
  generalize tz a = x at *
  generalize tz b = y at *
  clear va' vb'
  have hcm := cmp_spec x y wa wb (by omega) (by omega)
  have eDm : ∀ h1 : nv B x < nv B y, dg B (nv B x % nv B y) = x := fun h1 => by rw [Nat.mod_eq_of_lt h1, ← tz_dg B2 wa, ea]
  have eQ : ∀ h1 : nv B x < nv B y, qQ (nv B x) (nv B y) = [] := fun h1 => by unfold qQ; rw [Nat.div_eq_of_lt h1]; rfl
  have wsp := fun (hp : 0 < nv B y) (hlt : nv B y < 18446744073709551616) => wordO x (nv B y) wa hp hlt (by omega)
  have g1' : y.length = 1 → y.getD 0 0 = nv B y := fun h => nv_get1 (b := y) h
  have yB : y.length = 1 → nv B y < 18446744073709551616 := fun h => by
    have := nv_lt wb
    rw [h, Nat.pow_one] at this; exact this
  have tp : y ≠ [] → 0 < nv B y := fun hy => Nat.lt_of_lt_of_le (Nat.pow_pos (by decide)) (nv_top (b := B) eb hy)
  have kl : ¬ nv B x < nv B y → y ≠ [] → y.length ≤ x.length := fun h1 hy => by
    have htop := nv_top (b := B) eb hy
    have := nv_lt wa
    have h3 : B ^ (y.length - 1) < B ^ x.length := by omega
    have := (Nat.pow_lt_pow_iff_right (by decide : 1 < B)).1 h3
    omega
  have kt : y ≠ [] → 2 ≤ y.length → y.getD (y.length - 1) 0 ≠ 0 := fun hy h2 h => by
    have h4 := tz_zero y (y.length - 1) (by omega) h
    rw [show y.length - 1 + 1 = y.length from by omega, List.take_length, eb] at h4
    have := tz_len (y.take (y.length - 1))
    rw [← h4, List.length_take] at this; omega
  refine calls_at (vs := [va, vb]) Try.func6 (c := qf Try.f6) rfl (by show 2 ≤ _; decide) fun a0 z0 e0 d0 => ?_
  have i0 : a0.tmps.getD 0 undef = va := e0 0 (by show 0 < 2; decide)
  have i1 : a0.tmps.getD 1 undef = vb := e0 1 (by show 1 < 2; decide)
  change a0.tmps.size = 51 at z0
  refine wp_seq ?_
  refine dq0 z0 fun a1 z1 s1 _ _ _ d1 => ?_
  refine wp_seq ?_
  refine dq1 z1 ((s1 0 (by decide) (by decide) (by decide) (by decide)).trans i0) ((s1 1 (by decide) (by decide) (by decide) (by decide)).trans i1) (A1 := x) (A2 := y) (o_raw (vs := [va]) hna hHlt (rp1 hva)) (fun w1 hB => o_raw (vs := [vb]) hnb (fun q h => Nat.lt_of_lt_of_le (hHlt q h) hB.size) (rp1 (hvb.mono (fun _ h => h) fun q h => hB.block q (hHlt q h)))) fun a2 w1 w2 u0 u1 n0 n1 z2 s2 k0 k1 d2 B1 o0 m0 B2' o1 m1 => ?_
  have B2 := below_tr B1 B2'
  have s1' := B1.size
  have s2' := B2'.size
  have o0' := ow_below o0 fun q hq => B2'.block q (o0.lt q hq).2
  have o1' := ow_base o1 s1'
  have rx : ∀ w', Below w2.heap.size w2 w' → Rep0 w' (fun q => q < w2.heap.size) u0 (.l 1 (W x)) := fun w' hB => (own_rep o0' m0).mono (fun q h => h) fun q h => hB.block q h
  have ry : ∀ w', Below w2.heap.size w2 w' → Rep0 w' (fun q => q < w2.heap.size) u1 (.l 1 (W y)) := fun w' hB => (own_rep o1' m1).mono (fun q h => h) fun q h => hB.block q h
  have hs2 : ∀ w', Below w2.heap.size w2 w' → ∀ q, q < w2.heap.size → q < w'.heap.size := fun w' hB q hq => Nat.lt_of_lt_of_le hq hB.size
  have hd2 : a2.defers = [] := d2.trans (d1.trans d0)
  have ln1 : y.length = n1 := by have := o1.1; simp only [Wv, List.length_map] at this; omega
  obtain ⟨ua, uc, eu1⟩ := ow_shape o1
  refine wp_seq ?_
  refine wp_block ?_
  refine wp_seq ?_
  by_cases hy : (n1 : Int) = 0
  · have hy0 : y = [] := List.eq_nil_of_length_eq_zero (by omega)
    refine dq2t z2 (k1.trans eu1) hy fun a3 z3 s3 k16 d3 => ?_
    refine wp_cond_true k16 ?_
    refine wp_seq ?_
    refine dq3 z3 fun a4 z4 s4 h4 h5 h6 d4 => ?_
    refine wp_ret ?_
    rw [hy0, show nv B [] = 0 from rfl, qQ_0, qR_0, qE_0]
    exact quo_fin (d4.trans (d3.trans hd2)) h4 h5 h6 B2 (own_nil _ _ _ _) (own_nil _ _ _ _) fun q hq => by cases hq
  have hyn : y ≠ [] := fun h => hy (by rw [← ln1, h]; rfl)
  have hp := tp hyn
  rw [qE_p hp, qR_p hp]
  refine dq2f z2 (k1.trans eu1) hy fun a3 z3 s3 k16 d3 => ?_
  refine wp_cond_false k16 ?_
  refine wp_seq ?_
  have hcc := i_raw (vs := [u0, u1]) hcm (hs2 w2 (below_rf w2)) (rp2 (rx w2 (below_rf w2)) (ry w2 (below_rf w2)))
  have k0' := (s3 0 (by decide)).trans k0
  have k1' := (s3 1 (by decide)).trans k1
  by_cases hlt : nv B x < nv B y
  · have hs : sg (nv B x) (nv B y) < 0 := by rw [sg_lt]; exact hlt
    refine dq4t z3 k0' k1' hcc hs fun a4 w4 z4 s4 k20 d4 B4 => ?_
    refine wp_cond_true k20 ?_
    refine wp_seq ?_
    refine dq5 z4 ((s4 0 (by decide)).trans k0') fun a5 z5 s5 h4 h5 h6 d5 => ?_
    refine wp_ret ?_
    rw [eQ hlt, eDm hlt]
    exact quo_fin (d5.trans (d4.trans (d3.trans hd2))) h4 h5 h6 (below_tr B2 B4) (own_nil _ _ _ _) (ow_below o0' fun q hq => B4.block q (o0'.lt q hq).2) fun q hq => by cases hq
  have hs : ¬ sg (nv B x) (nv B y) < 0 := fun h => hlt (by rwa [sg_lt] at h)
  refine dq4f z3 k0' k1' hcc hs fun a4 w4 z4 s4 k20 d4 B4 => ?_
  refine wp_cond_false k20 ?_
  refine wp_seq ?_
  have k0'' := (s4 0 (by decide)).trans k0'
  have k1'' := (s4 1 (by decide)).trans k1'
  have s4' := B4.size
  by_cases h1 : (n1 : Int) = 1
  · obtain ⟨p, c, ep⟩ := row_addr o1 (by omega)
    have e1 : n1 = 1 := by omega
    subst e1
    rw [ep] at k1'' o1'
    refine dq6t z4 k1'' h1 fun a5 z5 s5 k26 d5 => ?_
    refine wp_cond_true k26 ?_
    have o1w := ow_below o1' fun q hq => B4.block q (o1'.lt q hq).2
    have hx : w4.cell? ⟨p, 0, none⟩ = some (.int .u64 ((nv B y : Nat) : Int)) := by
      rw [o1w.cellAt 0 (by decide), ← g1' ln1]
      match y, ln1 with
      | [z], _ => rfl
    have hyB := yB ln1
    have hmod : nv B x % nv B y < 18446744073709551616 := Nat.lt_trans (Nat.mod_lt _ hp) hyB
    refine wp_seq ?_
    refine dq7 z5 ((s5 0 (by decide)).trans k0'') ((s5 1 (by decide)).trans k1'') hx (to_raw3 (vs := [u0, .int .u64 ((nv B y : Nat) : Int)]) (wsp hp hyB) (fun w' H' v h => (Rep.up (ov := fun _ => none) h).inv_i) (fun w' H' v h => (Rep.up (ov := fun _ => none) h).inv_i) (hs2 w4 B4) (rp2 (rx w4 B4) (.i _ _))) fun a6 w6 u7 n7 z6 s6 k7 k8 k9 d6 B6 o7 m7 => ?_
    have s6' := B6.size
    refine wp_seq ?_
    refine dq8 z6 k7 k8 k9 (o_raw (vs := [.int .u64 ((nv B x % nv B y : Nat) : Int)]) (H := fun _ => False) (natOf_spec (nv B x % nv B y) hmod) (fun _ h => h.elim) (rp1 (.i _ _))) fun a7 w7 v8 n8 z7 s7 h4 h5 h6 d7 B7 o8 m8 => ?_
    refine wp_ret ?_
    have oF := ow_below o7 fun q hq => B7.block q (o7.lt q hq).2
    exact quo_fin (d7.trans (d6.trans (d5.trans (d4.trans (d3.trans hd2))))) h4 h5 h6 (below_tr B2 (below_tr B4 (below_tr B6 B7))) (ow_base oF (by have := B2.size; omega)) (ow_base o8 (by have := B2.size; omega)) fun q hq hq2 => by
      have := (o7.lt q hq).2
      have := (o8.lt q hq2).1
      omega
  · refine dq6f z4 (k1''.trans eu1) h1 fun a5 z5 s5 k26 d5 => ?_
    refine wp_cond_false k26 ?_
    refine wp_skip ?_
    refine wp_seq ?_
    have h2 : 2 ≤ y.length := by omega
    refine dq9 z5 ((s5 0 (by decide)).trans k0'') ((s5 1 (by decide)).trans k1'') (knuth_raw (hs2 w4 B4) (rx w4 B4) (ry w4 B4) wa wb (by omega) h2 (kl hlt hyn) (kt hyn h2)) fun a6 w6 v1 v2 m1' m2' z6 s6 k10 k11 d6 B6 oA oB hs12 => ?_
    refine wp_seq ?_
    refine dq10 z6 k10 k11 fun a7 z7 s7 h4 h5 h6 d7 => ?_
    refine wp_ret ?_
    exact quo_fin (d7.trans (d6.trans (d5.trans (d4.trans (d3.trans hd2))))) h4 h5 h6 (below_tr B2 (below_tr B4 B6)) (ow_base oA (by have := B2.size; omega)) (ow_base oB (by have := B2.size; omega)) hs12
end Go.Proofs.Ytdaedplbhpiacaa
