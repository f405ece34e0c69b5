/-
  The texts AP43, AP44, AP45, AP46, AP47, AP48, AP49.
-/
import Derived.Test.YtdafakcccjjpiaaHG
import Derived.Test.YtdafakcccjjpiaaHC
namespace Go.Proofs.Ytdafakcccjjpiaa
open Go Go.RowKit Go.Proofs Ab
set_option linter.unusedSimpArgs false
set_option linter.unusedVariables false
set_option maxHeartbeats 10000000
set_option maxHeartbeats 4000000
set_option maxRecDepth 2000000
theorem dgle {v m : Nat} (h : v < B ^ m) : (dg B v).length ≤ m := dg_len B2 h
theorem ansL_len {n : Int} {A1 A2 : List Nat} {us : Nat → Value} {L3 : List (Value × List Nat)} (w1 : Wd A1) (w2 : Wd A2) (b1 : A1.length ≤ 100000000) (b2 : A2.length ≤ 100000000) (h3 : ∀ p, p ∈ L3 → p.2.length ≤ 1000000000) : ∀ p, p ∈ ansL n A1 A2 us L3 → p.2.length ≤ 1000000000 := by
  have v1 := nv_lt w1
  have v2 := nv_lt w2
  obtain ⟨M, hM⟩ : ∃ M, M = max A1.length A2.length := ⟨_, rfl⟩
  have u1 : nv B A1 < B ^ M := Nat.lt_of_lt_of_le v1 (Nat.pow_le_pow_right (Nat.le_trans (by decide) B2) (by omega))
  have u2 : nv B A2 < B ^ M := Nat.lt_of_lt_of_le v2 (Nat.pow_le_pow_right (Nat.le_trans (by decide) B2) (by omega))
  have eS : (sumE A1 A2).length ≤ 1000000000 := by
    have h5 : B ^ M * 2 ≤ B ^ (M + 1) := Nat.mul_le_mul_left _ B2
    have := dgle (v := nv B A1 + nv B A2) (m := M + 1) (by omega)
    unfold sumE; omega
  have eD : (difE A1 A2).length ≤ 1000000000 := by
    unfold difE
    split
    · have := dgle (v := nv B A2 - nv B A1) (m := M) (by omega); omega
    · have := dgle (v := nv B A1 - nv B A2) (m := M) (by omega); omega
  have eU : (subE A1 A2).length ≤ 1000000000 := by
    unfold subE
    split
    · simp
    · have := dgle (v := nv B A1 - nv B A2) (m := M) (by omega); omega
  have eH : (shrR (nv B A1) n).1.length ≤ 1000000000 := by
    unfold shrR
    split
    · simp
    · have := dgle (v := nv B A1 / 2 ^ n.toNat) (m := M) (Nat.lt_of_le_of_lt (Nat.div_le_self _ _) u1)
      show (dg B _).length ≤ _
      omega
  have eL : (lowR (nv B A1) n).length ≤ 1000000000 := by
    unfold lowR
    split
    · simp
    · have := dgle (v := nv B A1 % 2 ^ n.toNat) (m := M) (Nat.lt_of_le_of_lt (Nat.mod_le _ _) u1)
      omega
  have eP : (shlR (nv B A1) (bits .and .i64 n 127)).1.length ≤ 1000000000 := by
    obtain ⟨k, hk, hke⟩ := and127 n
    rw [hke]
    unfold shlR
    rw [if_neg (by omega)]
    have h4 : (2 : Nat) ^ k ≤ B ^ 2 := Nat.le_trans (Nat.pow_le_pow_right (by decide) hk) (by unfold B; decide)
    have h5 : nv B A1 * 2 ^ k < B ^ (M + 2) := by
      rw [Nat.pow_add]
      exact Nat.lt_of_lt_of_le (Nat.mul_lt_mul_of_pos_right u1 (Nat.pow_pos (by decide))) (Nat.mul_le_mul_left _ h4)
    have := dgle (m := M + 2) h5
    show (dg B (nv B A1 * 2 ^ ((k : Int)).toNat)).length ≤ _
    rw [Int.toNat_natCast]
    omega
  have eM : (tz A1).length ≤ 1000000000 := by
    rw [tz_dg B2 w1]
    have := dgle (m := M) u1
    omega
  intro p hp
  simp only [ansL, List.mem_append, List.mem_cons, List.not_mem_nil, or_false] at hp
  rcases hp with (rfl | rfl | rfl | rfl | rfl | rfl | rfl | rfl | rfl) | hp | rfl | rfl
  · exact eS
  · exact eS
  · exact eD
  · exact eU
  · exact eH
  · exact eL
  · exact eH
  · exact eP
  · exact eM
  · exact h3 p hp
  · exact eS
  · exact eM
theorem own_rep {w : World} {B n : Nat} {v : Value} {A : List Nat} (h : w.ownsRow B 45 1 v n (Wv A)) (hn : n ≤ maxLen) : Rep0 w (fun q => q < w.heap.size) v (.l 1 (W A)) := row_l Nat.one_pos h (Wv_rep A) hn fun q hq => (h.lt q hq).2
theorem own_len {w : World} {B n : Nat} {v : Value} {A : List Nat} (h : w.ownsRow B 45 1 v n (Wv A)) (hn : n ≤ maxLen) : A.length ≤ 9223372036854775807 := by
  have h1 := h.1
  simp only [Wv, List.length_map] at h1
  unfold maxLen at hn
  omega
theorem Cl.rep {w0 w : World} {L : List (Value × List Nat)} (h : Cl w0 w L) {v : Value} {A : List Nat} (hp : (v, A) ∈ L) : Rep0 w (fun q => q < w.heap.size) v (.l 1 (W A)) ∧ A.length ≤ 9223372036854775807 ∧ ∃ a n c, v = .slice a n c := by
  obtain ⟨m, hm, ho⟩ := h.own _ hp
  obtain ⟨a, c, e⟩ := ow_shape ho
  exact ⟨own_rep ho hm, own_len ho hm, a, m, c, e⟩
theorem na_checks {a : Act} {w0 w : World} {R : Exit → Act → World → Prop} {n : Int} {k : Nat} {A1 A2 : List Nat} {L : List (List Nat)} {f us : Nat → Value} {L3 : List (Value × List Nat)} (hz : a.tmps.size = 264) (hd : a.defers = []) (hf : ∀ t, t < 39 → a.tmps.getD t undef = us t) (hA : Ans w0 w n A1 A2 f us L3) (h2 : f 2 = .int .i64 n) (h10 : f 10 = .int .i64 (k : Int))
    (h7 : k = 0 → Rep0 w (fun q => q < w.heap.size) (f 7) (.ip [.any, .l 1 (LA L), .l 1 (LA L)] 0)) (lL : L.length ≤ 1000000) (aL : ∀ a, a ∈ L → a.length ≤ 1000000000000) (wd1 : Wd A1) (wd2 : Wd A2) (b1 : A1.length ≤ 100000000) (b2 : A2.length ≤ 100000000) (hn : n < 9223372036854775808)
    (kk : ∀ (a' : Act) (w' : World), a'.tmps.size = 264 → (∀ t, t ∈ kpL → a'.tmps.getD t undef = us t) → a'.defers = [] → Below w.heap.size w w' → (qd 17 (naD Try.f3)).wp Try.prog R a' w') : (qd 11 (naD Try.f3)).wp Try.prog R a w := by
  have hus : ∀ t, t ∈ kpL → t < 39 := by decide
  have r27 : ∀ w' : World, Below w.heap.size w w' → Rep0 w' (fun q => q < w'.heap.size) (us 27) (.l 1 (L3.map fun p => V.c p.1)) := fun w' hb => by
    have ho := ow_below hA.row fun q hq => hb.block q (hA.row.lt q hq).2
    refine row_l Nat.one_pos ho ⟨by simp, fun j v x h1 h2 => ?_⟩ (by unfold maxLen; omega) fun q hq => (ho.lt q hq).2
    simp only [List.getElem?_map, Option.map_eq_some_iff] at h1 h2
    obtain ⟨p, h3, rfl⟩ := h1
    obtain ⟨q, h4, rfl⟩ := h2
    rw [h3] at h4; cases h4
    exact .c _
  have mid : ∀ (a' : Act) (w' : World), a'.tmps.size = 264 → (∀ t, t ∈ kpL → a'.tmps.getD t undef = a.tmps.getD t undef) → a'.defers = [] → Below w.heap.size w w' → (qd 12 (naD Try.f3)).wp Try.prog R a' w' := fun a1 w1 z1 s1 d1 B1 => by
    have C := hA.cl.below B1
    have su : ∀ t, t ∈ kpL → a1.tmps.getD t undef = us t := fun t ht => (s1 t ht).trans (hf t (hus t ht))
    obtain ⟨m1, hm1, o1⟩ := hA.was
    obtain ⟨m2, hm2, o2⟩ := hA.old2
    have o1' := ow_below o1 fun q hq => B1.block q (o1.lt q hq).2
    have o2' := ow_below o2 fun q hq => B1.block q (o2.lt q hq).2
    have memA : ∀ {v : Value} {A : List Nat}, (v, A) ∈ ansL n A1 A2 us L3 → Rep0 w1 (fun q => q < w1.heap.size) v (.l 1 (W A)) ∧ A.length ≤ 9223372036854775807 ∧ ∃ a n c, v = .slice a n c := fun h => C.rep h
    have p13 := memA (v := us 13) (A := sumE A1 A2) (by simp [ansL])
    have p14 := memA (v := us 14) (A := sumE A1 A2) (by simp [ansL])
    have p15 := memA (v := us 15) (A := difE A1 A2) (by simp [ansL])
    have p17 := memA (v := us 17) (A := subE A1 A2) (by simp [ansL])
    have p19 := memA (v := us 19) (A := (shrR (nv B A1) n).1) (by simp [ansL])
    have p20 := memA (v := us 20) (A := lowR (nv B A1) n) (by simp [ansL])
    have p22 := memA (v := us 22) (A := (shrR (nv B A1) n).1) (by simp [ansL])
    have p24 := memA (v := us 24) (A := (shlR (nv B A1) (bits .and .i64 n 127)).1) (by simp [ansL])
    have p26 := memA (v := us 26) (A := tz A1) (by simp [ansL])
    have p28 := memA (v := us 28) (A := sumE A1 A2) (by simp [ansL])
    have p29 := memA (v := us 29) (A := tz A1) (by simp [ansL])
    have c6 := rnorm_spec A1 wd1 (by omega)
    rw [← tz_dg B2 wd1] at c6
    refine na_chk (H := fun q => q < w1.heap.size) (x := A1) (y := A2) (S := sumE A1 A2) (D := difE A1 A2) (U := subE A1 A2) (Hi := (shrR (nv B A1) n).1) (Lo := lowR (nv B A1) n) (Up := (shlR (nv B A1) (bits .and .i64 n 127)).1) (M := tz A1) (n := n) (e := ((if nv B A1 < nv B A2 then 2 else 0 : Nat) : Int)) (f := (shrR (nv B A1) n).2) (h := (shlR (nv B A1) (bits .and .i64 n 127)).2) (z := decide (nv B A1 < nv B A2)) z1 d1 (fun q h => h) p13.2.1 p15.2.1 p17.2.1 p19.2.1 p20.2.1 p24.2.1 p26.2.1
      (rdiff_spec A1 A2 wd1 wd2 (by omega) (by omega)) (rsub_spec A1 A2 wd1 wd2 (by omega) (by omega)) (rcut_spec A1 n wd1 (by omega) hn) (rshl_spec A1 _ wd1 (by omega)) (radd_spec A1 A2 wd1 wd2 (by omega) (by omega)) c6 (fun p hp => ?_) (fun a' w' z s d b => kk a' w' z (fun t ht => (s t ht).trans (su t ht)) d (below_tr B1 b))
    simp only [List.mem_cons, List.not_mem_nil, or_false] at hp
    rcases hp with rfl | rfl | rfl | rfl | rfl | rfl | rfl | rfl | rfl | rfl | rfl | rfl | rfl | rfl | rfl | rfl | rfl | rfl
    · rw [su 2 (by decide), hA.old 2 (by decide), h2]; exact .i _ _
    · rw [su 11 (by decide)]; exact .base (own_rep o1' hm1)
    · rw [su 12 (by decide)]; exact .base (own_rep o2' hm2)
    · rw [su 13 (by decide)]; exact .base p13.1
    · rw [su 14 (by decide)]; exact .base p14.1
    · rw [su 15 (by decide)]; exact .base p15.1
    · rw [su 17 (by decide)]; exact .base p17.1
    · rw [su 18 (by decide), hA.s18]; exact .i _ _
    · rw [su 19 (by decide)]; exact .base p19.1
    · rw [su 20 (by decide)]; exact .base p20.1
    · rw [su 21 (by decide), hA.s21]; exact .i _ _
    · rw [su 22 (by decide)]; exact .base p22.1
    · rw [su 23 (by decide), hA.s23]; exact .i _ _
    · rw [su 24 (by decide)]; exact .base p24.1
    · rw [su 25 (by decide), hA.s25]; exact .i _ _
    · rw [su 26 (by decide)]; exact .base p26.1
    · rw [su 28 (by decide)]; exact .base p28.1
    · rw [su 29 (by decide)]; exact .base p29.1
  have e10 : a.tmps.getD 10 undef = .int .i64 (k : Int) := (hf 10 (by decide)).trans ((hA.old 10 (by decide)).trans h10)
  have e27 : a.tmps.getD 27 undef = us 27 := hf 27 (by decide)
  have e7 : a.tmps.getD 7 undef = f 7 := (hf 7 (by decide)).trans (hA.old 7 (by decide))
  have B0 : Below w.heap.size w w := ⟨rfl, rfl, rfl, Nat.le_refl _, fun _ _ => rfl⟩
  by_cases hk : k = 0
  · refine na_unt (H := fun q => q < w.heap.size) (x0 := .any) (L := L) (cs := L3.map fun p => V.c p.1) (k := k) hz hd (fun q h => h) (by rw [List.length_map, hA.l3]) (fun _ => untouched_spec L .any lL aL) ?_ e10 ?_ mid
    · rw [e7]; exact .base (h7 hk)
    · rw [e27]; exact .base (r27 w B0)
  · refine na_unt1 (H := fun q => q < w.heap.size) (cs := L3.map fun p => V.c p.1) (k := k) hz hd (fun q h => h) (by rw [List.length_map, hA.l3]) hk e10 ?_ mid
    rw [e27]; exact .base (r27 w B0)
end Go.Proofs.Ytdafakcccjjpiaa
namespace Go.Proofs.Ytdafakcccjjpiaa
open Go Go.RowKit Go.Proofs Ab
set_option linter.unusedSimpArgs false
set_option linter.unusedVariables false
set_option maxHeartbeats 10000000
set_option maxHeartbeats 4000000
set_option maxRecDepth 2000000
structure Outs (w0 : World) (b : Nat) (vl vf vu : Value) (Lv Fv Uv vs : List Value) (w' : World) (vl' vf' vu' : Value) (Fs Us : List Value) : Prop where
  bel : BelE w0 (Bq b vl vf vu) w'
  bn : Bn w' b vl' vf' vu' (Lv ++ vs) (Fv ++ Fs) (Uv ++ Us)
  lf : Fs.length = vs.length
  lu : Us.length = vs.length
  ff : ∀ v, v ∈ Fs → ∃ a c, v = .slice a 0 c
  fu : ∀ v, v ∈ Us → ∃ a c, v = .slice a 0 c
theorem na_outs {a : Act} {w0 w w1 : World} {R : Exit → Act → World → Prop} {n : Int} {b m : Nat} {A1 A2 : List Nat} {f us : Nat → Value} {L3 : List (Value × List Nat)} {vl vf vu : Value} {Lv Fv Uv : List Value} (hz : a.tmps.size = 264) (hd : a.defers = []) (hf : ∀ t, t ∈ kpL → a.tmps.getD t undef = us t) (hA : Ans w0 w n A1 A2 f us L3) (h7 : f 7 = .pointer (some ⟨b, 0, none⟩)) (hB0 : Below w0.heap.size w0 w) (hB1 : Below w.heap.size w w1)
    (hb : Bn w0 b vl vf vu Lv Fv Uv) (l1 : Lv.length = m) (l2 : Fv.length = m) (l3 : Uv.length = m) (cl : ∀ v, v ∈ Lv → v.oneCell' = true) (cf : ∀ v, v ∈ Fv → v.oneCell' = true) (cu : ∀ v, v ∈ Uv → v.oneCell' = true) (hm : m ≤ 500)
    (kk : ∀ (a' : Act) (w' : World) (vl' vf' vu' : Value) (Fs Us : List Value), a'.tmps.size = 264 → a'.defers = [] → (∀ t, t ∈ [2, 7, 8, 9, 10] → a'.tmps.getD t undef = f t) → Outs w0 b vl vf vu Lv Fv Uv ((ansL n A1 A2 us L3).map fun p => p.1) w' vl' vf' vu' Fs Us → (∀ q, Bq b vl' vf' vu' q → Bq b vl vf vu q ∨ w0.heap.size ≤ q) → Cl w0 w' (ansL n A1 A2 us L3) → (∀ p q, p ∈ ansL n A1 A2 us L3 → p.1.ownBlock = some q → ¬ Bq b vl' vf' vu' q) → (qd 18 (naD Try.f3)).wp Try.prog R a' w') : (qd 17 (naD Try.f3)).wp Try.prog R a w1 := by
  obtain ⟨p0, p1, p2, rfl⟩ : ∃ p0 p1 p2, L3 = [p0, p1, p2] := by
    have := hA.l3
    match L3, this with
    | [x, y, z], _ => exact ⟨x, y, z, rfl⟩
  have hrow := ow_below hA.row fun q hq => hB1.block q (hA.row.lt q hq).2
  have C := hA.cl.below hB1
  have hb1 := (hb.below hB0).below hB1
  obtain ⟨q, c, e27⟩ := row_addr hrow (by decide)
  rw [e27] at hrow
  have k0 := hrow.cellAt 0 (by decide)
  have k1 := hrow.cellAt 1 (by decide)
  have k2 := hrow.cellAt 2 (by decide)
  have E7 : a.tmps.getD 7 undef = .pointer (some ⟨b, 0, none⟩) := (hf 7 (by decide)).trans ((hA.old 7 (by decide)).trans h7)
  obtain ⟨vs, hvs⟩ : ∃ vs, vs = [us 13, us 14, us 15, us 17, us 19, us 20, us 22, us 24, us 26, p0.1, p1.1, p2.1, us 28, us 29] := ⟨_, rfl⟩
  have hev : (ansL n A1 A2 us [p0, p1, p2]).map (fun p => p.1) = vs := by rw [hvs]; simp [ansL]
  have hform : ∀ v, v ∈ vs → ∃ a n c, v = Value.slice a n c := fun v hv => by
    rw [← hev] at hv
    obtain ⟨p, hp, rfl⟩ := List.mem_map.1 hv
    exact (C.rep (v := p.1) (A := p.2) hp).2.2
  have hlt := hb1.lt
  have bw : Below w1.heap.size w1 (World.alloc { w1 with drawn := w1.drawn + 1 } (.cells #[us 13, us 14, us 15, us 17, us 19, us 20, us 22, us 24, us 26, p0.1, p1.1, p2.1, us 28, us 29] 23)) := by
    have h := below_alloc { w1 with drawn := w1.drawn + 1 } (.cells #[us 13, us 14, us 15, us 17, us 19, us 20, us 22, us 24, us 26, p0.1, p1.1, p2.1, us 28, us 29] 23)
    exact ⟨h.os, h.tape, h.output, h.size, h.block⟩
  have own := World.ownsRow_lit (base := 0) (e := 23) (size := 1) { w1 with drawn := w1.drawn + 1 } #[us 13, us 14, us 15, us 17, us 19, us 20, us 22, us 24, us 26, p0.1, p1.1, p2.1, us 28, us 29] 14 (Nat.zero_le _) (by unfold maxLen; omega) rfl
  have sz : w1.heap.size < (World.alloc { w1 with drawn := w1.drawn + 1 } (.cells #[us 13, us 14, us 15, us 17, us 19, us 20, us 22, us 24, us 26, p0.1, p1.1, p2.1, us 28, us 29] 23)).heap.size := by
    rw [World.size_alloc]; exact Nat.lt_succ_self _
  have hva : Rep0 (World.alloc { w1 with drawn := w1.drawn + 1 } (.cells #[us 13, us 14, us 15, us 17, us 19, us 20, us 22, us 24, us 26, p0.1, p1.1, p2.1, us 28, us 29] 23)) (fun q => q = w1.heap.size) (.slice (some ⟨w1.heap.size, 0, none⟩) 14 14) (.l 1 (vs.map V.c)) := by
    refine row_l Nat.one_pos own ?_ (by unfold maxLen; omega) fun q hq => by cases hq; rfl
    rw [← hvs]
    exact ⟨by rw [List.length_map], fun j v x h1 h2 => by
      rw [List.getElem?_map, h1] at h2
      cases h2; exact .c _⟩
  generalize hW : World.alloc { w1 with drawn := w1.drawn + 1 } (.cells #[us 13, us 14, us 15, us 17, us 19, us 20, us 22, us 24, us 26, p0.1, p1.1, p2.1, us 28, us 29] 23) = W at *
  have hout := out_raw (va := .slice (some ⟨w1.heap.size, 0, none⟩) 14 14) (vs := vs) (Ha := fun q => q = w1.heap.size) (hb1.below bw) (fun q hq => by rw [hq]; exact sz) (fun q hq h => by have := hlt q hq; omega) hva l1 l2 l3 cl cf cu (fun v hv => by obtain ⟨a, n, c, rfl⟩ := hform v hv; rfl) (by omega) (by rw [hvs]; show 14 ≤ _; omega)
  refine wp_seq ?_
  refine na_out (Qf := fun w' => OutR W b vl vf vu Lv Fv Uv vs (.returned (.tuple #[])) w') hz E7 ((hf 27 (by decide)).trans e27) (hf 13 (by decide)) (hf 14 (by decide)) (hf 15 (by decide)) (hf 17 (by decide)) (hf 19 (by decide)) (hf 20 (by decide)) (hf 22 (by decide)) (hf 24 (by decide)) (hf 26 (by decide)) (hf 28 (by decide)) (hf 29 (by decide)) (fun v hv => hform v (hvs ▸ hv)) k0 k1 k2 ?_ fun a2 w2 z2 s2 d2 hQ => ?_
  · rw [hW]
    exact hout.mono fun e w' h => by
      obtain ⟨x1, x2, x3, x4, x5, he, h⟩ := h
      exact ⟨he, x1, x2, x3, x4, x5, rfl, h⟩
  obtain ⟨vl', vf', vu', Fs, Us, _, hbel, hbn, lF, lU, fF, fU, hq⟩ := hQ
  have s0 := hB0.size
  have s1 := hB1.size
  have sW := bw.size
  have hold : ∀ q, Bq b vl vf vu q → q < w0.heap.size := hb.lt
  have C2 : Cl w0 w2 (ansL n A1 A2 us [p0, p1, p2]) := (C.below bw).keep fun p x hp hx => by
    have h := (C.below bw).lt hp hx
    exact hbel.block x h.2 (fun h' => by have := hold x h'; omega)
  refine kk a2 w2 vl' vf' vu' Fs Us z2 (d2.trans hd) (fun t ht => ?_) ⟨⟨hbel.os.trans (bw.os.trans (hB1.os.trans hB0.os)), hbel.tape.trans (bw.tape.trans (hB1.tape.trans hB0.tape)), hbel.output.trans (bw.output.trans (hB1.output.trans hB0.output)), by have := hbel.size; omega, fun x hx hne => (hbel.block x (by omega) hne).trans ((bw.block x (by omega)).trans ((hB1.block x (by omega)).trans (hB0.block x hx)))⟩, by rw [hev]; exact hbn, by rw [hev]; exact lF, by rw [hev]; exact lU, fF, fU⟩ (fun x hx => (hq x hx).imp id fun h => by omega) C2 (fun p x hp hx hbq => ?_)
  · have h1 : t < 235 ∧ t ∈ kpL ∧ t < 11 := by
      have : ∀ t, t ∈ [2, 7, 8, 9, 10] → t < 235 ∧ t ∈ kpL ∧ t < 11 := by decide
      exact this t ht
    rw [s2 t h1.1, hf t h1.2.1, hA.old t h1.2.2]
  · have h := (C.below bw).lt hp hx
    have h1 := C.lt hp hx
    rcases hq x hbq with h2 | h2
    · have := hold x h2; omega
    · omega
end Go.Proofs.Ytdafakcccjjpiaa
namespace Go.Proofs.Ytdafakcccjjpiaa
open Go Go.RowKit Go.Proofs Ab
set_option linter.unusedSimpArgs false
set_option linter.unusedVariables false
set_option maxHeartbeats 10000000
set_option maxHeartbeats 4000000
set_option maxRecDepth 2000000
theorem na_scr {a : Act} {w : World} {R : Exit → Act → World → Prop} {b : Nat} {Qf : World → Prop} (hz : a.tmps.size = 264) (h7 : a.tmps.getD 7 undef = .pointer (some ⟨b, 0, none⟩)) (h10 : a.tmps.getD 10 undef = .int .i64 0)
    (hcall : Calls Try.prog 24 #[.pointer (some ⟨b, 0, none⟩)] w (fun e w' => e = .returned (.tuple #[]) ∧ Qf w'))
    (kk : ∀ (a' : Act) (w' : World), a'.tmps.size = 264 → (∀ t, t < 39 → a'.tmps.getD t undef = a.tmps.getD t undef) → a'.defers = a.defers → Qf w' → R .normal a' w') : (qd 18 (naD Try.f3)).wp Try.prog R a w := by
  have g10 := gI hz h10 (by decide)
  have g7 := gI hz h7 (by decide)
  have kkA := PLift.up kk
  clear kk
  refine wp_seq_k fun K0 hK0 => ?_
  have hk0 := PLift.up hK0
  clear hK0
  refine wp_region_lit ?_
  go_wp2
  refine hk0.down _ _ ?_
  refine wp_cond_true (by rw [eval_tmp]; dsimp only; rw [gset_eq (by simp [hz])]) ?_
  have e7 : (a.tmps.setIfInBounds 258 (Value.int .i64 0)).getD 7 undef = .pointer (some ⟨b, 0, none⟩) := by rw [gset_ne (by decide)]; exact h7
  refine wp_region_lit ?_
  go_wp2_with (go_at_call 24; refine hcall.mono ?_; rintro e w1 ⟨rfl, hq⟩)
  refine kkA.down _ w1 (by simp [hz]) (fun t ht => ?_) rfl hq
  dsimp only
  rw [gset_ne (by omega), gset_ne (by omega), gset_ne (by omega), gset_ne (by omega)]
theorem na_noscr {a : Act} {w : World} {R : Exit → Act → World → Prop} {k : Nat} (hz : a.tmps.size = 264) (h10 : a.tmps.getD 10 undef = .int .i64 (k : Int)) (hk : k ≠ 0)
    (kk : ∀ (a' : Act), a'.tmps.size = 264 → (∀ t, t < 39 → a'.tmps.getD t undef = a.tmps.getD t undef) → a'.defers = a.defers → R .normal a' w) : (qd 18 (naD Try.f3)).wp Try.prog R a w := by
  have g10 := gI hz h10 (by decide)
  have hk' : ¬ (k : Int) = 0 := by omega
  have kkA := PLift.up kk
  clear kk
  refine wp_seq_k fun K0 hK0 => ?_
  have hk0 := PLift.up hK0
  clear hK0
  refine wp_region_lit ?_
  go_wp2
  refine hk0.down _ _ ?_
  refine wp_cond_false (by rw [eval_tmp]; dsimp only; rw [gset_eq (by simp [hz])]; exact congrArg Value.bool (beq_eq_false_iff_ne.2 hk')) ?_
  go_wp2
  refine kkA.down _ (by simp [hz]) (fun t ht => ?_) rfl
  dsimp only
  rw [gset_ne (by omega), gset_ne (by omega)]
def naL (f : Func) : Code := ql (qb (q2 (q1 (qd 4 (qf f)))))
theorem na_cond {a : Act} {w : World} {R : Exit → Act → World → Prop} {k : Nat} (hz : a.tmps.size = 264) (h10 : a.tmps.getD 10 undef = .int .i64 (k : Int)) (hk : k ≤ 2)
    (kt : k < 2 → ∀ a' : Act, a'.tmps.size = 264 → (∀ t, t < 39 → a'.tmps.getD t undef = a.tmps.getD t undef) → a'.defers = a.defers → R .normal a' w)
    (kf : k = 2 → ∀ a' : Act, a'.tmps.size = 264 → (∀ t, t < 39 → a'.tmps.getD t undef = a.tmps.getD t undef) → a'.defers = a.defers → R (.exit 0) a' w) : (q1 (naL Try.f3)).wp Try.prog R a w := by
  have g10 := gI hz h10 (by decide)
  have hA := PLift.up (And.intro kt kf)
  clear kt kf
  by_cases hi : (k : Int) < 2
  · refine wp_seq_k fun K0 hK0 => ?_
    have hk0 := PLift.up hK0
    clear hK0
    refine wp_region_lit ?_
    go_wp2
    refine hk0.down _ _ ?_
    refine wp_cond_true (by rw [eval_tmp]; dsimp only; rw [gset_eq (by simp [hz])]) ?_
    go_wp2
    refine hA.down.1 (by omega) _ (by simp [hz]) (fun t ht => ?_) rfl
    dsimp only
    rw [gset_ne (by omega), gset_ne (by omega)]
  · refine wp_seq_k fun K0 hK0 => ?_
    have hk0 := PLift.up hK0
    clear hK0
    refine wp_region_lit ?_
    go_wp2
    refine hk0.down _ _ ?_
    refine wp_cond_false (by rw [eval_tmp]; dsimp only; rw [gset_eq (by simp [hz])]) ?_
    go_wp2
    refine hA.down.2 (by omega) _ (by simp [hz]) (fun t ht => ?_) rfl
    dsimp only
    rw [gset_ne (by omega), gset_ne (by omega)]
theorem na_step {a : Act} {w : World} {R : Exit → Act → World → Prop} {k : Nat} (hz : a.tmps.size = 264) (h10 : a.tmps.getD 10 undef = .int .i64 (k : Int)) (hk : k ≤ 1000)
    (kk : ∀ a' : Act, a'.tmps.size = 264 → (∀ t, t < 39 → t ≠ 10 → a'.tmps.getD t undef = a.tmps.getD t undef) → a'.tmps.getD 10 undef = .int .i64 ((k : Int) + 1) → a'.defers = a.defers → R .normal a' w) : (q2 (q2 (naL Try.f3))).wp Try.prog R a w := by
  have g10 := gI hz h10 (by decide)
  have kkA := PLift.up kk
  clear kk
  refine wp_region_lit ?_
  go_wp2
  refine kkA.down _ (by simp [hz]) (fun t ht hne => ?_) ?_ rfl
  · dsimp only
    rw [gset_ne (by omega), gset_ne (by omega), gset_ne (by omega)]
  · dsimp only
    rw [gset_eq (by simp [hz])]
end Go.Proofs.Ytdafakcccjjpiaa
namespace Go.Proofs.Ytdafakcccjjpiaa
open Go Go.RowKit Go.Proofs Ab
set_option linter.unusedSimpArgs false
set_option linter.unusedVariables false
set_option maxHeartbeats 10000000
set_option maxHeartbeats 4000000
set_option maxRecDepth 2000000
theorem known_raw (w : World) : Calls Try.prog 4 #[] w (fun e w' => e = .returned (.bool true) ∧ Below w.heap.size w w') := by
  refine ((known_spec.to0 rfl) w (fun _ => False) [] trivial (tj0 _ _) (fun _ h => h.elim) ⟨rfl, fun j v x h => by simp at h⟩).mono ?_
  rintro e w' ⟨v, rfl, hB, N, hN, h⟩
  rcases h with h | ⟨e, sz, cs, n, xs, he, _⟩ | ⟨r, h, _⟩
  · cases h; exact ⟨rfl, hB⟩
  · cases he
  · cases h
theorem na_begin {a : Act} {w : World} {R : Exit → Act → World → Prop} (hz : a.tmps.size = 264)
    (kk : ∀ (a' : Act) (w1 : World), a'.tmps.size = 264 → (∀ t, t < 3 → a'.tmps.getD t undef = a.tmps.getD t undef) → a'.defers = a.defers → Below w.heap.size w w1 → (qd 2 (qf Try.f3)).wp Try.prog R a' w1) : (qf Try.f3).wp Try.prog R a w := by
  have hA := PLift.up kk
  clear kk
  refine wp_seq_k fun K0 hK0 => ?_
  have hk0 := PLift.up hK0
  clear hK0
  refine wp_region_lit ?_
  go_wp2
  refine hk0.down _ _ ?_
  clear hk0
  refine wp_seq_k fun K1 hK1 => ?_
  have hk1 := PLift.up hK1
  clear hK1
  refine wp_seq_k fun K2 hK2 => ?_
  have hk2 := PLift.up hK2
  clear hK2
  have kn := known_raw w
  refine wp_region_lit ?_
  go_wp2_with (go_at_call 4; refine kn.mono ?_; rintro e w1 ⟨rfl, hB⟩)
  refine hk2.down _ _ ?_
  refine wp_cond_false (by rw [eval_tmp]; dsimp only; rw [gset_eq (by simp [hz])]) ?_
  go_wp2
  refine hk1.down _ _ ?_
  refine hA.down _ w1 (by simp [hz]) (fun t ht => ?_) rfl hB
  dsimp only
  rw [gset_ne (by omega), gset_ne (by omega), gset_ne (by omega)]
theorem na_book {a : Act} {w : World} {R : Exit → Act → World → Prop} (hz : a.tmps.size = 264)
    (kk : ∀ (a' : Act), a'.tmps.size = 264 → (∀ t, t < 3 → a'.tmps.getD t undef = a.tmps.getD t undef) → a'.tmps.getD 7 undef = .pointer (some ⟨w.heap.size, 0, none⟩) → a'.defers = a.defers → R .normal a' (w.alloc (.cells #[.slice none 0 0, .slice none 0 0, .slice none 0 0] 28))) : (q1 (qd 2 (qf Try.f3))).wp Try.prog R a w := by
  have hA := PLift.up kk
  clear kk
  refine wp_region_lit ?_
  go_wp2
  refine hA.down _ (by simp [hz]) (fun t ht => ?_) ?_ rfl
  · dsimp only
    rw [gset_ne (by omega), gset_ne (by omega), gset_ne (by omega)]
  · dsimp only
    rw [gset_eq (by simp [hz])]
theorem na_in {a : Act} {w : World} {R : Exit → Act → World → Prop} {b : Nat} {va vb : Value} {Q1 : Value → World → Prop} {Q2 : Value → World → Value → World → Prop} (hz : a.tmps.size = 264) (h0 : a.tmps.getD 0 undef = va) (h1 : a.tmps.getD 1 undef = vb) (h7 : a.tmps.getD 7 undef = .pointer (some ⟨b, 0, none⟩))
    (c1 : Calls Try.prog 5 #[.pointer (some ⟨b, 0, none⟩), va] w (fun e w1 => ∃ g n c, e = .returned (.slice (some ⟨g, 0, none⟩) n c) ∧ Q1 (.slice (some ⟨g, 0, none⟩) n c) w1)) (c2 : ∀ x w1, Q1 x w1 → Calls Try.prog 5 #[.pointer (some ⟨b, 0, none⟩), vb] w1 (fun e w2 => ∃ g n c, e = .returned (.slice (some ⟨g, 0, none⟩) n c) ∧ Q2 x w1 (.slice (some ⟨g, 0, none⟩) n c) w2))
    (kk : ∀ (a' : Act) (w1 w2 : World) (x y : Value), a'.tmps.size = 264 → (∀ t, t < 8 → a'.tmps.getD t undef = a.tmps.getD t undef) → a'.tmps.getD 8 undef = x → a'.tmps.getD 9 undef = y → a'.defers = a.defers → Q1 x w1 → Q2 x w1 y w2 → R .normal a' w2) : (q1 (qd 3 (qf Try.f3))).wp Try.prog R a w := by
  have g0 := gI hz h0 (by decide)
  have g1 := gI hz h1 (by decide)
  have g7 := gI hz h7 (by decide)
  have hA := PLift.up (And.intro kk c2)
  clear kk c2
  refine wp_region_lit ?_
  go_wp2_with (first
    | (go_at_call 5; refine c1.mono ?_; clear c1; rintro e w1 ⟨gx, nx, cx, rfl, hQ1⟩; have hP := PLift.up hQ1; clear hQ1)
    | (go_at_call 5; refine (hA.down.2 _ _ hP.down).mono ?_; rintro e w2 ⟨gy, ny, cy, rfl, hQ2⟩))
  refine hA.down.1 _ w1 w2 _ _ (by simp [hz]) (fun t ht => ?_) ?_ ?_ rfl hP.down hQ2
  · dsimp only
    rw [gset_ne (by omega), gset_ne (by omega), gset_ne (by omega), gset_ne (by omega), gset_ne (by omega), gset_ne (by omega), gset_ne (by omega), gset_ne (by omega)]
  · dsimp only
    rw [gset_ne (by decide), gset_eq (by simp [hz])]
  · dsimp only
    rw [gset_eq (by simp [hz])]
theorem na_end {a : Act} {w : World} {R : Exit → Act → World → Prop} {b : Nat} {Qf : World → Prop} (hz : a.tmps.size = 264) (h7 : a.tmps.getD 7 undef = .pointer (some ⟨b, 0, none⟩))
    (c1 : Calls Try.prog 25 #[.pointer (some ⟨b, 0, none⟩)] w (fun e w1 => e = .returned (.bool true) ∧ Qf w1))
    (kk : ∀ (a' : Act) (w1 : World), a'.tmps.size = 264 → a'.tmps.getD 6 undef = .bool true → a'.defers = a.defers → Qf w1 → R .ret a' w1) : (qd 5 (qf Try.f3)).wp Try.prog R a w := by
  have g7 := gI hz h7 (by decide)
  have hA := PLift.up kk
  clear kk
  refine wp_seq_k fun K0 hK0 => ?_
  have hk0 := PLift.up hK0
  clear hK0
  refine wp_region_lit ?_
  go_wp2_with (go_at_call 25; refine c1.mono ?_; rintro e w1 ⟨rfl, hQ⟩)
  refine hk0.down _ _ ?_
  refine wp_ret ?_
  refine hA.down _ w1 (by simp [hz]) ?_ rfl hQ
  dsimp only
  rw [gset_eq (by simp [hz])]
end Go.Proofs.Ytdafakcccjjpiaa
namespace Go.Proofs.Ytdafakcccjjpiaa
open Go Go.RowKit Go.Proofs Ab
set_option linter.unusedSimpArgs false
set_option linter.unusedVariables false
set_option maxHeartbeats 10000000
set_option maxHeartbeats 4000000
set_option maxRecDepth 2000000
structure NJ (W0 w : World) (b p1 n1 c1 p2 n2 c2 m : Nat) (vl vf vu : Value) (A1 A2 : List Nat) (u1 u2 : Value) (L : List (Value × List Nat)) (Fs Us : List Value) : Prop where
  bel : Below W0.heap.size W0 w
  bn : Bn w b vl vf vu (.slice (some ⟨p1, 0, none⟩) n1 c1 :: .slice (some ⟨p2, 0, none⟩) n2 c2 :: L.map fun p => p.1) (.slice (some ⟨p1, 0, none⟩) (n1 + 5) c1 :: .slice (some ⟨p2, 0, none⟩) (n2 + 5) c2 :: Fs) (u1 :: u2 :: Us)
  lL : L.length = m
  lF : Fs.length = m
  lU : Us.length = m
  fF : ∀ v, v ∈ Fs → ∃ a c, v = .slice a 0 c
  fU : ∀ v, v ∈ Us → ∃ a c, v = .slice a 0 c
  f1 : ∃ a n c, u1 = .slice a n c
  f2 : ∃ a n c, u2 = .slice a n c
  r1 : w.ownsRow 0 45 1 (.slice (some ⟨p1, 0, none⟩) (n1 + 5) c1) (n1 + 5) (Wv (A1 ++ List.replicate 5 0))
  r2 : w.ownsRow 0 45 1 (.slice (some ⟨p2, 0, none⟩) (n2 + 5) c2) (n2 + 5) (Wv (A2 ++ List.replicate 5 0))
  l1 : A1.length = n1
  l2 : A2.length = n2
  wd1 : Wd A1
  wd2 : Wd A2
  hq : ∀ q, Bq b vl vf vu q → W0.heap.size ≤ q ∧ q ≠ p1 ∧ q ≠ p2
  hp : W0.heap.size ≤ p1 ∧ W0.heap.size ≤ p2 ∧ p1 ≠ p2
  own : ∀ p, p ∈ L → ∃ m : Nat, m ≤ 1000000000 ∧ w.ownsRow W0.heap.size 45 1 p.1 m (Wv p.2)
  apt : Apt (L.map fun p => p.1)
  ne : ∀ p q, p ∈ L → p.1.ownBlock = some q → q ≠ p1 ∧ q ≠ p2 ∧ ¬ Bq b vl vf vu q
theorem NJ.rowN1 {W0 w : World} {b p1 n1 c1 p2 n2 c2 m : Nat} {vl vf vu : Value} {A1 A2 : List Nat} {u1 u2 : Value} {L : List (Value × List Nat)} {Fs Us : List Value} (J : NJ W0 w b p1 n1 c1 p2 n2 c2 m vl vf vu A1 A2 u1 u2 L Fs Us) : RowN w p1 n1 c1 ∧ RowN w p2 n2 c2 := ⟨⟨A1, J.l1, J.wd1, J.r1⟩, ⟨A2, J.l2, J.wd2, J.r2⟩⟩
theorem NJ.next {W0 w w3 w4 : World} {b p1 n1 c1 p2 n2 c2 m d : Nat} {vl vf vu : Value} {A1 A2 : List Nat} {u1 u2 : Value} {L M : List (Value × List Nat)} {Fs Us Fs' Us' : List Value} {vl' vf' vu' : Value} (J : NJ W0 w b p1 n1 c1 p2 n2 c2 m vl vf vu A1 A2 u1 u2 L Fs Us)
    (O : Outs w b vl vf vu (.slice (some ⟨p1, 0, none⟩) n1 c1 :: .slice (some ⟨p2, 0, none⟩) n2 c2 :: L.map fun p => p.1) (.slice (some ⟨p1, 0, none⟩) (n1 + 5) c1 :: .slice (some ⟨p2, 0, none⟩) (n2 + 5) c2 :: Fs) (u1 :: u2 :: Us) (M.map fun p => p.1) w3 vl' vf' vu' Fs' Us') (hq' : ∀ q, Bq b vl' vf' vu' q → Bq b vl vf vu q ∨ w.heap.size ≤ q) (C : Cl w w3 M) (hM : ∀ p, p ∈ M → p.2.length ≤ 1000000000) (ne' : ∀ p q, p ∈ M → p.1.ownBlock = some q → ¬ Bq b vl' vf' vu' q) (hd : M.length = d)
    (hb : BelE w3 (fun x => x = p1 ∨ x = p2) w4) (R1 : RowN w4 p1 n1 c1) (R2 : RowN w4 p2 n2 c2) : ∃ A1' A2', NJ W0 w4 b p1 n1 c1 p2 n2 c2 (m + d) vl' vf' vu' A1' A2' u1 u2 (L ++ M) (Fs ++ Fs') (Us ++ Us') := by
  obtain ⟨A1', l1, wd1, r1⟩ := R1
  obtain ⟨A2', l2, wd2, r2⟩ := R2
  have lt1 : p1 < w.heap.size := (J.r1.lt p1 rfl).2
  have lt2 : p2 < w.heap.size := (J.r2.lt p2 rfl).2
  have s0 := J.bel.size
  have s3 := O.bel.size
  have s4 := hb.size
  have hp := J.hp
  have nq : ∀ q, Bq b vl' vf' vu' q → W0.heap.size ≤ q ∧ q ≠ p1 ∧ q ≠ p2 := fun q h => by
    rcases hq' q h with h | h
    · exact J.hq q h
    · omega
  have ownL : ∀ p, p ∈ L → ∃ m : Nat, m ≤ 1000000000 ∧ w4.ownsRow W0.heap.size 45 1 p.1 m (Wv p.2) := fun p h => by
    obtain ⟨m, hm, ho⟩ := J.own p h
    refine ⟨m, hm, ow_below ho fun q hq => ?_⟩
    have hl := (ho.lt q hq).2
    obtain ⟨x1, x2, x3⟩ := J.ne p q h hq
    exact (hb.block q (by omega) (fun e => e.elim x1 x2)).trans (O.bel.block q hl x3)
  have ltL : ∀ p q, p ∈ L → p.1.ownBlock = some q → q < w.heap.size := fun p q h hq => by
    obtain ⟨m, hm, ho⟩ := J.own p h
    exact (ho.lt q hq).2
  refine ⟨A1', A2', ⟨hb.os.trans (O.bel.os.trans J.bel.os), hb.tape.trans (O.bel.tape.trans J.bel.tape), hb.output.trans (O.bel.output.trans J.bel.output), by omega, fun q hq => ?_⟩, ?_, by rw [List.length_append, J.lL, hd], by rw [List.length_append, J.lF, O.lf, List.length_map, hd], by rw [List.length_append, J.lU, O.lu, List.length_map, hd], fun v hv => (List.mem_append.1 hv).elim (J.fF v) (O.ff v), fun v hv => (List.mem_append.1 hv).elim (J.fU v) (O.fu v), J.f1, J.f2, r1, r2, l1, l2, wd1, wd2, nq, hp, fun p h => ?_, ?_, fun p q h hq => ?_⟩
  · exact (hb.block q (by omega) (fun e => by omega)).trans ((O.bel.block q (by omega) (fun h => by have := (J.hq q h).1; omega)).trans (J.bel.block q hq))
  · have h := O.bn.keep (w' := w4) fun q hq => by
      have hl := O.bn.lt q hq
      obtain ⟨_, x1, x2⟩ := nq q hq
      exact hb.block q hl (fun e => e.elim x1 x2)
    rw [List.map_append]
    exact h
  · rcases List.mem_append.1 h with h | h
    · exact ownL p h
    · obtain ⟨m, _, ho⟩ := C.own p h
      have hl := ho.1
      simp only [Wv, List.length_map] at hl
      have := hM p h
      exact ⟨m, by omega, ow_base (ow_below ho fun q hq => by
        have h2 := ho.lt q hq
        exact hb.block q h2.2 (fun e => by omega)) s0⟩
  · rw [List.map_append]
    refine apt_app J.apt C.apt fun v u q hv hu hq hq2 => ?_
    obtain ⟨p, hp, rfl⟩ := List.mem_map.1 hv
    obtain ⟨p2, hp2, rfl⟩ := List.mem_map.1 hu
    have := ltL p q hp hq
    have := (C.lt hp2 hq2).1
    omega
  · rcases List.mem_append.1 h with h | h
    · obtain ⟨x1, x2, x3⟩ := J.ne p q h hq
      exact ⟨x1, x2, fun e => (hq' q e).elim x3 fun e => by have := ltL p q h hq; omega⟩
    · have := (C.lt h hq).1
      exact ⟨by omega, by omega, ne' p q h hq⟩
theorem na_round {a : Act} {W0 w : World} {R : Exit → Act → World → Prop} {n : Int} {k m b p1 n1 c1 p2 n2 c2 : Nat} {vl vf vu : Value} {A1 A2 : List Nat} {u1 u2 : Value} {L : List (Value × List Nat)} {Fs Us : List Value} (hz : a.tmps.size = 264) (hd : a.defers = []) (h2 : a.tmps.getD 2 undef = .int .i64 n) (h7 : a.tmps.getD 7 undef = .pointer (some ⟨b, 0, none⟩)) (h8 : a.tmps.getD 8 undef = .slice (some ⟨p1, 0, none⟩) n1 c1) (h9 : a.tmps.getD 9 undef = .slice (some ⟨p2, 0, none⟩) n2 c2) (h10 : a.tmps.getD 10 undef = .int .i64 (k : Int))
    (J : NJ W0 w b p1 n1 c1 p2 n2 c2 m vl vf vu A1 A2 u1 u2 L Fs Us) (hu : k = 0 → m = 0 ∧ Rep0 w (fun q => q < w.heap.size) u1 (.l 1 (W (A1 ++ List.replicate 5 0))) ∧ Rep0 w (fun q => q < w.heap.size) u2 (.l 1 (W (A2 ++ List.replicate 5 0)))) (hm : m ≤ 400) (b1 : n1 ≤ 100000000) (b2 : n2 ≤ 100000000) (hn : n < 9223372036854775808)
    (kk : ∀ (a' : Act) (w' : World) (vl' vf' vu' : Value) (A1' A2' : List Nat) (L' : List (Value × List Nat)) (Fs' Us' : List Value), a'.tmps.size = 264 → a'.defers = [] → (∀ t, t ∈ [2, 7, 8, 9, 10] → a'.tmps.getD t undef = a.tmps.getD t undef) → NJ W0 w' b p1 n1 c1 p2 n2 c2 (m + 14) vl' vf' vu' A1' A2' u1 u2 L' Fs' Us' → R .normal a' w') : (naD Try.f3).wp Try.prog R a w := by
  have hl1 := J.l1
  have hl2 := J.l2
  have lt1 : p1 < w.heap.size := (J.r1.lt p1 rfl).2
  have lt2 : p2 < w.heap.size := (J.r2.lt p2 rfl).2
  refine na_calls (f := fun t => a.tmps.getD t undef) hz (fun t _ => rfl) h2 h8 h9 J.r1 J.r2 J.l1 J.l2 J.wd1 J.wd2 b1 b2 hn fun a1 w1 us L3 z1 d1 f1 B1 hA => ?_
  have s1 := B1.size
  refine na_checks (k := k) (L := [A1 ++ List.replicate 5 0, A2 ++ List.replicate 5 0]) z1 (d1.trans hd) f1 hA h2 h10 (fun hk => ?_) (by show 2 ≤ _; decide) (fun x hx => ?_) J.wd1 J.wd2 (by omega) (by omega) hn fun a2 w2 z2 f2 d2 B2 => ?_
  · obtain ⟨hm0, v1, v2⟩ := hu hk
    have eF : Fs = [] := List.eq_nil_of_length_eq_zero (by rw [J.lF, hm0])
    have eU : Us = [] := List.eq_nil_of_length_eq_zero (by rw [J.lU, hm0])
    have hbn := J.bn.below B1
    rw [eF, eU] at hbn
    have q1 := ow_below J.r1 fun q hq => B1.block q (J.r1.lt q hq).2
    have q2 := ow_below J.r2 fun q hq => B1.block q (J.r2.lt q hq).2
    have q3 := v1.mono (w' := w1) (H' := fun q => q < w1.heap.size) (fun q h => by omega) fun q h => B1.block q h
    have q4 := v2.mono (w' := w1) (H' := fun q => q < w1.heap.size) (fun q h => by omega) fun q h => B1.block q h
    show Rep0 w1 _ (a.tmps.getD 7 undef) _
    rw [h7]
    refine hbn.ip (fun q hq => hbn.lt q hq) rfl rfl (by show 2 ≤ _; decide) (fun j x A hj hA => ?_) (fun j x A hj hA => ?_)
    · match j, hj, hA with
      | 0, hj, hA => cases hj; cases hA; exact own_rep q1 (by unfold maxLen; omega)
      | 1, hj, hA => cases hj; cases hA; exact own_rep q2 (by unfold maxLen; omega)
    · match j, hj, hA with
      | 0, hj, hA => cases hj; cases hA; exact q3
      | 1, hj, hA => cases hj; cases hA; exact q4
  · simp only [List.mem_cons, List.not_mem_nil, or_false] at hx
    rcases hx with rfl | rfl <;> (rw [List.length_append, List.length_replicate]; omega)
  have sl : ∀ {v : Value}, (∃ a n c, v = Value.slice a n c) → v.oneCell' = true := fun h => by obtain ⟨a, n, c, rfl⟩ := h; rfl
  have formL : ∀ v, v ∈ L.map (fun p => p.1) → ∃ a n c, v = Value.slice a n c ∧ n ≤ 1000000000000 := fun v hv => by
    obtain ⟨p, hp, rfl⟩ := List.mem_map.1 hv
    obtain ⟨x, hx, ho⟩ := J.own p hp
    obtain ⟨a, c, e⟩ := ow_shape ho
    exact ⟨a, x, c, e, by omega⟩
  refine na_outs (m := m + 2) z2 d2 f2 hA h7 B1 B2 J.bn (by simp [J.lL]) (by simp [J.lF]) (by simp [J.lU]) (fun v hv => ?_) (fun v hv => ?_) (fun v hv => ?_) (by omega) fun a3 w3 vl' vf' vu' Fs' Us' z3 d3 s3 O hq' C ne' => ?_
  · rcases List.mem_cons.1 hv with rfl | hv
    · rfl
    rcases List.mem_cons.1 hv with rfl | hv
    · rfl
    obtain ⟨a, n, c, rfl, _⟩ := formL v hv; rfl
  · rcases List.mem_cons.1 hv with rfl | hv
    · rfl
    rcases List.mem_cons.1 hv with rfl | hv
    · rfl
    obtain ⟨a, c, rfl⟩ := J.fF v hv; rfl
  · rcases List.mem_cons.1 hv with rfl | hv
    · exact sl J.f1
    rcases List.mem_cons.1 hv with rfl | hv
    · exact sl J.f2
    obtain ⟨a, c, rfl⟩ := J.fU v hv; rfl
  have lenM : (ansL n A1 A2 us L3).length = 14 := by simp [ansL, hA.l3]
  have hM := ansL_len (n := n) (us := us) J.wd1 J.wd2 (by omega) (by omega) hA.k3
  have nq : ∀ q, Bq b vl' vf' vu' q → q ≠ p1 ∧ q ≠ p2 := fun q h => by
    rcases hq' q h with h | h
    · exact (J.hq q h).2
    · exact ⟨by omega, by omega⟩
  have N1 : RowN w3 p1 n1 c1 := (J.rowN1.1).keep (O.bel.block p1 lt1 (fun h => (J.hq p1 h).2.1 rfl))
  have N2 : RowN w3 p2 n2 c2 := (J.rowN1.2).keep (O.bel.block p2 lt2 (fun h => (J.hq p2 h).2.2 rfl))
  by_cases hk : k = 0
  · have e10 : a3.tmps.getD 10 undef = .int .i64 0 := (s3 10 (by decide)).trans (by rw [h10, hk]; rfl)
    have hsc := scribble_raw (b := b) (Ls := L.map (fun p => p.1) ++ (ansL n A1 A2 us L3).map fun p => p.1) (Fs := Fs ++ Fs') O.bn (by simp only [List.length_append, List.length_map, J.lL, J.lF, O.lf]) (by simp only [List.length_append, List.length_map, J.lL, lenM]; omega) (fun v hv => ?_) (fun v hv => (List.mem_append.1 hv).elim (J.fF v) (O.ff v)) N1 N2 (by omega) (by omega) J.hp.2.2 (fun h => (nq p1 h).1 rfl) (fun h => (nq p2 h).2 rfl)
    · refine na_scr (Qf := fun w4 => BelE w3 (fun x => x = p1 ∨ x = p2) w4 ∧ RowN w4 p1 n1 c1 ∧ RowN w4 p2 n2 c2) z3 ((s3 7 (by decide)).trans h7) e10 hsc fun a4 w4 z4 s4 d4 hQ => ?_
      obtain ⟨A1', A2', J'⟩ := J.next O hq' C hM ne' lenM hQ.1 hQ.2.1 hQ.2.2
      have e39 : ∀ t, t ∈ [2, 7, 8, 9, 10] → t < 39 := by decide
      exact kk a4 w4 _ _ _ _ _ _ _ _ z4 (d4.trans d3) (fun t ht => (s4 t (e39 t ht)).trans (s3 t ht)) J'
    · rcases List.mem_append.1 hv with hv | hv
      · exact formL v hv
      · obtain ⟨p, hp, rfl⟩ := List.mem_map.1 hv
        obtain ⟨x, _, ho⟩ := C.own p hp
        obtain ⟨a, c, e⟩ := ow_shape ho
        have hl := ho.1
        simp only [Wv, List.length_map] at hl
        have := hM p hp
        exact ⟨a, x, c, e, by omega⟩
  · refine na_noscr (k := k) z3 ((s3 10 (by decide)).trans h10) hk fun a4 z4 s4 d4 => ?_
    obtain ⟨A1', A2', J'⟩ := J.next O hq' C hM ne' lenM (BelE.refl _ _) N1 N2
    have e39 : ∀ t, t ∈ [2, 7, 8, 9, 10] → t < 39 := by decide
    exact kk a4 w3 _ _ _ _ _ _ _ _ z4 (d4.trans d3) (fun t ht => (s4 t (e39 t ht)).trans (s3 t ht)) J'
end Go.Proofs.Ytdafakcccjjpiaa
namespace Go.Proofs.Ytdafakcccjjpiaa
open Go Go.RowKit Go.Proofs Ab
set_option linter.unusedSimpArgs false
set_option linter.unusedVariables false
set_option maxHeartbeats 10000000
set_option maxHeartbeats 4000000
set_option maxRecDepth 2000000
theorem na_zero {a : Act} {w : World} {R : Exit → Act → World → Prop} (hz : a.tmps.size = 264)
    (kk : ∀ (a' : Act), a'.tmps.size = 264 → (∀ t, t < 10 → a'.tmps.getD t undef = a.tmps.getD t undef) → a'.tmps.getD 10 undef = .int .i64 0 → a'.defers = a.defers → R .normal a' w) : (q1 (q1 (qd 4 (qf Try.f3)))).wp Try.prog R a w := by
  have hA := PLift.up kk
  clear kk
  refine wp_region_lit ?_
  go_wp2
  refine hA.down _ (by simp [hz]) (fun t ht => ?_) ?_ rfl
  · dsimp only
    rw [gset_ne (by omega)]
  · dsimp only
    rw [gset_eq (by simp [hz])]
theorem Bn.new (w : World) : Bn (w.alloc (.cells #[.slice none 0 0, .slice none 0 0, .slice none 0 0] 28)) w.heap.size (.slice none 0 0) (.slice none 0 0) (.slice none 0 0) [] [] [] :=
  ⟨⟨1, World.ownsRow_lit (base := 0) (e := 28) (size := 3) w #[.slice none 0 0, .slice none 0 0, .slice none 0 0] 1 (Nat.zero_le _) (by unfold maxLen; omega) rfl⟩, ⟨rfl, .inl ⟨rfl, rfl⟩⟩, ⟨rfl, .inl ⟨rfl, rfl⟩⟩, ⟨rfl, .inl ⟨rfl, rfl⟩⟩, fun q h => (by cases h), fun q h => (by cases h), fun q h => (by cases h)⟩
def NA (w0 : World) (a b : List Nat) (g : Nat) (x y : Value) (w : World) : Prop :=
  ∃ p1 c1 p2 c2 vl vf vu u1 u2, x = .slice (some ⟨p1, 0, none⟩) a.length c1 ∧ y = .slice (some ⟨p2, 0, none⟩) b.length c2 ∧ NJ w0 w g p1 a.length c1 p2 b.length c2 0 vl vf vu a b u1 u2 [] [] [] ∧ Rep0 w (fun q => q < w.heap.size) u1 (.l 1 (W (a ++ List.replicate 5 0))) ∧ Rep0 w (fun q => q < w.heap.size) u2 (.l 1 (W (b ++ List.replicate 5 0)))
theorem rep_slice {w : World} {H : Nat → Prop} {v : Value} {sz : Nat} {cs : List V} (h : Rep0 w H v (.l sz cs)) : ∃ a n c, v = .slice a n c := by
  obtain ⟨a, n, cap, _, _, _, rfl, _⟩ := (Rep.up (ov := fun _ => none) h).inv_l
  exact ⟨a, n, cap, rfl⟩
theorem in_first {w w1 : World} {H : Nat → Prop} {va : Value} {a : List Nat} (hB : Below w.heap.size w w1) (hH : ∀ q, H q → q < w.heap.size) (hva : Rep0 w H va (.l 1 (W a))) (la : a.length ≤ 1000000000) :
    Calls Try.prog 5 #[.pointer (some ⟨w1.heap.size, 0, none⟩), va] (w1.alloc (.cells #[.slice none 0 0, .slice none 0 0, .slice none 0 0] 28)) (InR (w1.alloc (.cells #[.slice none 0 0, .slice none 0 0, .slice none 0 0] 28)) w1.heap.size (.slice none 0 0) (.slice none 0 0) (.slice none 0 0) [] [] [] a) := by
  have s1 := hB.size
  have b2 := below_tr hB (below_alloc w1 (.cells #[.slice none 0 0, .slice none 0 0, .slice none 0 0] 28))
  refine in_raw (Ha := H) (Bn.new w1) (fun q hq => by have := hH q hq; have := b2.size; omega) (fun q hq h => ?_) (hva.mono (fun _ h => h) fun q hq => b2.block q (hH q hq)) rfl rfl rfl (fun v hv => by simp at hv) (fun v hv => by simp at hv) (fun v hv => by simp at hv) (Nat.zero_le _) la
  have := hH q h
  rcases hq with hq | hq | hq | hq
  · omega
  · cases hq
  · cases hq
  · cases hq
theorem in_second {w w1 w3 : World} {H : Nat → Prop} {vb x : Value} {a b : List Nat} (hB : Below w.heap.size w w1) (hH : ∀ q, H q → q < w.heap.size) (hvb : Rep0 w H vb (.l 1 (W b))) (la : a.length ≤ 1000000000) (lb : b.length ≤ 1000000000) (wa : Wd a) (wb : Wd b)
    (h : InR (w1.alloc (.cells #[.slice none 0 0, .slice none 0 0, .slice none 0 0] 28)) w1.heap.size (.slice none 0 0) (.slice none 0 0) (.slice none 0 0) [] [] [] a (.returned x) w3) :
    Calls Try.prog 5 #[.pointer (some ⟨w1.heap.size, 0, none⟩), vb] w3 (fun e w4 => ∃ g n c, e = .returned (.slice (some ⟨g, 0, none⟩) n c) ∧ NA w a b w1.heap.size x (.slice (some ⟨g, 0, none⟩) n c) w4) := by
  obtain ⟨g, cap, vl', vf', vu', u, Hu, e, hg, bel, own, bn, ru, hu, hq, ng⟩ := h
  cases e
  have s1 := hB.size
  have bA := below_tr hB (below_alloc w1 (.cells #[.slice none 0 0, .slice none 0 0, .slice none 0 0] 28))
  have sA : (w1.alloc (.cells #[.slice none 0 0, .slice none 0 0, .slice none 0 0] 28)).heap.size = w1.heap.size + 1 := by rw [World.size_alloc]
  have s3 := bel.size
  have hq' : ∀ q, Bq w1.heap.size vl' vf' vu' q → w1.heap.size ≤ q := fun q h => by
    rcases hq q h with h | h
    · rcases h with h | h | h | h
      · omega
      · cases h
      · cases h
      · cases h
    · omega
  have bq0 : ∀ q, Bq w1.heap.size (.slice none 0 0) (.slice none 0 0) (.slice none 0 0) q → w1.heap.size ≤ q := fun q h => by
    rcases h with h | h | h | h
    · omega
    · cases h
    · cases h
    · cases h
  have b3 : ∀ q, q < w.heap.size → w3.heap[q]? = w.heap[q]? := fun q h => (bel.block q (by omega) (fun e => by have := bq0 q e; omega)).trans (bA.block q h)
  have one : ∀ (z v : Value), z.oneCell' = true → v ∈ [z] → v.oneCell' = true := fun z v hz hv => by rw [List.mem_singleton.1 hv]; exact hz
  obtain ⟨ua, un, uc, rfl⟩ := rep_slice ru
  refine (in_raw (Ha := H) bn (fun q h => by have := hH q h; omega) (fun q hq h => by have := hH q h; have := hq' q hq; omega) (hvb.mono (fun _ h => h) fun q h => b3 q (hH q h)) rfl rfl rfl (fun v hv => one _ v rfl hv) (fun v hv => one _ v rfl hv) (fun v hv => one _ v rfl hv) (by show 1 ≤ _; decide) lb).mono ?_
  rintro e w4 ⟨g2, cap2, vl2, vf2, vu2, u2, Hu2, rfl, hg2, bel2, own2, bn2, ru2, hu2, hq2, ng2⟩
  have s4 := bel2.size
  have gl := (own.lt g rfl).2
  have hq4 : ∀ q, Bq w1.heap.size vl2 vf2 vu2 q → w1.heap.size ≤ q ∧ q ≠ g ∧ q ≠ g2 := fun q h => by
    refine ⟨?_, fun e => ?_, fun e => ng2 (e ▸ h)⟩
    · rcases hq2 q h with h | h
      · exact hq' q h
      · omega
    · rcases hq2 q h with h | h
      · exact ng (e ▸ h)
      · omega
  refine ⟨g2, _, cap2, rfl, g, cap, g2, cap2, vl2, vf2, vu2, _, u2, rfl, rfl, ⟨⟨bel2.os.trans (bel.os.trans bA.os), bel2.tape.trans (bel.tape.trans bA.tape), bel2.output.trans (bel.output.trans bA.output), by omega, fun q h => (bel2.block q (by omega) (fun e => by have := hq' q e; omega)).trans (b3 q h)⟩, bn2, rfl, rfl, rfl, fun v hv => by simp at hv, fun v hv => by simp at hv, ⟨_, _, _, rfl⟩, rep_slice ru2, ow_base (ow_below own fun q hq => by cases hq; exact bel2.block g gl ng) (Nat.zero_le _), ow_base own2 (Nat.zero_le _), rfl, rfl, wa, wb, fun q h => by have := hq4 q h; exact ⟨by omega, this.2⟩, ⟨by omega, by omega, by omega⟩, fun p h => by simp at h, fun i j vi vj q _ h => by simp at h, fun p q h => by simp at h⟩, ru.mono (fun q h => by have := (hu q h).1; omega) (fun q h => bel2.block q (hu q h).1 (hu q h).2), ru2.mono (fun q h => (hu2 q h).1) (fun _ _ => rfl)⟩
end Go.Proofs.Ytdafakcccjjpiaa
namespace Go.Proofs.Ytdafakcccjjpiaa
open Go Go.RowKit Go.Proofs Ab
set_option linter.unusedSimpArgs false
set_option linter.unusedVariables false
set_option maxHeartbeats 10000000
set_option maxHeartbeats 4000000
set_option maxRecDepth 2000000
theorem own_cut {w : World} {B e n c k : Nat} {p : Nat} {xs : List Value} (h : w.ownsRow B e 1 (.slice (some ⟨p, 0, none⟩) (n + k) c) (n + k) xs) : w.ownsRow B e 1 (.slice (some ⟨p, 0, none⟩) n c) n (xs.take n) := by
  rcases h.2 with ⟨h1, _⟩ | ⟨g, cap, cur, e1, h1, h2, h3, h4, h5, h6⟩
  · cases h1
  · cases e1
    refine ⟨by rw [List.length_take, h.1]; omega, .inr ⟨_, _, cur, rfl, h1, h2, by omega, h4, h5, ?_⟩⟩
    rw [← h6, List.take_take]
    congr 1
    omega
theorem apt_cons {v : Value} {L : List Value} (h : Apt L) (hx : ∀ u q, u ∈ L → v.ownBlock = some q → u.ownBlock ≠ some q) : Apt (v :: L) :=
  apt_app (apt_one v) h fun z u q hz hu hq => by rw [List.mem_singleton.1 hz] at hq; exact hx u q hu hq
theorem natApart_spec (a b : List Nat) (n : Int) (wa : Wd a) (wb : Wd b) (la : a.length ≤ 100000000) (lb : b.length ≤ 100000000) (hn : n < 9223372036854775808) : AFun Try.prog J0 3 [.l 1 (W a), .l 1 (W b), .i .i64 n] (.b true) := by
  refine .of0 rfl fun w H vs hJ hT hH hr => ?_
  obtain ⟨hr0, hr1⟩ := hr
  obtain ⟨v0, v1, v2, rfl⟩ : ∃ v0 v1 v2, vs = [v0, v1, v2] := by
    match vs, hr0 with
    | [v, u, z], _ => exact ⟨v, u, z, rfl⟩
  have h0 := hr1 0 v0 _ rfl rfl
  have h1 := hr1 1 v1 _ rfl rfl
  obtain rfl := (Rep.up (ov := fun _ => none) (hr1 2 v2 _ rfl rfl)).inv_i
  clear hr1 hr0
  refine calls_at (vs := [v0, v1, .int .i64 n]) Try.func3 (c := qf Try.f3) rfl (by show 3 ≤ _; decide) fun a0 z0 e0 d0 => ?_
  have i0 : a0.tmps.getD 0 undef = v0 := e0 0 (by show 0 < 3; decide)
  have i1 : a0.tmps.getD 1 undef = v1 := e0 1 (by show 1 < 3; decide)
  have i2 : a0.tmps.getD 2 undef = .int .i64 n := e0 2 (by show 2 < 3; decide)
  change a0.tmps.size = 264 at z0
  refine na_begin z0 fun a1 w1 z1 s1 d1 B1 => ?_
  refine wp_seq ?_
  refine na_book z1 fun a2 z2 s2 k7 d2 => ?_
  refine wp_seq ?_
  refine na_in (b := w1.heap.size) (va := v0) (vb := v1) (Q1 := fun x w3 => InR (w1.alloc (.cells #[.slice none 0 0, .slice none 0 0, .slice none 0 0] 28)) w1.heap.size (.slice none 0 0) (.slice none 0 0) (.slice none 0 0) [] [] [] a (.returned x) w3) (Q2 := fun x _ y w4 => NA w a b w1.heap.size x y w4) z2 ((s2 0 (by decide)).trans ((s1 0 (by decide)).trans i0)) ((s2 1 (by decide)).trans ((s1 1 (by decide)).trans i1)) k7
    ((in_first B1 hH h0 (by omega)).mono ?_) (fun x w3 hQ => in_second B1 hH h1 (by omega) (by omega) wa wb hQ) fun a3 w3 w4 x y z3 s3 k8 k9 d3 _ hQ => ?_
  · intro e w' h
    have h' := h
    obtain ⟨g, cap, _, _, _, _, _, rfl, _⟩ := h'
    exact ⟨g, _, cap, rfl, h⟩
  obtain ⟨p1, c1, p2, c2, vl, vf, vu, u1, u2, rfl, rfl, J, ru1, ru2⟩ := hQ
  have g2 : a3.tmps.getD 2 undef = .int .i64 n := (s3 2 (by decide)).trans ((s2 2 (by decide)).trans ((s1 2 (by decide)).trans i2))
  have g7 : a3.tmps.getD 7 undef = .pointer (some ⟨w1.heap.size, 0, none⟩) := (s3 7 (by decide)).trans k7
  have gd : a3.defers = [] := d3.trans (d2.trans (d1.trans d0))
  refine wp_seq ?_
  refine wp_seq ?_
  refine na_zero z3 fun a4 z4 s4 k10 d4 => ?_
  refine wp_block ?_
  refine wp_loop (fun a' w' => ∃ (k : Nat) (vl vf vu : Value) (A1 A2 : List Nat) (L : List (Value × List Nat)) (Fs Us : List Value), k ≤ 2 ∧ a'.tmps.size = 264 ∧ a'.defers = [] ∧ a'.tmps.getD 2 undef = .int .i64 n ∧ a'.tmps.getD 7 undef = .pointer (some ⟨w1.heap.size, 0, none⟩) ∧ a'.tmps.getD 8 undef = .slice (some ⟨p1, 0, none⟩) a.length c1 ∧ a'.tmps.getD 9 undef = .slice (some ⟨p2, 0, none⟩) b.length c2 ∧ a'.tmps.getD 10 undef = .int .i64 (k : Int) ∧
      NJ w w' w1.heap.size p1 a.length c1 p2 b.length c2 (14 * k) vl vf vu A1 A2 u1 u2 L Fs Us ∧ (k = 0 → Rep0 w' (fun q => q < w'.heap.size) u1 (.l 1 (W (A1 ++ List.replicate 5 0))) ∧ Rep0 w' (fun q => q < w'.heap.size) u2 (.l 1 (W (A2 ++ List.replicate 5 0)))))
    (fun a' _ => 2 - (intOf (a'.tmps.getD 10 undef)).toNat) ?_ ?_
  · exact ⟨0, vl, vf, vu, a, b, [], [], [], by decide, z4, d4.trans gd, (s4 2 (by decide)).trans g2, (s4 7 (by decide)).trans g7, (s4 8 (by decide)).trans k8, (s4 9 (by decide)).trans k9, k10, J, fun _ => ⟨ru1, ru2⟩⟩
  · rintro a' w' ⟨k, vl, vf, vu, A1, A2, L, Fs, Us, hk, hz, hd, h2, h7, h8, h9, h10, J, hu⟩
    refine wp_seq ?_
    refine na_cond hz h10 hk (fun hlt a5 z5 s5 d5 => ?_) (fun hge a5 z5 s5 d5 => ?_)
    · refine wp_seq ?_
      refine wp_block ?_
      refine na_round (k := k) z5 (d5.trans hd) ((s5 2 (by decide)).trans h2) ((s5 7 (by decide)).trans h7) ((s5 8 (by decide)).trans h8) ((s5 9 (by decide)).trans h9) ((s5 10 (by decide)).trans h10) J (fun h => ⟨by omega, hu h⟩) (by omega) la lb hn fun a6 w6 vl' vf' vu' A1' A2' L' Fs' Us' z6 d6 s6 J6 => ?_
      have t7 : ∀ t, t ∈ [2, 7, 8, 9, 10] → t < 39 := by decide
      have e6 : ∀ t, t ∈ [2, 7, 8, 9, 10] → a6.tmps.getD t undef = a'.tmps.getD t undef := fun t ht => (s6 t ht).trans (s5 t (t7 t ht))
      refine na_step z6 ((e6 10 (by decide)).trans h10) (by omega) fun a7 z7 s7 k7 d7 => ?_
      refine ⟨⟨k + 1, vl', vf', vu', A1', A2', L', Fs', Us', by omega, z7, d7.trans d6, (s7 2 (by decide) (by decide)).trans ((e6 2 (by decide)).trans h2), (s7 7 (by decide) (by decide)).trans ((e6 7 (by decide)).trans h7), (s7 8 (by decide) (by decide)).trans ((e6 8 (by decide)).trans h8), (s7 9 (by decide) (by decide)).trans ((e6 9 (by decide)).trans h9), by rw [k7]; rfl, by rw [show 14 * (k + 1) = 14 * k + 14 from by omega]; exact J6, fun h => by omega⟩, ?_⟩
      rw [k7, h10]
      simp only [intOf]; omega
    · subst hge
      have lt1 := J.r1.lt p1 rfl
      have lt2 := J.r2.lt p2 rfl
      have hp := J.hp
      have fin := apart_raw J.bn (by simp) (by simp [J.lL]) (apt_cons (apt_cons J.apt fun u q hu hq => ?_) fun u q hu hq => ?_) (fun j v hj => ?_)
      · refine na_end (Qf := fun w9 => BelE w' (fun x => ∃ (j : Nat) (v : Value), (Value.slice (some ⟨p1, 0, none⟩) a.length c1 :: Value.slice (some ⟨p2, 0, none⟩) b.length c2 :: L.map fun p => p.1)[j]? = some v ∧ v.ownBlock = some x) w9) z5 ((s5 7 (by decide)).trans h7) fin fun a9 w9 z9 k6 d9 hQ => ?_
        refine ⟨d9.trans (d5.trans hd), _, results_tmp rfl _ _ _, _, rfl, ⟨hQ.os.trans J.bel.os, hQ.tape.trans J.bel.tape, hQ.output.trans J.bel.output, Nat.le_trans J.bel.size hQ.size, fun q hq => (hQ.block q (Nat.lt_of_lt_of_le hq J.bel.size) (fun h => ?_)).trans (J.bel.block q hq)⟩, fun _ => False, fun _ h => h.elim, .inl ?_⟩
        · obtain ⟨j, v, hj, hv⟩ := h
          rcases List.mem_cons.1 (List.mem_of_getElem? hj) with rfl | hm
          · cases hv; exact absurd hp.1 (Nat.not_le_of_lt hq)
          rcases List.mem_cons.1 hm with rfl | hm
          · cases hv; exact absurd hp.2.1 (Nat.not_le_of_lt hq)
          obtain ⟨p, hpL, rfl⟩ := List.mem_map.1 hm
          obtain ⟨m, _, ho⟩ := J.own p hpL
          have := (ho.lt q hv).1
          omega
        · rw [k6]; exact .b true
      · obtain ⟨p, hpL, rfl⟩ := List.mem_map.1 hu
        cases hq
        exact fun e => (J.ne p _ hpL e).2.1 rfl
      · cases hq
        rcases List.mem_cons.1 hu with rfl | hu
        · intro e; cases e; exact hp.2.2 rfl
        obtain ⟨p, hpL, rfl⟩ := List.mem_map.1 hu
        exact fun e => (J.ne p _ hpL e).1 rfl
      · rcases List.mem_cons.1 (List.mem_of_getElem? hj) with rfl | hm
        · exact ⟨_, _, by omega, own_cut J.r1⟩
        rcases List.mem_cons.1 hm with rfl | hm
        · exact ⟨_, _, by omega, own_cut J.r2⟩
        obtain ⟨p, hpL, rfl⟩ := List.mem_map.1 hm
        obtain ⟨m, hm, ho⟩ := J.own p hpL
        exact ⟨m, _, hm, ow_base ho (Nat.zero_le _)⟩
end Go.Proofs.Ytdafakcccjjpiaa
