/-
  surdlaw24.LexKeeps: the law, whole.
-/
import Derived.Test.YtjfbkegdnljfjaaLK8
namespace Go.Proofs.Ytjfbkegdnljfjaa
open Go Go.RowKit Go.Shelf Go.Proofs Ab
set_option linter.unusedSimpArgs false
set_option linter.unusedVariables false
set_option maxHeartbeats 10000000
set_option maxHeartbeats 4000000
set_option maxRecDepth 2000000
theorem lexKeeps_spec (s : List UInt8) (ts : List Tk) (hl : ts.length ≤ 1100000) (ht : tot ts ≤ 1000000000) : AFun Try.prog J0 3 [.s s, .l 3 (T ts)] (.b true) := by
  refine .of0 rfl fun w H vs hJ hT hH hr => ?_
  obtain ⟨hr0, hr1⟩ := hr
  obtain ⟨v0, v1, rfl⟩ : ∃ v0 v1, vs = [v0, v1] := by
    match vs, hr0 with
    | [v, u], _ => exact ⟨v, u, rfl⟩
  have h0 := hr1 0 v0 _ rfl rfl
  have h1 := hr1 1 v1 _ rfl rfl
  refine run_pc Try.func3 (c := lkQ Try.f3 0) rfl (vs := [v0, v1]) (by show 2 ≤ _; decide) (H := H) (E := fun _ => False) (ks := [(1, v1)]) (ov0 := fun _ => none)
    (s0 := ⟨[(0, .s s), (1, .l 3 (T ts))], [], 0⟩) ⟨BelE.refl _ _, tj0 _ _, hH, fun b h _ => .inl h, fun id o h => (by cases h), fun i j oi oj vi vj q _ h => (by cases h)⟩ (fun m v h => ?ks) (fun k hk => ?env) (fun k hk => ?rest) (fun _ _ => rfl) (fun act hconc => ?_)
  case ks =>
    cases List.mem_singleton.1 h
    exact ⟨by simp, rfl⟩
  case env =>
    match k, hk with
    | 0, _ => exact .base h0
    | 1, _ => exact .base h1
  case rest =>
    match k, hk with
    | k + 2, _ => rfl
  have nk : ∀ A : AC, nod 1 A = true → nodk ⟨H, fun _ => False, [(1, v1)]⟩ A := fun A h m v hm => by
    cases List.mem_singleton.1 hm
    exact h
  have w0 := k1_walk s ts hl
  refine part_go (n := 6) (i := 0) (A := a3) (C2 := lkC Try.f3 0) (C3 := lkQ Try.f3 1) rfl (by kernel_rfl) (nk _ (by kernel_rfl)) hconc w0 ?_
  intro y1 w1 G1 ov1 s1 hv1 hc1
  refine part_go (n := 5) (i := 1) (A := a3) (C2 := lkC Try.f3 1) (C3 := lkQ Try.f3 2) rfl (by kernel_rfl) (nk _ (by kernel_rfl)) hc1 hv1 ?_
  intro y2 w2 G2 ov2 s2 hv2 hc2
  refine part_go (n := 4) (i := 2) (A := a3) (C2 := lkC Try.f3 2) (C3 := lkQ Try.f3 3) rfl (by kernel_rfl) (nk _ (by kernel_rfl)) hc2 hv2 ?_
  intro y3 w3 G3 ov3 s3 hv3 hc3
  refine part_go (n := 3) (i := 3) (A := a3) (C2 := lkC Try.f3 3) (C3 := lkQ Try.f3 4) rfl (by kernel_rfl) (nk _ (by kernel_rfl)) hc3 hv3 ?_
  intro y4 w4 G4 ov4 s4 hv4 hc4
  refine part_go (n := 2) (i := 4) (A := a3) (C2 := lkC Try.f3 4) (C3 := lkQ Try.f3 5) rfl (by kernel_rfl) (nk _ (by kernel_rfl)) hc4 hv4 ?_
  intro y5 w5 G5 ov5 s5 hv5 hc5
  refine part_go (n := 1) (i := 5) (A := a3) (C2 := lkC Try.f3 5) (C3 := lkQ Try.f3 6) rfl (by kernel_rfl) (nk _ (by kernel_rfl)) hc5 hv5 ?_
  intro y6 w6 G6 ov6 s6 hv6 hc6
  refine part_go (n := 0) (i := 6) (A := a3) (C2 := lkC Try.f3 6) (C3 := lkQ Try.f3 7) rfl (by kernel_rfl) (nk _ (by kernel_rfl)) hc6 hv6 ?_
  intro y7 w7 G7 ov7 s7 hv7 hc7
  refine part_last (i := 7) (A := a3) (C2 := lkC Try.f3 7) (C3 := lkQ Try.f3 8) rfl (by kernel_rfl) (nk _ (by kernel_rfl)) hc7 hv7 ?_
  intro a8 w8 H8 ov8 s8 hK hc
  clear hconc hc1 hc2 hc3 hc4 hc5 hc6 hc7 hv1 hv2 hv3 hv4 hv5 hv6 hv7 w0
  obtain ⟨i5, i11, i13, d1, d2, d3, g1, g5, g6, g7, g9, g11, g13, o5, o11, o13⟩ := hK
  obtain ⟨x5, O5, R5, V5, B5⟩ := conc_row hc g5 o5
  obtain ⟨x11, O11, R11, V11, B11⟩ := conc_row hc g11 o11
  obtain ⟨x13, O13, R13, V13, B13⟩ := conc_row hc g13 o13
  have b5 := blk_ob O5
  have b11 := blk_ob O11
  have b13 := blk_ob O13
  have s5 : ∀ q, (a8.tmps.getD 5 undef).ownBlock = some q → (a8.tmps.getD 11 undef).ownBlock ≠ some q := fun q hq => b11 ▸ hc.mem.sep i5 i11 _ _ _ _ q d1 o5 o11 V5 V11 (b5.trans hq)
  have s5' : ∀ q, (a8.tmps.getD 5 undef).ownBlock = some q → (a8.tmps.getD 13 undef).ownBlock ≠ some q := fun q hq => b13 ▸ hc.mem.sep i5 i13 _ _ _ _ q d2 o5 o13 V5 V13 (b5.trans hq)
  have s11 : ∀ q, (a8.tmps.getD 11 undef).ownBlock = some q → (a8.tmps.getD 13 undef).ownBlock ≠ some q := fun q hq => b13 ▸ hc.mem.sep i11 i13 _ _ _ _ q d3 o11 o13 V11 V13 (b11.trans hq)
  have e1 := hc.env 1
  rw [g1] at e1
  have e1 := e1.down rfl
  have e6 := hc.env 6
  rw [g6] at e6
  obtain ⟨ba6, c6, m6, E6, _, hc6, hov6⟩ := e6.inv_sl0 (by decide)
  have E5 : a8.tmps.getD 5 undef = .slice ba6 m6 c6 := by rw [V5] at hov6; exact Option.some.inj hov6
  have e7 := hc.env 7
  rw [g7] at e7
  have e7 := e7.down rfl
  have e9 := hc.env 9
  rw [g9] at e9
  have e9 := e9.down rfl
  have hz8 : a8.tmps.size = 232 := hc.siz
  have hd8 := hc.dfr
  have hB8 : Below w.heap.size w w8 := hc.mem.bel.below (fun _ h => h)
  have hlt8 := hc.mem.Hlt
  have lo : ∀ {v : Value}, (∀ q, v.ownBlock = some q → ¬ H8 q ∧ (w.heap.size ≤ q ∨ False)) → ∀ q, v.ownBlock = some q → w.heap.size ≤ q := fun h q hq => (h q hq).2.elim id False.elim
  obtain ⟨g, rfl, rfl⟩ : ∃ g, ba6 = some ⟨g, 0, none⟩ ∧ m6 = ts.length + 2 := by
    rcases O5.2 with ⟨h, h2⟩ | ⟨g, cap, cur, h, _⟩
    · omega
    · rw [E5] at h; cases h; exact ⟨g, rfl, rfl⟩
  have O5b := ownB O5 (fun b hb => lo B5 b (b5 ▸ hb))
  have O11b := ownB O11 (fun b hb => lo B11 b (b11 ▸ hb))
  have O13b := ownB O13 (fun b hb => lo B13 b (b13 ▸ hb))
  have hcap6 : ts.length ≤ c6 := by
    rw [E5] at O5
    rcases O5.2 with ⟨h, h2⟩ | ⟨_, _, _, h, _, _, h2, _⟩
    · cases h
    · cases h; omega
  clear hc g1 g5 g6 g7 g9 g11 g13 o5 o11 o13 e6 hov6
  have hs8 : lkQ Try.f3 8 = (lkC Try.f3 8).seq (lkQ Try.f3 9) := rfl
  rw [hs8]
  refine wp_seq ?_
  have hv6 : Rep0 w8 (fun q => q = g) (.slice (some ⟨g, 0, none⟩) ts.length c6) (.l 3 (T ts)) := row_pre (l2 := [r9, r8]) (E5 ▸ O5) R5 (by unfold maxLen; omega) hcap6 rfl
  have hg8 : g < w8.heap.size := (O5.lt g (by rw [E5]; rfl)).2
  refine call_reg1 (Q := fun vs _ w' => Below w8.heap.size w8 w' ∧ ∃ vl, Rwl w8.heap.size w' vs vl (splitR ts [43]).1) hz8 E6 ((split_all ts (by omega) (fun q hq => by rw [hq]; exact hg8) hv6).mono (fun e w' ⟨sa, sn, sc, x, h1, h2, h3⟩ => ⟨sa, sn, sc, x, h1, h2, h3⟩)) ?_
  rintro a9 w9 vs _ ⟨hB9, vl, hRs⟩ hz9 hs9 h15 hd9
  have hs9' : lkQ Try.f3 9 = (lkC Try.f3 9).seq (lkQ Try.f3 10) := rfl
  show (lkQ Try.f3 9).wp _ _ _ _
  rw [hs9']
  refine wp_seq ?_
  have E6' := (hs9 6 (by decide)).trans E6
  have hv6' : Rep0 w9 (fun q => q = g) (.slice (some ⟨g, 0, none⟩) ts.length c6) (.l 3 (T ts)) := hv6.mono (fun _ h => h) (fun q hq => hB9.block q (by rw [hq]; exact hg8))
  have hsz9 := hB9.size
  refine call_reg2 (Q := fun vs _ w' => Below w9.heap.size w9 w' ∧ ∃ vl, Rwl w9.heap.size w' vs vl (splitR ts [43]).1) hz9 E6' ((split_all ts (by omega) (fun q hq => by rw [hq]; omega) hv6').mono (fun e w' ⟨sa, sn, sc, x, h1, h2, h3⟩ => ⟨sa, sn, sc, x, h1, h2, h3⟩)) ?_
  rintro a10 w10 vt _ ⟨hB10, vlt, hRt⟩ hz10 hs10 h17 hd10
  have sm : ∀ t, t < 15 → a10.tmps.getD t undef = a8.tmps.getD t undef := fun t ht => (hs10 t (by omega)).trans (hs9 t ht)
  have K : K3 w w8 w9 w10 H8 s ts (a8.tmps.getD 1 undef) (a8.tmps.getD 5 undef) (a8.tmps.getD 6 undef) (a8.tmps.getD 7 undef) (a8.tmps.getD 9 undef) (a8.tmps.getD 11 undef) (a8.tmps.getD 13 undef) vs vt vl vlt :=
    ⟨hB8, hB9, hB10, hlt8, e1, e7, e9, ⟨g, c6, x5, E5, E6, O5b, R5⟩, ⟨x11, O11b, R11⟩, ⟨x13, O13b, R13⟩, fun q hq => (B5 q hq).1, fun q hq => (B11 q hq).1, s5, s5', s11, hRs, hRt⟩
  have kp10 : ∀ m v, (m, v) ∈ ks3 (a8.tmps.getD 1 undef) (a8.tmps.getD 5 undef) (a8.tmps.getD 6 undef) (a8.tmps.getD 7 undef) (a8.tmps.getD 9 undef) (a8.tmps.getD 13 undef) vs vt → a10.tmps.getD m undef = v := fun m v hm => by
    simp only [ks3, List.mem_cons, Prod.mk.injEq, List.not_mem_nil, or_false] at hm
    rcases hm with ⟨rfl, rfl⟩ | ⟨rfl, rfl⟩ | ⟨rfl, rfl⟩ | ⟨rfl, rfl⟩ | ⟨rfl, rfl⟩ | ⟨rfl, rfl⟩ | ⟨rfl, rfl⟩ | ⟨rfl, rfl⟩
    · exact sm 1 (by decide)
    · exact sm 5 (by decide)
    · exact sm 6 (by decide)
    · exact sm 7 (by decide)
    · exact sm 9 (by decide)
    · exact sm 13 (by decide)
    · exact (hs10 15 (by decide)).trans h15
    · exact h17
  have k11 := sm 11 (by decide)
  have hd10' : a10.defers = [] := hd10.trans (hd9.trans hd8)
  generalize a8.tmps.getD 1 undef = u1 at *
  generalize a8.tmps.getD 5 undef = u5 at *
  generalize a8.tmps.getD 6 undef = u6 at *
  generalize a8.tmps.getD 7 undef = u7 at *
  generalize a8.tmps.getD 9 undef = u9 at *
  generalize a8.tmps.getD 11 undef = u11 at *
  generalize a8.tmps.getD 13 undef = u13 at *
  clear hs9 hs10 sm h15 h17 O5 O11 O13 O5b O11b O13b R5 R11 R13 V5 V11 V13 B5 B11 B13 hv6 hv6' E6 E6' E5 s5 s5' s11 e1 e7 e9 b5 b11 b13
  have hc10 := K.conc hl hz10 hd10' kp10 k11
  have nk3 : ∀ A : AC, (nod 1 A && nod 5 A && nod 6 A && nod 7 A && nod 9 A && nod 13 A && nod 15 A && nod 17 A) = true → nodk ⟨H3 H8 u5 u13 vs vt vlt, fun q => u11.ownBlock = some q ∨ (Value.slice none 0 0).ownBlock = some q, ks3 u1 u5 u6 u7 u9 u13 vs vt⟩ A := fun A h m v hm => by
    simp only [Bool.and_eq_true] at h
    obtain ⟨⟨⟨⟨⟨⟨⟨q1, q5⟩, q6⟩, q7⟩, q9⟩, q13⟩, q15⟩, q17⟩ := h
    simp only [ks3, List.mem_cons, Prod.mk.injEq, List.not_mem_nil, or_false] at hm
    rcases hm with ⟨rfl, _⟩ | ⟨rfl, _⟩ | ⟨rfl, _⟩ | ⟨rfl, _⟩ | ⟨rfl, _⟩ | ⟨rfl, _⟩ | ⟨rfl, _⟩ | ⟨rfl, _⟩ <;> assumption
  have hps := ps_len ts
  have w10' := k3_walk ts (scanR s).1 (splitR ts [43]).1 (vl.map V.c) (PT (splitR ts [43]).1) hl (scanR_len s) ht (by rw [List.length_map]; exact hRs.len) (PT_len _)
  show (lkQ Try.f3 10).wp _ _ _ _
  refine part_go (n := 4) (i := 10) (A := a3) (C2 := lkC Try.f3 10) (C3 := lkQ Try.f3 11) rfl (by kernel_rfl) (nk3 _ (by kernel_rfl)) hc10 w10' ?_
  intro a11 w11 H11 ov11 s11 hv11 hc11
  refine part_go (n := 3) (i := 11) (A := a3) (C2 := lkC Try.f3 11) (C3 := lkQ Try.f3 12) rfl (by kernel_rfl) (nk3 _ (by kernel_rfl)) hc11 hv11 ?_
  intro a12 w12 H12 ov12 s12 hv12 hc12
  refine part_go (n := 2) (i := 12) (A := a3) (C2 := lkC Try.f3 12) (C3 := lkQ Try.f3 13) rfl (by kernel_rfl) (nk3 _ (by kernel_rfl)) hc12 hv12 ?_
  intro a13 w13 H13 ov13 s13 hv13 hc13
  refine part_go (n := 1) (i := 13) (A := a3) (C2 := lkC Try.f3 13) (C3 := lkQ Try.f3 14) rfl (by kernel_rfl) (nk3 _ (by kernel_rfl)) hc13 hv13 ?_
  intro a14 w14 H14 ov14 s14 hv14 hc14
  refine part_go (n := 0) (i := 14) (A := a3) (C2 := lkC Try.f3 14) (C3 := lkQ Try.f3 15) rfl (by kernel_rfl) (nk3 _ (by kernel_rfl)) hc14 hv14 ?_
  intro a15 w15 H15 ov15 s15 hv15 hc15
  refine part_last (i := 15) (A := a3) (C2 := lkC Try.f3 15) (C3 := lkQ Try.f3 16) rfl (by kernel_rfl) (nk3 _ (by kernel_rfl)) hc15 hv15 ?_
  intro a16 w16 H16 ov16 s16 _ hc16
  clear hc10 hc11 hc12 hc13 hc14 hc15 hv11 hv12 hv13 hv14 hv15 w10'
  have hz16 : a16.tmps.size = 232 := hc16.siz
  have hd16 := hc16.dfr
  have kp16 := hc16.kp
  have hb16 : BelE w10 (fun q => u11.ownBlock = some q ∨ (Value.slice none 0 0).ownBlock = some q) w16 := hc16.mem.bel
  clear hc16
  have hs16 : lkQ Try.f3 16 = (lkC Try.f3 16).seq (lkQ Try.f3 17) := rfl
  rw [hs16]
  refine wp_seq ?_
  have lt11 : ∀ q, u11.ownBlock = some q → q < w8.heap.size := fun q hq => by obtain ⟨x, h, _⟩ := K.o11; exact (h.lt q hq).2
  have hsz10 := hB10.size
  have hRs16 : Rwl w8.heap.size w16 vs vl (splitR ts [43]).1 := (hRs.below hB10).keep (fun q hq => hb16.block q (by have := (hRs.lt.1 q hq).2; omega) (fun h => h.elim (fun h => by have := lt11 q h; have := (hRs.lt.1 q hq).1; omega) (fun h => by cases h)))
    fun j v q hj hq => hb16.block q (by have := (hRs.lt.2 j v q hj hq).2; omega) (fun h => h.elim (fun h => by have := lt11 q h; have := (hRs.lt.2 j v q hj hq).1; omega) (fun h => by cases h))
  obtain ⟨sa, sc, rfl⟩ : ∃ sa sc, vs = .slice sa (splitR ts [43]).1.length sc := by
    rcases hRs.row.2 with ⟨h, h2⟩ | ⟨g, cap, cur, h, _⟩
    · rw [h2]; exact ⟨_, _, h⟩
    · exact ⟨_, _, h⟩
  refine mark_loop hz16 (kp16 15 _ (by simp [ks3])) (by omega) (fun p hp => by have := ps_each ts p hp; omega) (hRs16.base (Nat.zero_le _)) fun a17 w17 hz17 hs17 hd17 hM => ?_
  have hc17 := K.conc5 hl hb16 hM hz17 (hd17.trans hd16) (fun m v hm => (hs17 m (by
    simp only [ks3, List.mem_cons, Prod.mk.injEq, List.not_mem_nil, or_false] at hm
    omega)).trans (kp16 m v hm))
  have hml := mps_len (splitR ts [43]).1 (splitR ts [43]).1.length
  have hwalk := k5_walk ts (scanR s).1 (splitR ts [43]).1 (mps (splitR ts [43]).1 (splitR ts [43]).1.length) hl (scanR_len s) (by omega) hml (fun k hk => by
    rw [List.getD_eq_getElem?_getD, mps_get _ _ _ hk, if_pos hk]; rfl) (fun k hk => by
    have := ps_each ts ((splitR ts [43]).1.getD k []) (by rw [List.getD_eq_getElem?_getD, List.getElem?_eq_getElem hk]; exact List.getElem_mem hk)
    omega)
  show (lkQ Try.f3 17).wp _ _ _ _
  refine wp_mono (avc_sound (J := J0) (w0 := w17) (N := 232) fol (fun w' _ => trivial) (lkQ Try.f3 17) (drp 17 a3) (by kernel_rfl) (fun _ _ h => by cases h) _ _ _ w17 _ _ hc17 hwalk) fun ex a' w' hq => ?_
  have hs16' := hb16.size
  have hs17' := hM.size
  have hb17 : ∀ q, q < w.heap.size → w17.heap[q]? = w.heap[q]? := fun q hq => by
    have z1 := hB8.size
    have ltS := hRs.lt
    refine (hM.block q (by omega) fun j v hj h => ?_).trans ((hb16.block q (by omega) fun h => ?_).trans ((hB10.block q (by omega)).trans ((hB9.block q (by omega)).trans (hB8.block q hq))))
    · have := (ltS.2 j v q hj h).1; omega
    · rcases h with h | h
      · obtain ⟨x, h2, _⟩ := K.o11
        have := (h2.lt q h).1; omega
      · cases h
  have last : ∀ (s' : St) (H' : Nat → Prop) (ov' : Nat → Option Value), s'.get 4 = .b true → Conc w17 ⟨H5 H8 u13 vt vl vlt, fun q => u5.ownBlock = some q ∨ (Value.slice sa (splitR ts [43]).1.length sc).ownBlock = some q, []⟩ w' H' ov' 232 a' s' →
      a'.defers = [] ∧ ∃ r, (results Try.f3 a'.tmps).run Try.prog w' = .ok r w' ∧ ∃ v, Ending.returned r = .returned v ∧ Below w.heap.size w w' ∧ Res w w' H v (.b true) := fun s' H' ov' h4 hc' => by
    have he4 := hc'.env 4
    rw [h4] at he4
    have e4 := he4.inv_b
    have hb := hc'.mem.bel
    have z1 := hB8.size
    refine ⟨hc'.dfr, _, results_tmp rfl _ _ _, _, rfl, ⟨hb.os.trans (hM.os.trans (hb16.os.trans (hB10.os.trans (hB9.os.trans hB8.os)))), hb.tape.trans (hM.tape.trans (hb16.tape.trans (hB10.tape.trans (hB9.tape.trans hB8.tape)))), hb.output.trans (hM.output.trans (hb16.output.trans (hB10.output.trans (hB9.output.trans hB8.output)))), by have := hb.size; omega, fun q hq => (hb.block q (by omega) (fun h => ?_)).trans (hb17 q hq)⟩, fun _ => False, fun _ h => h.elim, .inl ?_⟩
    · rcases h with h | h
      · obtain ⟨_, _, x, _, _, h2, _⟩ := K.o5
        have := (h2.lt q h).1; omega
      · have := (hRs.lt.1 q h).1; omega
    · rw [e4]; exact .b true
  cases ex with
  | normal => obtain ⟨s', H', ov', hq, hc'⟩ := hq; exact absurd hq.1 (by simp)
  | ret => obtain ⟨s', H', ov', hq, hc'⟩ := hq; exact ⟨.inr rfl, last s' H' ov' hq.2 hc'⟩
  | exit i => obtain ⟨s', H', ov', hq, hc'⟩ := hq; exact absurd hq.1 (by simp)
  | goto l => exact hq.elim
  | panic ch => exact hq.elim
  | outgrown => exact hq.elim
end Go.Proofs.Ytjfbkegdnljfjaa
