/-
  lex.Split: the pieces as memory of the caller's own: the walk.
-/
import Derived.Test.YtjfbkegdnljfjaaLKS
namespace Go.Proofs.Ytjfbkegdnljfjaa
open Go Go.RowKit Go.Shelf Go.Proofs Ab
set_option linter.unusedSimpArgs false
set_option linter.unusedVariables false
set_option maxHeartbeats 10000000
theorem bz_LKT : type_of% (And.intro @wi (And.intro @tn_nat (And.intro @tn0 (And.intro @Nat.div_one (And.intro @Nat.mul_one (And.intro @T_len (And.intro @m3 (And.intro @T_row (And.intro @T_nf (And.intro @T_app1 (And.intro @Tv_nf (And.intro @PT_len (@PT_app1))))))))))))) := And.intro @wi (And.intro @tn_nat (And.intro @tn0 (And.intro @Nat.div_one (And.intro @Nat.mul_one (And.intro @T_len (And.intro @m3 (And.intro @T_row (And.intro @T_nf (And.intro @T_app1 (And.intro @Tv_nf (And.intro @PT_len (@PT_app1))))))))))))
set_option maxHeartbeats 4000000
set_option maxRecDepth 2000000
theorem splitH_walk (ts : List Tk) (hl : ts.length ≤ 10000000) (hn : (nestG ts 0 0).2 = 0) :
    avc (AFun Try.prog J0) (XFun Try.prog) (a9.p1.seq (a9.p2.p1.seq (a9.p2.p2.p1.seq (a9.p2.p2.p2.p1.seq a9.p2.p2.p2.p2.p1)))) (fun ex s => ex = .normal ∧ s.get 8 = .nl ∧ s.get 9 = .i .i64 0 ∧ s.get 10 = .i .i64 0)
      ⟨[(0, .l 3 (T ts)), (1, .s [43])], [], 0⟩ := by
  have hlen : ([43] : List UInt8).length = 1 := rfl
  have h2 : isSym 43 = true := by decide
  have h3 : (([43] : List UInt8) == [40]) = false := by decide
  have h4 : (([43] : List UInt8) == [41]) = false := by decide
  apply vm_start
  unfold a9
  simp only [init_eq, initE, AC.p1, AC.p2]
  have zc1 := contains_spec 43
  have zc2 := nest_spec ts (by omega)
  repeat first | (refine hK _ ?_; clear hK K) | simp only [Sv, ↓reduceIte, Nat.reduceEqDiff] | ((first | refine vm_reg (fun K hK => ?_) | refine vm_dreg (fun K hK => ?_) | refine vm_dregx (fun K hK => ?_) | refine clp_q ?_ | refine clq_mk (by assumption) ?_ | refine mcq_q ?_ | (apply mcr_mk; assumption) | (apply ocr_mk; assumption)); simp (disch := (first | omega | assumption)) only [S1, ↓reduceIte, Nat.reduceEqDiff, Nat.reduceAdd, Nat.reduceMul, Nat.reduceDiv, AOp.sb, AOp.mut, frzf, ↓Bool.false_eq_true, beq_self_eq_true, ite_self, Nat.reduceLeDiff, Int.reduceEq, Int.reduceSub, Int.reduceAdd, Int.reduceNeg, Int.reduceLT, Int.reduceLE, Nat.reduceLT, bz_LKT, hlen, h2, h3, h4, hn])
  refine ⟨trivial, ?_, ?_, ?_⟩ <;> first | trivial | rfl
def SpR (w : World) (ts : List Tk) (e : Ending) (w' : World) : Prop := ∃ vs vl, e = .returned (.tuple #[vs, .int .i64 0]) ∧ Below w.heap.size w w' ∧ Rwl w.heap.size w' vs vl (splitG [43] ts 0 [])
theorem sp_hit {ts : List Tk} {k fr : Nat} {d : Int} {acc : List (List Tk)} (hlt : k < ts.length) (hsp : splitG [43] ts 0 [] = acc ++ splitG [43] (ts.drop k) d ((ts.drop fr).take (k - fr))) (hz : d + way (ts.getD k default) = 0) (hs : isS (ts.getD k default) [43] = true) :
    splitG [43] ts 0 [] = (acc ++ [(ts.drop fr).take (k - fr)]) ++ splitG [43] (ts.drop (k + 1)) (d + way (ts.getD k default)) ((ts.drop (k + 1)).take (k + 1 - (k + 1))) := by
  have hnil : (ts.drop (k + 1)).take (k + 1 - (k + 1)) = [] := by rw [Nat.sub_self]; rfl
  rw [tk_drop hlt, splitG, if_pos ⟨hz, hs⟩] at hsp
  rw [hnil, hsp, List.append_assoc]; rfl
theorem sp_miss {ts : List Tk} {k fr : Nat} {d : Int} {acc : List (List Tk)} (hlt : k < ts.length) (hf : fr ≤ k) (hsp : splitG [43] ts 0 [] = acc ++ splitG [43] (ts.drop k) d ((ts.drop fr).take (k - fr))) (h : ¬ (d + way (ts.getD k default) = 0 ∧ isS (ts.getD k default) [43] = true)) :
    splitG [43] ts 0 [] = acc ++ splitG [43] (ts.drop (k + 1)) (d + way (ts.getD k default)) ((ts.drop fr).take (k + 1 - fr)) := by
  have hgrow : (ts.drop fr).take (k - fr) ++ [ts.getD k default] = (ts.drop fr).take (k + 1 - fr) := by
    rw [show k + 1 - fr = (k - fr) + 1 from by omega, List.take_succ_eq_append_getElem (by rw [List.length_drop]; omega)]
    congr 2
    rw [List.getD_eq_getElem?_getD, List.getElem?_eq_getElem hlt, List.getElem_drop]
    simp only [show fr + (k - fr) = k from by omega]; rfl
  rw [tk_drop hlt, splitG, if_neg h, hgrow] at hsp
  exact hsp
theorem info_row : (Try.prog.info? 24).map (fun i => (i.zero, i.size, i.bytes)) = some (some (.slice none 0 0), 1, 24) := by kernel_rfl
theorem sub_rep {w w' : World} {H : Nat → Prop} {b o : Nat} {ts : List Tk} {f : Nat → Value} (hc : ∀ j, j < (T ts).length → w.cell? ⟨b, o + j, none⟩ = some (f j)) (hr : ∀ (j : Nat) (x : V), (T ts)[j]? = some x → Rep0 w H (f j) x) (hb : H b) (hk : ∀ q, H q → w'.heap[q]? = w.heap[q]?)
    (i n c : Nat) (hi : i + n ≤ ts.length) (hl : ts.length ≤ 10000000) (hn : n ≤ c) : Rep0 w' H (.slice (some ⟨b, o + i * 3, none⟩) n c) (.l 3 (T ((ts.drop i).take n))) := by
  have hlen : ((ts.drop i).take n).length = n := by rw [List.length_take, List.length_drop]; omega
  have e : T ((ts.drop i).take n) = ((T ts).drop (i * 3)).take (n * 3) := by rw [T_drop, T_take]
  refine .l _ _ _ 3 _ (fun j => f (i * 3 + j)) b (o + i * 3) (by decide) (by rw [T_len, hlen]) (by unfold maxLen; omega) hn (.inr ⟨rfl, hb⟩) (fun j hj => ?_) (fun j x hx => ?_)
  · rw [T_len, hlen] at hj
    rw [Nat.add_assoc]
    exact (World.cell?_of_block (a := ⟨b, o + (i * 3 + j), none⟩) (hk b hb)).trans (hc _ (by rw [T_len]; omega))
  · rw [e, List.getElem?_take] at hx
    split at hx
    · rw [List.getElem?_drop] at hx
      exact (hr _ x hx).mono (fun _ h => h) hk
    · cases hx
theorem sub_end {w w' : World} {H : Nat → Prop} {b o : Nat} {ts : List Tk} {f : Nat → Value} (hc : ∀ j, j < (T ts).length → w.cell? ⟨b, o + j, none⟩ = some (f j)) (hr : ∀ (j : Nat) (x : V), (T ts)[j]? = some x → Rep0 w H (f j) x) (hk : ∀ q, H q → w'.heap[q]? = w.heap[q]?)
    (i c : Nat) (a' : Option Addr) (h : ts.length = i ∨ (a' = some ⟨b, o + i * 3, none⟩ ∧ H b)) (hi : i ≤ ts.length) (hl : ts.length ≤ 10000000) (hn : ts.length - i ≤ c) : Rep0 w' H (.slice a' (ts.length - i) c) (.l 3 (T (ts.drop i))) := by
  rcases h with h | ⟨rfl, hb⟩
  · subst h
    rw [List.drop_length, Nat.sub_self]
    exact .l _ _ _ 3 _ (fun _ => undef) 0 0 (by decide) rfl (Nat.zero_le _) (Nat.zero_le _) (.inl rfl) (fun j hj => absurd hj (Nat.not_lt_zero j)) (fun j x hx => by cases hx)
  · have h := sub_rep hc hr hb hk i (ts.length - i) c (by omega) hl hn
    rwa [List.take_of_length_le (by rw [List.length_drop]; exact Nat.le_refl _)] at h
theorem ow_shape {w : World} {B e k n : Nat} {v : Value} {xs : List Value} (h : w.ownsRow B e k v n xs) : ∃ a m c, v = .slice a m c := by
  rcases h.2 with ⟨rfl, _⟩ | ⟨g, cap, cur, rfl, _⟩ <;> exact ⟨_, _, _, rfl⟩
theorem split_raw (ts : List Tk) (hl : ts.length ≤ 10000000) (hn : (nestG ts 0 0).2 = 0) {w : World} {H : Nat → Prop} {va : Value} (hH : ∀ b, H b → b < w.heap.size) (hva : Rep0 w H va (.l 3 (T ts))) :
    Calls Try.prog 9 #[va, .string ⟨#[43]⟩] w (SpR w ts) := by
  refine run_pc Try.func9 rfl (vs := [va, .string ⟨#[43]⟩]) (by show 2 ≤ _; decide) (H := H) (E := fun _ => False) (ks := [(0, va), (1, .string ⟨#[43]⟩)]) (ov0 := fun _ => none)
    (s0 := ⟨[(0, .l 3 (T ts)), (1, .s [43])], [], 0⟩) ⟨BelE.refl _ _, tj0 _ _, hH, fun b h _ => .inl h, fun id o h => (by cases h), fun i j oi oj vi vj q _ h => (by cases h)⟩ (fun m v h => ?ks) (fun k hk => ?env) (fun k hk => ?rest) (fun _ _ => rfl) (fun act hconc => ?_)
  case ks =>
    simp only [List.mem_cons, Prod.mk.injEq, List.not_mem_nil, or_false] at h
    rcases h with ⟨rfl, rfl⟩ | ⟨rfl, rfl⟩
    · exact ⟨by simp, rfl⟩
    · exact ⟨by simp, rfl⟩
  case env =>
    match k, hk with
    | 0, _ => exact .base hva
    | 1, _ => exact .base (.s [43])
  case rest =>
    match k, hk with
    | k + 2, _ => rfl
  have nk : ∀ A : AC, nod 0 A = true → nod 1 A = true → nodk ⟨H, fun _ => False, [(0, va), (1, .string ⟨#[43]⟩)]⟩ A := fun A h0 h1 m v h => by
    simp only [List.mem_cons, Prod.mk.injEq, List.not_mem_nil, or_false] at h
    rcases h with ⟨rfl, _⟩ | ⟨rfl, _⟩
    · exact h0
    · exact h1
  refine seq_go (A1 := a9.p1) (A2 := a9.p2.p1.seq (a9.p2.p2.p1.seq (a9.p2.p2.p2.p1.seq a9.p2.p2.p2.p2.p1))) fol (by kernel_rfl) (nk _ rfl rfl) hconc (splitH_walk ts hl hn) ?_
  intro a1 w1 H1 ov1 s1 hv1 hc1
  refine seq_go (A1 := a9.p2.p1) (A2 := a9.p2.p2.p1.seq (a9.p2.p2.p2.p1.seq a9.p2.p2.p2.p2.p1)) fol (by kernel_rfl) (nk _ rfl rfl) hc1 hv1 ?_
  intro a2 w2 H2 ov2 s2 hv2 hc2
  refine seq_go (A1 := a9.p2.p2.p1) (A2 := a9.p2.p2.p2.p1.seq a9.p2.p2.p2.p2.p1) fol (by kernel_rfl) (nk _ rfl rfl) hc2 hv2 ?_
  intro a3 w3 H3 ov3 s3 hv3 hc3
  refine seq_go (A1 := a9.p2.p2.p2.p1) (A2 := a9.p2.p2.p2.p2.p1) fol (by kernel_rfl) (nk _ rfl rfl) hc3 hv3 ?_
  intro a4 w4 H4 ov4 s4 hv4 hc4
  refine last_go (A1 := a9.p2.p2.p2.p2.p1) fol (by kernel_rfl) (nk _ rfl rfl) hc4 hv4 ?_
  intro a5 w5 H5 ov5 s5 ⟨g8, g9, g10⟩ hc5
  have e8 := hc5.env 8
  rw [g8] at e8
  have e8 := e8.inv_nl
  have e9 := hc5.env 9
  rw [g9] at e9
  have e9 := e9.inv_i
  have e10 := hc5.env 10
  rw [g10] at e10
  have e10 := e10.inv_i
  have hB5 : Below w.heap.size w w5 := hc5.mem.bel.below (fun _ h => h)
  obtain ⟨tm, df⟩ := a5
  have hd : df = [] := hc5.dfr
  subst hd
  have k0 := hc5.kp 0 va (by simp)
  have k1 := hc5.kp 1 _ (.tail _ (.head _))
  have hz := hc5.siz
  clear hconc hc1 hc2 hc3 hc4 hc5 hv1 hv2 hv3 hv4
  obtain ⟨u0, u1, u2, u3, u4, u5, u6, u7, u8, u9, u10, u11, u12, u13, u14, u15, u16, u17, u18, u19, u20, u21, u22, u23, u24, u25, u26, u27, u28, u29, u30, u31, u32, u33, u34, u35, u36, u37, u38, u39, u40, u41, u42, u43, u44, u45, u46, u47, u48, u49, u50, u51, u52, u53, u54, u55, u56, u57, u58, u59, u60, u61, u62, u63, u64, u65, u66, u67, u68, u69, u70, u71, u72, rfl⟩ := arr73 tm hz
  obtain rfl : u0 = va := k0
  obtain rfl : u1 = .string ⟨#[43]⟩ := k1
  obtain rfl : u8 = _ := e8
  obtain rfl : u9 = _ := e9
  obtain rfl : u10 = _ := e10
  clear hz nk g8 g9 g10
  obtain ⟨ba, n, cap, f, b, o, rfl, hsz, hlen, hml, hcp, ha, hc, hr⟩ := (Rep.up (ov := fun _ => none) hva).inv_l
  rw [T_len] at hlen
  obtain rfl : n = ts.length := by omega
  clear hlen e8 e9 e10
  obtain ⟨i0, hi0, hi1, hi2, hi3⟩ := info_parts info_row
  go_wp2
  go_loopw [8, 9, 10, 39] (fun v8 v9 v10 v39 wr => ∃ (k : Nat) (d : Int) (fr : Nat) (acc : List (List Tk)) (vl : List Value), v39 = .int .i64 k ∧ v9 = .int .i64 d ∧ v10 = .int .i64 fr ∧ k ≤ ts.length ∧ -(k : Int) ≤ d ∧ d ≤ k ∧ fr ≤ k ∧ acc.length ≤ k ∧
    splitG [43] ts 0 [] = acc ++ splitG [43] (ts.drop k) d ((ts.drop fr).take (k - fr)) ∧ Below w.heap.size w wr ∧ Rwl w.heap.size wr v8 vl acc) (fun _ _ _ v39 _ => ts.length - (intOf v39).toNat)
  case atStart => exact ⟨0, 0, 0, [], [], rfl, rfl, rfl, Nat.zero_le _, Int.le_refl _, Int.le_refl _, Nat.le_refl _, Nat.le_refl _, rfl, hB5, Rwl.nil _ _⟩
  case round =>
    obtain ⟨k, d, fr, acc, vl, rfl, rfl, rfl, hk, hd0, hd1, hf, hacc, hsp, hbw, hR⟩ := hrel
    have hspA : Hid (splitG [43] ts 0 [] = acc ++ splitG [43] (ts.drop k) d ((ts.drop fr).take (k - fr))) := hsp
    clear hsp
    by_cases hlt : k < ts.length
    · obtain ⟨t0, t1, t2⟩ := T_cell3 ts k hlt
      obtain ⟨rfl, hHb⟩ : ba = some ⟨b, o, none⟩ ∧ H b := by
        rcases ha with h | h
        · have := T_len ts; rw [h] at this; simp at this; omega
        · exact h
      have hbb := hH b hHb
      have e0 : f (k * 3) = .int .i64 (ts.getD k default).k := by
        have h := hr _ _ t0
        generalize f (k * 3) = u at h
        cases h; rfl
      have e1 : f (k * 3 + 1) = .string ⟨(ts.getD k default).t.toArray⟩ := by
        have h := hr _ _ t1
        generalize f (k * 3 + 1) = u at h
        cases h; rfl
      have e2 : f (k * 3 + 2) = .int .i64 (ts.getD k default).a := by
        have h := hr _ _ t2
        generalize f (k * 3 + 2) = u at h
        cases h; rfl
      have d0 : wr.cell? ⟨b, o + k * 3, none⟩ = some (.int .i64 (ts.getD k default).k) := by
        rw [← e0]; exact (hbw.cell (p := ⟨b, o + k * 3, none⟩) hbb).trans (hc _ (by rw [T_len]; omega))
      have d1 : wr.cell? ⟨b, o + k * 3 + 1, none⟩ = some (.string ⟨(ts.getD k default).t.toArray⟩) := by
        rw [← e1]; exact (hbw.cell (p := ⟨b, o + k * 3 + 1, none⟩) hbb).trans (hc (k * 3 + 1) (by rw [T_len]; omega))
      have d2 : wr.cell? ⟨b, o + k * 3 + 2, none⟩ = some (.int .i64 (ts.getD k default).a) := by
        rw [← e2]; exact (hbw.cell (p := ⟨b, o + k * 3 + 2, none⟩) hbb).trans (hc (k * 3 + 2) (by rw [T_len]; omega))
      have hw := way_le (ts.getD k default)
      obtain ⟨x, hx⟩ : ∃ x, x = ts.getD k default := ⟨_, rfl⟩
      rw [← hx] at d0 d1 d2 hw
      have hxA : Hid (x = ts.getD k default) := hx
      clear e0 e1 e2 t0 t1 t2 hx
      have hcA : Hid (∀ j, j < (T ts).length → w.cell? ⟨b, o + j, none⟩ = some (f j)) := hc
      have hrA : Hid (∀ (j : Nat) (x : V), (T ts)[j]? = some x → Rep0 w H (f j) x) := hr
      clear hc hr
      have hsz1 : w.heap.size ≤ wr.heap.size := hbw.size
      go_wp2_with fail
      obtain ⟨W1, hW1⟩ : ∃ W1, W1 = wr.alloc (Obj.cells #[.int .i64 x.k, .string ⟨x.t.toArray⟩, .int .i64 x.a] 27) := ⟨_, rfl⟩
      have hs1 : W1.heap.size = wr.heap.size + 1 := by rw [hW1]; simp
      have hw1 : W1.heap[wr.heap.size]? = some (.cells #[.int .i64 x.k, .string ⟨x.t.toArray⟩, .int .i64 x.a] 27 (0, 0)) := by rw [hW1]; exact heap_alloc_new wr _
      have hB1 : Below wr.heap.size wr W1 := by rw [hW1]; exact (Below.refl _ wr).alloc (Nat.le_refl _) _
      rw [← hW1]
      clear hW1
      refine (step_k x W1).mono ?_
      rintro e W2 ⟨rfl, hB2⟩
      have hs2 := hB2.size
      have hw2 : W2.heap[wr.heap.size]? = some (.cells #[.int .i64 x.k, .string ⟨x.t.toArray⟩, .int .i64 x.a] 27 (0, 0)) := (hB2.block _ (by omega)).trans hw1
      have q0 : W2.cell? ⟨wr.heap.size, 0, none⟩ = some (.int .i64 x.k) := cell_of_row _ _ 0 _ _ _ hw2
      have q1 : W2.cell? ⟨wr.heap.size, 1, none⟩ = some (.string ⟨x.t.toArray⟩) := cell_of_row _ _ 1 _ _ _ hw2
      have q2 : W2.cell? ⟨wr.heap.size, 2, none⟩ = some (.int .i64 x.a) := cell_of_row _ _ 2 _ _ _ hw2
      have hB12 : Below wr.heap.size wr W2 := ⟨hB2.os.trans hB1.os, hB2.tape.trans hB1.tape, hB2.output.trans hB1.output, by omega, fun q hq => (hB2.block q (by omega)).trans (hB1.block q hq)⟩
      have hbw2 : Below w.heap.size w W2 := ⟨hB12.os.trans hbw.os, hB12.tape.trans hbw.tape, hB12.output.trans hbw.output, by omega, fun q hq => (hB12.block q (by omega)).trans (hbw.block q hq)⟩
      clear hB1 hB2 hw1
      by_cases hz : d + way x = 0
      · go_wp2_with fail
        refine (is_k x W2).mono ?_
        rintro e W3 ⟨rfl, hB3⟩
        have hs3 := hB3.size
        have hB13 : Below wr.heap.size wr W3 := ⟨hB3.os.trans hB12.os, hB3.tape.trans hB12.tape, hB3.output.trans hB12.output, by omega, fun q hq => (hB3.block q (by omega)).trans (hB12.block q hq)⟩
        have hbw3 : Below w.heap.size w W3 := ⟨hB13.os.trans hbw.os, hB13.tape.trans hbw.tape, hB13.output.trans hbw.output, by omega, fun q hq => (hB13.block q (by omega)).trans (hbw.block q hq)⟩
        clear hB12 hB3 hbw2 hw2 q0 q1 q2
        cases hs : isS x [43] with
        | false =>
          go_wp2
          go_roundw
          case rel =>
            have e := sp_miss hlt hf hspA.out (fun h => by rw [← hxA.out, hs] at h; exact absurd h.2 (by decide))
            rw [← hxA.out] at e
            exact ⟨k + 1, d + way x, fr, acc, vl, by go_num, by rw [hz], rfl, by omega, by omega, by omega, by omega, by omega, e, hbw3, hR.below hB13⟩
          case measure => simp [intOf]; omega
        | true =>
          go_wp2_with fail
          refine (clone_k ((ts.drop fr).take (k - fr)) (by rw [List.length_take, List.length_drop]; omega) (H := H) (W := W3) (fun q hq => by have := hH q hq; omega) (sub_rep hcA.out hrA.out hHb (fun q hq => hbw3.block q (hH q hq)) fr (k - fr) (cap - fr) (by omega) hl (by omega))).mono ?_
          rintro e W4 ⟨vc, xs, rfl, hB4, hoc, hxc⟩
          obtain ⟨ca, cn, cc, rfl⟩ := ow_shape hoc
          have hs4 := hB4.size
          have hB14 : Below wr.heap.size wr W4 := ⟨hB4.os.trans hB13.os, hB4.tape.trans hB13.tape, hB4.output.trans hB13.output, by omega, fun q hq => (hB4.block q (by omega)).trans (hB13.block q hq)⟩
          have hbw4 : Below w.heap.size w W4 := ⟨hB14.os.trans hbw.os, hB14.tape.trans hbw.tape, hB14.output.trans hbw.output, by omega, fun q hq => (hB14.block q (by omega)).trans (hbw.block q hq)⟩
          have hR4 := hR.below hB14
          have hacc2 : (acc.length + 1) * 24 ≤ 140737488355328 := by omega
          have hRA : Hid (Rwl w.heap.size wr u8 vl acc) := hR
          have hocA : Hid (W4.ownsRow W3.heap.size 27 3 (.slice ca cn cc) ((ts.drop fr).take (k - fr)).length xs) := hoc
          have hxA2 : Hid (RepAll W4 (fun _ => False) xs (T ((ts.drop fr).take (k - fr)))) := hxc
          clear hR hoc hxc hbw3
          go_wp2_with (first
            | (at_builtin; refine wpList_append_own _ rfl _ _ 36 rfl w.heap.size 24 i0 (.slice none 0 0) 1 24 Try.underlying36 hi0 hi1 hi2 hi3 rfl (by decide) _ _ _ rfl (hR4.row.alloc _) ⟨W4.heap.size, 0, none⟩ 1 1 [.slice ca cn cc] rfl rfl ?c1 ?c2 ?c3 ?c4 ?c5 ?_))
          case c1 =>
            intro j u hj
            match j, hj with
            | 0, hj => simp at hj; subst hj; simp [Addr.add]
          case c2 => intro u hu; simp at hu; subst hu; rfl
          case c3 => unfold maxLen; omega
          case c4 => exact hacc2
          case c5 => simp; omega
          intro v' W5 hown' hgrow _
          have hBa : Below W4.heap.size W4 (W4.alloc (Obj.cells #[.slice ca cn cc] 24)) := (Below.refl _ _).alloc (Nat.le_refl _) _
          have hR34 : Rwl w.heap.size W3 u8 vl acc := hRA.out.below hB13
          have hR5 := hR34.push (p := (ts.drop fr).take (k - fr)) (by omega) hB4 hocA.out hxA2.out hBa hown' hgrow
          have hb5 : Below w.heap.size w W5 := by
            have hsa := hBa.size
            refine ⟨hgrow.os.trans (hBa.os.trans hbw4.os), hgrow.tape.trans (hBa.tape.trans hbw4.tape), hgrow.output.trans (hBa.output.trans hbw4.output), by have := hgrow.size; omega, fun q hq => (hgrow.block q (by omega) (fun e => ?_)).trans ((hBa.block q (by omega)).trans (hbw4.block q hq))⟩
            have := (hRA.out.row.lt q e.symm).1; omega
          have hR5A : Hid (Rwl w.heap.size W5 v' (vl ++ [.slice ca cn cc]) (acc ++ [(ts.drop fr).take (k - fr)])) := hR5
          clear hown' hgrow hR4 hR34 hR5 hBa
          go_wp2
          go_roundw
          case rel =>
            have e := sp_hit hlt hspA.out (by rw [← hxA.out]; exact hz) (by rw [← hxA.out]; exact hs)
            rw [← hxA.out] at e
            exact ⟨k + 1, d + way x, k + 1, _, _, by go_num, by rw [hz], by go_num, by omega, by omega, by omega, by omega, by rw [List.length_append, List.length_singleton]; omega, e, hb5, hR5A.out⟩
          case measure => simp [intOf]; omega
      · go_wp2
        go_roundw
        case rel =>
          have e := sp_miss hlt hf hspA.out (fun h => by rw [← hxA.out] at h; exact hz h.1)
          rw [← hxA.out] at e
          exact ⟨k + 1, d + way x, fr, acc, vl, by go_num, by go_num, rfl, by omega, by omega, by omega, by omega, by omega, e, hbw2, hR.below hB12⟩
        case measure => simp [intOf]; omega
    · obtain rfl : k = ts.length := by omega
      have hn9 : ¬ (ts.length : Int) < (ts.length : Int) := by omega
      have hadd : ∀ a : Addr, a = ⟨b, o, none⟩ → a.add (fr * 3) = ⟨b, o + fr * 3, none⟩ := fun a e => by rw [e]; exact Addr.add_lit _ _ _
      have hspE := hspA.out
      rw [List.drop_length, splitG, List.take_of_length_le (by rw [List.length_drop]; exact Nat.le_refl _)] at hspE
      have hspB : Hid (splitG [43] ts 0 [] = acc ++ [ts.drop fr]) := hspE
      clear hspE hspA
      have haA : Hid (T ts = [] ∨ ba = some ⟨b, o, none⟩ ∧ H b) := ha
      have haddA : Hid (∀ a : Addr, a = ⟨b, o, none⟩ → a.add (fr * 3) = ⟨b, o + fr * 3, none⟩) := hadd
      have hcA : Hid (∀ j, j < (T ts).length → w.cell? ⟨b, o + j, none⟩ = some (f j)) := hc
      have hrA : Hid (∀ (j : Nat) (x : V), (T ts)[j]? = some x → Rep0 w H (f j) x) := hr
      have hT0 : T ts = [] → ts.length = 0 := fun h => by have := T_len ts; rw [h] at this; simp at this; omega
      clear ha hadd hc hr
      go_wp2_with fail
      all_goals refine (clone_k (ts.drop fr) (by rw [List.length_drop]; omega) (H := H) (W := wr) (fun q hq => by have := hH q hq; have := hbw.size; omega) ?_).mono ?_
      all_goals first
        | exact sub_end hcA.out hrA.out (fun q hq => hbw.block q (hH q hq)) fr _ _ (.inl (by omega)) hf hl (by omega)
        | (refine sub_end hcA.out hrA.out (fun q hq => hbw.block q (hH q hq)) fr _ _ ?_ hf hl (by omega)
           rcases haA.out with h | ⟨rfl, hb⟩
           · exact .inl (by have := hT0 h; omega)
           · exact .inr ⟨by rw [Option.map_some, haddA.out _ rfl], hb⟩)
        | skip
      all_goals
        rintro e W4 ⟨vc, xs, rfl, hB4, hoc, hxc⟩
        obtain ⟨ca, cn, cc, rfl⟩ := ow_shape hoc
        have hs4 := hB4.size
        have hsr := hbw.size
        have hbw4 : Below w.heap.size w W4 := ⟨hB4.os.trans hbw.os, hB4.tape.trans hbw.tape, hB4.output.trans hbw.output, by omega, fun q hq => (hB4.block q (by omega)).trans (hbw.block q hq)⟩
        have hR4 := hR.below hB4
        have hacc2 : (acc.length + 1) * 24 ≤ 140737488355328 := by omega
        have hRA : Hid (Rwl w.heap.size wr u8 vl acc) := hR
        have hocA : Hid (W4.ownsRow wr.heap.size 27 3 (.slice ca cn cc) (ts.drop fr).length xs) := hoc
        have hxA2 : Hid (RepAll W4 (fun _ => False) xs (T (ts.drop fr))) := hxc
        have hBA : Hid (Below wr.heap.size wr W4) := hB4
        clear hR hoc hxc hB4
        go_wp2_with (first
          | (at_builtin; refine wpList_append_own _ rfl _ _ 36 rfl w.heap.size 24 i0 (.slice none 0 0) 1 24 Try.underlying36 hi0 hi1 hi2 hi3 rfl (by decide) _ _ _ rfl (hR4.row.alloc _) ⟨W4.heap.size, 0, none⟩ 1 1 [.slice ca cn cc] rfl rfl (fun j u hj => by
              match j, hj with
              | 0, hj => simp at hj; subst hj; simp [Addr.add]) (fun u hu => by simp at hu; subst hu; rfl) (by unfold maxLen; omega) hacc2 (by simp; omega) ?_))
        intro v' W5 hown' hgrow _
        have hBa : Below W4.heap.size W4 (W4.alloc (Obj.cells #[.slice ca cn cc] 24)) := (Below.refl _ _).alloc (Nat.le_refl _) _
        have hR5 := hRA.out.push (p := ts.drop fr) hsr hBA.out hocA.out hxA2.out hBa hown' hgrow
        have hb5 : Below w.heap.size w W5 := by
          have hsa := hBa.size
          refine ⟨hgrow.os.trans (hBa.os.trans hbw4.os), hgrow.tape.trans (hBa.tape.trans hbw4.tape), hgrow.output.trans (hBa.output.trans hbw4.output), by have := hgrow.size; omega, fun q hq => (hgrow.block q (by omega) (fun e => ?_)).trans ((hBa.block q (by omega)).trans (hbw4.block q hq))⟩
          have := (hRA.out.row.lt q e.symm).1; omega
        have hR5A : Hid (Rwl w.heap.size W5 v' (vl ++ [.slice ca cn cc]) (acc ++ [ts.drop fr])) := hR5
        clear hown' hgrow hR4 hR5 hBa
        go_wp2
        exact ⟨_, resSlots_run (show resSlots Try.f9.results.toList = some [4, 5] from rfl) _ _, v', _, rfl, hb5, by rw [hspB.out]; exact hR5A.out⟩
end Go.Proofs.Ytjfbkegdnljfjaa
