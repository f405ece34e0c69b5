/-
  The book: a polynomial to be handed in.
-/
import Derived.Test.YteaiegppmbcibaaBK6
namespace Go.Proofs.Yteaiegppmbcibaa
open Go Go.RowKit Go.Shelf Go.Proofs Ab
set_option linter.unusedSimpArgs false
set_option linter.unusedVariables false
set_option maxHeartbeats 10000000
set_option maxHeartbeats 4000000
set_option maxRecDepth 2000000
attribute [local go_sem] Oper.semAt_some
theorem zIn_mk (w : World) (n : Nat) (hn : n ≤ 1000) : (Instr.makeSlice 22 (.int .i64 ((n : Int) + 5)) (.int .i64 ((n : Int) + 5))).run Try.prog w = .ok (.slice (some ⟨w.heap.size, 0, none⟩) (n + 5) (n + 5)) (w.alloc (.cells (madeCells #[.bool false, .slice none 0 0] ((n + 5) * 2)) 58)) := by
  obtain ⟨i, hi, hz, hs, hb⟩ : ∃ i, Try.prog.info? 58 = some i ∧ i.zero = some (.agg #[.bool false, .slice none 0 0]) ∧ i.size = 2 ∧ i.bytes = 32 := ⟨_, rfl, rfl, rfl, rfl⟩
  have hr := run_make (P := Try.prog) w 22 58 i _ Try.underlying22 hi hz .i64 .i64 ((n : Int) + 5) ((n : Int) + 5) (by omega) (Int.le_refl _) (by rw [hb]; omega) (by omega)
  rw [hs] at hr
  rw [show ((n : Int) + 5).toNat = n + 5 from by omega] at hr
  exact hr
theorem ZI.start {w W1 : World} {H E : Nat → Prop} {b : Nat} {l : Zl} (hb : Bk w H E b 0 [] [] [] [.nl, .nl, .nl, .nl]) (hW : W1 = w.alloc (.cells (madeCells #[.bool false, .slice none 0 0] ((l.length + 5) * 2)) 58)) : ZI w H E b w.heap.size l 0 W1 := by
  have hB : Below w.heap.size w W1 := by rw [hW]; exact (Below.refl _ _).alloc (Nat.le_refl _) _
  refine ⟨H, E, _, hb.grown hB.size (fun q hq => hB.block q hq), fun _ h => h, fun _ h => .inl h, fun _ h => .inl h, ⟨hB.os, hB.tape, hB.output, hB.size, fun q hq _ => hB.block q hq⟩, by rw [hW]; simp, by rw [hW]; exact heap_alloc_new w _, size_madeCells _ _, ?_⟩
  have h := made_rep (w := W1) (H := H) #[.bool false, .slice none 0 0] (by decide) (l.length + 5)
  have e : (List.replicate (l.length + 5) ((#[Value.bool false, .slice none 0 0] : Array Value).toList.map cS)).flatten = ZC (fuF l 0) := by
    unfold fuF
    rw [List.take_zero, List.nil_append, Nat.sub_zero]
    generalize l.length + 5 = m
    induction m with
    | zero => rfl
    | succ m ih => rw [List.replicate_succ, List.flatten_cons, ih, List.replicate_succ]; rfl
  rw [e] at h
  exact h
theorem ZC_opt : ∀ (l : Zl) (k : Nat), k < l.length → (ZC l)[k * 2]? = some (.b (l.getD k (false, [])).1) ∧ (ZC l)[k * 2 + 1]? = some (.l 1 (W (l.getD k (false, [])).2))
  | [], k, h => by simp at h
  | p :: r, 0, h => ⟨rfl, rfl⟩
  | p :: r, k + 1, h => by
    have := ZC_opt r k (by simpa using h)
    rw [show (k + 1) * 2 = k * 2 + 1 + 1 from by omega]
    simpa [ZC] using this
theorem sl_no (cs : List V) (h : ∀ x, x ∈ cs → x.cell = true) {a b c d : Nat} (hx : V.sl a b c d ∈ cs) : False := by have := h _ hx; cases this
theorem zIn_raw {w : World} {H E : Nat → Prop} {b : Nat} {v1 : Value} {l : Zl} (hb : Bk w H E b 0 [] [] [] [.nl, .nl, .nl, .nl]) (hv1 : Rep0 w H v1 (.l 2 (ZC l))) (ll : l.length ≤ 1000) (hl : ∀ p, p ∈ l → p.2.length ≤ 1000000000) :
    Calls Try.prog 5 #[.pointer (some ⟨b, 0, none⟩), v1] w fun e w' => ∃ r Hf, e = .returned r ∧ BelE w E w' ∧ (∀ x, H x → Hf x) ∧ (∀ x, Hf x → x < w'.heap.size) ∧ (∀ x, Hf x → H x ∨ E x ∨ w.heap.size ≤ x) ∧ TJ w' Hf ∧ Rep0 w' Hf r (.l 2 (ZC l)) ∧
      Rep0 w' Hf (.pointer (some ⟨b, 0, none⟩)) (.ip (bkV (lsF l l.length) (fsF l l.length) (fsF l l.length) l (fuF l l.length)) 0) := by
  have hzl := ZC_len l
  obtain ⟨ba, m, cap, f, bl, o, rfl, hsz, hlen, hml, hcp, ha, hc, hr⟩ := (Rep.up (ov := fun _ => none) hv1).inv_l
  rw [hzl] at hlen
  obtain rfl : m = l.length := by omega
  have hmk := zIn_mk w l.length ll
  have hEH : ∀ x, E x → ¬ H x ∧ x < w.heap.size := by obtain ⟨_, _, _, _, h⟩ := hb; exact h
  have hHlt : ∀ x, H x → x < w.heap.size := by obtain ⟨_, hm, _⟩ := hb; exact hm.Hlt
  obtain ⟨W1, hW1⟩ : ∃ W1, W1 = w.alloc (.cells (madeCells #[.bool false, .slice none 0 0] ((l.length + 5) * 2)) 58) := ⟨_, rfl⟩
  have hZ0 := ZI.start (l := l) hb hW1
  rw [← hW1] at hmk
  clear hW1
  go_enter Try.func5, Try.ntmps5
  go_wp2
  go_loopw [6] (fun i wr => ∃ k : Nat, k ≤ l.length ∧ i = .int .i64 k ∧ ZI w H E b w.heap.size l k wr) (fun i _ => l.length - (intOf i).toNat)
  case atStart => exact ⟨0, Nat.zero_le _, rfl, hZ0⟩
  case round =>
    obtain ⟨k, hk, rfl, hZ⟩ := hrel
    by_cases hlt : k < l.length
    · obtain ⟨Hk, Ek, cur, hBk, y1, y2, y3, y4, y5, y6, y7, y8⟩ := hZ
      have hEk : ∀ x, Ek x → ¬ Hk x ∧ x < wr.heap.size := by obtain ⟨_, _, _, _, h⟩ := hBk; exact h
      have hHk : ∀ x, Hk x → x < wr.heap.size := by obtain ⟨_, hm, _⟩ := hBk; exact hm.Hlt
      obtain ⟨rfl, hbl⟩ : ba = some ⟨bl, o, none⟩ ∧ H bl := by
        rcases ha with h | h
        · rw [h] at hzl; simp at hzl; omega
        · exact h
      obtain ⟨t0, t1⟩ := ZC_opt l k hlt
      have e0 : f (k * 2) = .bool (l.getD k (false, [])).1 := by
        have h := hr _ _ t0
        generalize f (k * 2) = u at h
        cases h; rfl
      have e1 := hr _ _ t1
      have hblk : wr.heap[bl]? = w.heap[bl]? := y4.block bl (hHlt bl hbl) (fun h => (hEH bl h).1 hbl)
      have d0 : wr.cell? ⟨bl, o + k * 2, none⟩ = some (.bool (l.getD k (false, [])).1) := by
        rw [← e0]; exact (World.cell?_of_block (a := ⟨bl, o + k * 2, none⟩) hblk).trans (hc _ (by rw [hzl]; omega))
      have d1 : wr.cell? ⟨bl, o + k * 2 + 1, none⟩ = some (f (k * 2 + 1)) := (World.cell?_of_block (a := ⟨bl, o + k * 2 + 1, none⟩) hblk).trans (hc (k * 2 + 1) (by rw [hzl]; omega))
      have e2 := e1.mono (w' := wr) y1 (fun x hx => y4.block x (hHlt x hx) (fun h => (hEH x h).1 hx))
      have hmem : l.getD k (false, []) ∈ l := by rw [List.getD_eq_getElem?_getD, List.getElem?_eq_getElem hlt]; exact List.getElem_mem hlt
      have hin := intIn_raw (w := wr) (s := (l.getD k (false, [])).1) hBk e2 (fun x hx => by
        simp only [List.mem_cons, List.not_mem_nil, or_false] at hx
        rcases hx with rfl | rfl | rfl | rfl <;> exact .inr rfl) (by omega) (hl _ hmem) (lsF_len l k hk) (fsF_len l k hk) (fsF_len l k hk)
      obtain ⟨va, hva⟩ : ∃ va, va = f (k * 2 + 1) := ⟨_, rfl⟩
      rw [← hva] at d1 hin
      clear e0 e1 e2 t0 t1 hva hmem
      have hstep := fun (r : Value) (X : World) => ZI.step (b := b) (X := X) (r := r) (Nat.le_refl _) (fun h => Nat.lt_irrefl _ (hEH _ h).2) (fun h => Nat.lt_irrefl _ (hHlt _ h)) y1 y2 y3 y4 y5 y6 y7 y8 hlt hHk (fun x h => (hEk x h).1)
      generalize l.getD k (false, []) = pk at *
      have hkI : (k : Int) < (l.length : Int) := by omega
      go_wp2_with (go_at_call 17; refine hin.mono ?_; rintro e X ⟨r, rfl, hP⟩; obtain ⟨hX, hZn⟩ := hstep r X hP; obtain ⟨ra, rn, rc, rfl⟩ : ∃ ra rn rc, r = .slice ra rn rc := (by obtain ⟨_, _, _, _, _, _, _, hr⟩ := hP; obtain ⟨ra, rn, rc, _, _, _, rfl, _⟩ := (Rep.up (ov := fun _ => none) hr).inv_l; exact ⟨_, _, _, rfl⟩); have z0 := (cell_of_row _ _ (k * 2) _ _ _ hX).trans (Array.getElem?_eq_getElem (by omega)); have z1 := (cell_of_row _ _ (k * 2 + 1) _ _ _ hX).trans (Array.getElem?_eq_getElem (by omega)); have f0 := frozen_of_row _ _ (k * 2) _ _ hX; have f1 := frozen_of_row _ _ (k * 2 + 1) _ _ hX)
      go_roundw
      case rel => exact ⟨k + 1, hlt, by go_num, hZn⟩
      case measure => simp [intOf]; omega
    · obtain rfl : k = l.length := by omega
      have hn9 : ¬ (l.length : Int) < (l.length : Int) := by omega
      go_wp2
      obtain ⟨Hk, Ek, cur, hBk, y1, y2, y3, y4, y5, y6, y7, y8⟩ := hZ
      obtain ⟨ov, hm, ⟨v0, hv0, hb0⟩, hnew, hE2⟩ := hBk
      have hHq : ¬ Hk w.heap.size := fun h => by
        rcases y2 _ h with h | h | h
        · exact Nat.lt_irrefl _ (hHlt _ h)
        · exact Nat.lt_irrefl _ (hEH _ h).2
        · omega
      have hEq : ¬ Ek w.heap.size := fun h => by
        rcases y3 _ h with h | h
        · exact Nat.lt_irrefl _ (hEH _ h).2
        · omega
      have obE : ∀ i o v x, bkO l.length (lsF l l.length) (fsF l l.length) (fsF l l.length) [.nl, .nl, .nl, .nl] i = some o → ov i = some v → blk v = some x → Ek x := fun i o v x hi hv hx => by
        obtain ⟨v', hv', hor⟩ := hm.obj i o hi
        rw [hv] at hv'; cases hv'
        rcases hor.ow x hx with h | h
        · have := (hor.lt hx).2; omega
        · exact h
      have M := mem_rebase (H2 := fun x => Hk x ∨ x = w.heap.size) (r := fun i => i) hm (fun x h => .inl h) (fun x h => h.elim (hm.Hlt x) (fun h => by omega)) (fun i o v x hi hv hx h => h.elim id (fun h => absurd (obE i o v x hi hv hx) (h ▸ hEq))) (fun i j _ _ _ _ h => h) (fun i o2 h => ⟨o2, h, rfl, rfl, rfl, rfl, rfl, fun j x1 x2 h1 h2 => by
        rw [h1] at h2; cases h2
        obtain ⟨v', hv', hor⟩ := hm.obj i o2 h
        rcases hor.clr x1 (List.mem_of_getElem? h1) with h5 | ⟨_, h5⟩
        · exact .inl ⟨rfl, h5⟩
        · cases x1 with
          | ow sz i n => exact .inr (.inl ⟨sz, i, n, rfl, rfl⟩)
          | nl => exact .inr (.inr ⟨rfl, rfl⟩)
          | sl a b c d =>
            exfalso
            have h6 := List.mem_of_getElem? h1
            simp only [bkO, lo] at h
            split at h
            · cases h; simp at h6
            · split at h
              · cases h; exact sl_no (lsF l l.length) (fun x hx => by simp only [lsF, List.mem_map] at hx; obtain ⟨p, _, rfl⟩ := hx; rfl) h6
              · split at h
                · cases h; exact sl_no (fsF l l.length) (fun x hx => by simp only [fsF, List.mem_map] at hx; obtain ⟨p, _, rfl⟩ := hx; rfl) h6
                · split at h
                  · cases h; exact sl_no (fsF l l.length) (fun x hx => by simp only [fsF, List.mem_map] at hx; obtain ⟨p, _, rfl⟩ := hx; rfl) h6
                  · cases h
          | _ => cases h5⟩) [(0, .pointer (some ⟨b, 0, none⟩)), (1, .slice ba l.length cap), (5, .slice (some ⟨w.heap.size, 0, none⟩) (l.length + 5) (l.length + 5))]
      have hfl : (fuF l l.length).length = l.length + 5 := by simp [fuF]
      have htk : (ZC (fuF l l.length)).take (l.length * 2) = ZC l := by
        have e : fuF l l.length = l ++ List.replicate 5 (false, []) := by unfold fuF; rw [List.take_length, show l.length + 5 - l.length = 5 from by omega]
        rw [e, ZC_app, ← hzl, List.take_left]
      have row : ∀ (W2 : World) (HF : Nat → Prop) (c n : Nat) (m : Zl), W2.heap[w.heap.size]? = some (.cells cur 58 (0, 0)) → (∀ x, Hk x → HF x) → HF w.heap.size → (∀ x, Hk x → W2.heap[x]? = wr.heap[x]?) → ZC m = (ZC (fuF l l.length)).take (n * 2) → n ≤ l.length + 5 → n ≤ c → Rep0 W2 HF (.slice (some ⟨w.heap.size, 0, none⟩) n c) (.l 2 (ZC m)) := fun W2 HF c n m h1 h2 h3 h4 h5 h6 h7 => by
        have hm2 : (ZC m).length = n * 2 := by rw [h5, List.length_take, ZC_len, hfl]; omega
        refine .l _ _ _ 2 _ (fun j => cur[j]?.getD undef) w.heap.size 0 (by decide) hm2 (by unfold maxLen; omega) h7 (.inr ⟨rfl, h3⟩) (fun j hj => ?_) (fun j x hx => ?_)
        · rw [Nat.zero_add, cell_of_row _ _ _ _ _ _ h1, Array.getElem?_eq_getElem (by omega)]; rfl
        · have hj : j < n * 2 := by rw [← hm2]; exact (List.getElem?_eq_some_iff.1 hx).1
          have hjc : j < cur.size := by omega
          rw [h5, List.getElem?_take, if_pos hj] at hx
          rw [Array.getElem?_eq_getElem hjc]
          exact (y8.2 j cur[j] x (by simp [hjc]) hx).mono h2 h4
      have rv1 : Rep0 wr (fun x => Hk x ∨ x = w.heap.size) (.slice ba l.length cap) (.l 2 (ZC l)) := hv1.mono (fun x hx => .inl (y1 x hx)) (fun x hx => y4.block x (hHlt x hx) (fun h => (hEH x h).1 hx))
      have rv5 := row wr (fun x => Hk x ∨ x = w.heap.size) (l.length + 5) (l.length + 5) (fuF l l.length) y6 (fun x h => .inl h) (.inr rfl) (fun _ _ => rfl) (List.take_of_length_le (by rw [ZC_len, hfl]; exact Nat.le_refl _)).symm (Nat.le_refl _) (Nat.le_refl _)
      refine mid_go (N := 53) (s := ⟨[(0, .pt 0 0), (1, .l 2 (ZC l)), (5, .l 2 (ZC (fuF l l.length)))], [(0, some ⟨33, 7, [.ow 1 1 l.length, .ow 1 2 l.length, .ow 1 3 l.length, .nl, .nl, .nl, .nl], true, true⟩), (1, some ⟨55, 1, lsF l l.length, true, false⟩), (2, some ⟨55, 1, fsF l l.length, true, false⟩), (3, some ⟨55, 1, fsF l l.length, true, false⟩)], 4⟩)
        fol (A := a5.p2.p2.p2.p1) (by kernel_rfl) ?nk (Conc.mk M ?siz rfl ?kp ?env hnew) (zIn_walk l.length (lsF l l.length) (fsF l l.length) (fsF l l.length) l (fuF l l.length) htk hfl ll) ?go
      case nk =>
        intro m v h
        simp only [List.mem_cons, Prod.mk.injEq, List.not_mem_nil, or_false] at h
        rcases h with ⟨rfl, _⟩ | ⟨rfl, _⟩ | ⟨rfl, _⟩ <;> rfl
      case siz => rfl
      case kp =>
        intro m v h
        simp only [List.mem_cons, Prod.mk.injEq, List.not_mem_nil, or_false] at h
        rcases h with ⟨rfl, rfl⟩ | ⟨rfl, rfl⟩ | ⟨rfl, rfl⟩ <;> rfl
      case env =>
        intro t
        show Rep wr _ _ _ (lk [(0, .pt 0 0), (1, .l 2 (ZC l)), (5, .l 2 (ZC (fuF l l.length)))] t)
        unfold lk
        split
        · rename_i e; subst e; exact .pt 0 0 b v0 hv0 hb0
        · unfold lk
          split
          · rename_i e; subst e; exact .base rv1
          · unfold lk
            split
            · rename_i e; subst e; exact .base rv5
            · exact .any _
      case go =>
        intro a' w' H' ov' s' hzk hc'
        obtain ⟨tm, df⟩ := a'
        have hd : df = [] := hc'.dfr
        subst hd
        have k0 := hc'.kp 0 _ (.head _)
        have k1 := hc'.kp 1 _ (.tail _ (.head _))
        have k5 := hc'.kp 5 _ (.tail _ (.tail _ (.head _)))
        have e0 := hc'.env 0
        rw [k0] at e0
        obtain ⟨i4, i5, o0, o1, o2, o3, o4, o5, g0⟩ := hzk
        rw [g0] at e0
        obtain ⟨Hf, g1, g2, g3, g4, g5⟩ := zK_fin hc'.mem ⟨i4, i5, o0, o1, o2, o3, o4, o5, g0⟩ e0
        have hz := hc'.siz
        have bel := hc'.mem.bel
        have low := hc'.mem.low
        clear hc' o0 o1 o2 o3 o4 o5 g0 e0
        obtain ⟨u0, u1, u2, u3, u4, u5, u6, u7, u8, u9, u10, u11, u12, u13, u14, u15, u16, u17, u18, u19, u20, u21, u22, u23, u24, u25, u26, u27, u28, u29, u30, u31, u32, u33, u34, u35, u36, u37, u38, u39, u40, u41, u42, u43, u44, u45, u46, u47, u48, u49, u50, u51, u52, rfl⟩ := arr53 tm hz
        obtain rfl : u0 = .pointer (some ⟨b, 0, none⟩) := k0
        obtain rfl : u1 = .slice ba l.length cap := k1
        obtain rfl : u5 = .slice (some ⟨w.heap.size, 0, none⟩) (l.length + 5) (l.length + 5) := k5
        go_wp2
        have hws := y4.size
        have hne : ∀ x, (∃ i o v, bkO l.length (lsF l l.length) (fsF l l.length) (fsF l l.length) [.nl, .nl, .nl, .nl] i = some o ∧ ov i = some v ∧ blk v = some x) → Ek x := fun x ⟨i, o, v, h1, h2, h3⟩ => obE i o v x h1 h2 h3
        have belk : ∀ x, x < wr.heap.size → ¬ Ek x → w'.heap[x]? = wr.heap[x]? := fun x h1 h2 => bel.block x h1 (fun h => h2 (hne x h))
        have o1 : ∀ x, Hk x → H x ∨ E x ∨ w.heap.size ≤ x := fun x h => by
          rcases y2 x h with h | h | h
          · exact .inl h
          · exact .inr (.inl h)
          · exact .inr (.inr (by omega))
        have o2 : ∀ x, Ek x → H x ∨ E x ∨ w.heap.size ≤ x := fun x h => by
          rcases y3 x h with h | h
          · exact .inr (.inl h)
          · exact .inr (.inr (by omega))
        refine ⟨rfl, _, results_tmp rfl _ _ _, _, rfl, ⟨bel.os.trans y4.os, bel.tape.trans y4.tape, bel.output.trans y4.output, Nat.le_trans y4.size bel.size, fun x hx hxe => ?_⟩, fun x => Hf x ∨ Hk x ∨ x = w.heap.size, fun x h => .inr (.inl (y1 x h)), fun x h => ?_, fun x h => ?_, g4.mono (fun _ h => .inl h) (fun _ _ => rfl), ?_, g5.mono (fun _ h => .inl h) (fun _ _ => rfl)⟩
        · refine (belk x (by omega) (fun h => ?_)).trans (y4.block x hx hxe)
          rcases y3 x h with h | h
          · exact hxe h
          · omega
        · rcases h with h | h | h
          · exact g2 x h
          · exact Nat.lt_of_lt_of_le (hm.Hlt x h) bel.size
          · have := bel.size; omega
        · rcases h with h | h | h
          · rcases g3 x h with h5 | h5 | h5
            · rcases Nat.lt_or_ge x wr.heap.size with h6 | h6
              · rcases low x h5 h6 with h7 | h7
                · rcases h7 with h7 | h7
                  · exact o1 x h7
                  · exact .inr (.inr (by omega))
                · exact o2 x (hne x h7)
              · exact .inr (.inr (by omega))
            · exact .inr (.inr (by omega))
            · exact o2 x (hne x h5)
          · exact o1 x h
          · exact .inr (.inr (by omega))
        · exact row w' _ (l.length + 5) l.length l ((belk _ y5 hEq).trans y6) (fun x h => .inr (.inl h)) (.inr (.inr rfl)) (fun x h => belk x (hm.Hlt x h) (fun h7 => (hE2 x h7).1 h)) htk.symm (by omega) (by omega)
end Go.Proofs.Yteaiegppmbcibaa
