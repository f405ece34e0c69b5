/-
  lex.Join: tokens one behind the other.
-/
import Derived.Test.YtjfbkegdnljfjaaLS
import Derived.Handy
namespace Go.Proofs.Ytjfbkegdnljfjaa
open Go Go.RowKit Go.Shelf Go.Proofs Ab
set_option linter.unusedSimpArgs false
set_option linter.unusedVariables false
set_option maxHeartbeats 10000000
set_option maxHeartbeats 4000000
set_option maxRecDepth 2000000
def jn (ts : List Tk) : Nat → List UInt8
  | 0 => []
  | k + 1 => jn ts k ++ (if 0 < k ∧ gapV (ts.getD (k - 1) default) (ts.getD k default) = true then [32] else []) ++ (ts.getD k default).t
def jnR (ts : List Tk) : List UInt8 × Int := if ts.all okT then (if 1000 < (jn ts ts.length).length then ([], 11) else (jn ts ts.length, 0)) else ([], 5)
theorem tok_ip {w : World} {H : Nat → Prop} {b : Nat} {x : Tk} (hH : H b) (hh : w.heap[b]? = some (.cells #[.int .i64 x.k, .string ⟨x.t.toArray⟩, .int .i64 x.a] 27 (0, 0))) : Rep0 w H (.pointer (some ⟨b, 0, none⟩)) (.ip (Tv x) 0) := by
  refine .ip (Tv x) 0 (fun j => match j with | 0 => .int .i64 x.k | 1 => .string ⟨x.t.toArray⟩ | _ => .int .i64 x.a) b 0 hH (fun j hj => ?_) (fun j y hy => ?_)
  · rw [Nat.zero_add, Lib.cell_of_heap hh]
    match j, hj with
    | 0, _ => rfl
    | 1, _ => rfl
    | 2, _ => rfl
  · match j, hy with
    | 0, hy => cases hy; exact .i _ _
    | 1, hy => cases hy; exact .s _
    | 2, hy => cases hy; exact .i _ _
theorem res_si {w w' : World} {H : Nat → Prop} (l : List UInt8) (n : Int) : Res w w' H (.tuple #[.string ⟨l.toArray⟩, .int .i64 n]) (.t [.s l, .i .i64 n]) := by
  refine ⟨fun _ => False, fun b h => h.elim, .inl (.t [.string ⟨l.toArray⟩, .int .i64 n] [.s l, .i .i64 n] rfl fun j v y h1 h2 => ?_)⟩
  match j, h1, h2 with
  | 0, h1, h2 => cases h1; cases h2; exact .s _
  | 1, h1, h2 => cases h1; cases h2; exact .i _ _
def tot (ts : List Tk) : Nat := (ts.map fun x => x.t.length).sum
theorem tot_get : ∀ (ts : List Tk) (i : Nat) (h : i < ts.length), (ts.getD i default).t.length ≤ tot ts
  | [], i, h => by simp at h
  | x :: r, 0, h => by unfold tot; rw [List.map_cons, List.sum_cons]; exact Nat.le_add_right _ _
  | x :: r, i + 1, h => by
    have := tot_get r i (by simpa using h)
    unfold tot at *
    rw [List.map_cons, List.sum_cons]
    exact Nat.le_trans this (Nat.le_add_left _ _)
theorem tot_take (ts : List Tk) (k : Nat) (h : k < ts.length) : tot (ts.take (k + 1)) = tot (ts.take k) + (ts.getD k default).t.length := by
  unfold tot
  rw [List.take_add_one, List.getElem?_eq_getElem h, List.getD_eq_getElem?_getD, List.getElem?_eq_getElem h, List.map_append, List.sum_append]
  simp
theorem tot_le (ts : List Tk) (k : Nat) : tot (ts.take k) ≤ tot ts := by
  conv => rhs; rw [← List.take_append_drop k ts]
  unfold tot
  rw [List.map_append, List.sum_append]
  exact Nat.le_add_right _ _
theorem jn_len (ts : List Tk) : ∀ k, k ≤ ts.length → (jn ts k).length ≤ k + tot (ts.take k)
  | 0, _ => Nat.zero_le _
  | k + 1, h => by
    have ih := jn_len ts k (by omega)
    rw [tot_take ts k h, jn, List.length_append, List.length_append]
    have : (if 0 < k ∧ gapV (ts.getD (k - 1) default) (ts.getD k default) = true then [(32 : UInt8)] else []).length ≤ 1 := by split <;> simp
    omega
theorem str_bytes (l : List UInt8) : Lib.strCells ⟨l.toArray⟩ = Lib.byteCells l := by simp [Lib.strCells, Lib.byteCells]
theorem okT_all {ts : List Tk} (h : ∀ j, j < ts.length → okT (ts.getD j default) = true) : ts.all okT = true := by
  rw [List.all_eq_true]
  intro x hx
  obtain ⟨i, hi, rfl⟩ := List.mem_iff_getElem.1 hx
  have := h i hi
  rw [List.getD_eq_getElem?_getD, List.getElem?_eq_getElem hi] at this
  exact this
theorem okT_not {ts : List Tk} {k : Nat} (hk : k < ts.length) (h : okT (ts.getD k default) = false) : ts.all okT = false := by
  rw [List.all_eq_false]
  refine ⟨_, List.getElem_mem hk, ?_⟩
  rw [List.getD_eq_getElem?_getD, List.getElem?_eq_getElem hk] at h
  simpa using h
theorem join_raw (ts : List Tk) (hl : ts.length ≤ 2000000) (hb : tot ts ≤ 1000000000) : AFun Try.prog J0 10 [.l 3 (T ts)] (.t [.s (jnR ts).1, .i .i64 (jnR ts).2]) := by
  refine .of0 rfl fun w H vs hJ hT hH hr => ?_
  obtain ⟨h0, h1⟩ := hr
  obtain ⟨v0, rfl⟩ : ∃ v0, vs = [v0] := by
    match vs, h0 with
    | [v], _ => exact ⟨v, rfl⟩
  have h2 := h1 0 v0 _ rfl rfl
  obtain ⟨ba, n, cap, f, b, o, rfl, hsz, hn, hml, hcp, ha, hc, hr⟩ := (Rep.up (ov := fun _ => none) h2).inv_l
  rw [T_len] at hn
  obtain rfl : n = ts.length := by omega
  go_enter Try.func10, Try.ntmps10
  go_wp2
  go_loopw [9] (fun i wr => ∃ k : Nat, k ≤ ts.length ∧ i = .int .i64 k ∧ Lib.IsBuilderF 61 5 w.heap.size w.heap.size (Lib.byteCells (jn ts k)) wr ∧ Below w.heap.size w wr ∧ (∀ j, j < k → okT (ts.getD j default) = true)) (fun i _ => ts.length - (intOf i).toNat)
  case atStart =>
    exact ⟨0, Nat.zero_le _, rfl, Lib.IsBuilderF.of (Lib.fresh_isBuilder 61 5 w), (Below.refl _ w).alloc (Nat.le_refl _) _, fun j hj => by omega⟩
  case round =>
    obtain ⟨k, hk, rfl, hI, hbw, hok⟩ := hrel
    by_cases hlt : k < ts.length
    · obtain ⟨t0, t1, t2⟩ := T_cell3 ts k hlt
      obtain ⟨rfl, hHb⟩ : ba = some ⟨b, o, none⟩ ∧ H b := by
        rcases ha with h | h
        · have := T_len ts; rw [h] at this; simp at this; omega
        · exact h
      have hbb := hH b hHb
      have e0 : f (k * 3) = .int .i64 (ts.getD k default).k := by
        have h := hr _ _ t0
        generalize f (k * 3) = u at h
        cases h; rfl
      have e1 : f (k * 3 + 1) = .string ⟨(ts.getD k default).t.toArray⟩ := by
        have h := hr _ _ t1
        generalize f (k * 3 + 1) = u at h
        cases h; rfl
      have e2 : f (k * 3 + 2) = .int .i64 (ts.getD k default).a := by
        have h := hr _ _ t2
        generalize f (k * 3 + 2) = u at h
        cases h; rfl
      have d0 : wr.cell? ⟨b, o + k * 3, none⟩ = some (.int .i64 (ts.getD k default).k) := by
        rw [← e0]; exact (hbw.cell (p := ⟨b, o + k * 3, none⟩) hbb).trans (hc _ (by rw [T_len]; omega))
      have d1 : wr.cell? ⟨b, o + k * 3 + 1, none⟩ = some (.string ⟨(ts.getD k default).t.toArray⟩) := by
        rw [← e1]; exact (hbw.cell (p := ⟨b, o + k * 3 + 1, none⟩) hbb).trans (hc (k * 3 + 1) (by rw [T_len]; omega))
      have d2 : wr.cell? ⟨b, o + k * 3 + 2, none⟩ = some (.int .i64 (ts.getD k default).a) := by
        rw [← e2]; exact (hbw.cell (p := ⟨b, o + k * 3 + 2, none⟩) hbb).trans (hc (k * 3 + 2) (by rw [T_len]; omega))
      generalize hx : ts.getD k default = x at *
      clear e0 e1 e2 t0 t1 t2 hr hc
      go_wp2
      have hsz1 : w.heap.size ≤ wr.heap.size := hbw.size
      have hBx : w.heap.size < wr.heap.size := hI.elim (fun h => h.lt) (fun h => h.lt)
      have ex : ∀ c : Obj, Below wr.heap.size wr (wr.alloc c) := fun c => (Below.refl _ wr).alloc (Nat.le_refl _) _
      have hw1 : (wr.alloc (Obj.cells #[.int .i64 x.k, .string ⟨x.t.toArray⟩, .int .i64 x.a] 27)).heap[wr.heap.size]? = some (.cells #[.int .i64 x.k, .string ⟨x.t.toArray⟩, .int .i64 x.a] 27 (0, 0)) := heap_alloc_new wr _
      have hbw1 : Below w.heap.size w (wr.alloc (Obj.cells #[.int .i64 x.k, .string ⟨x.t.toArray⟩, .int .i64 x.a] 27)) := hbw.alloc hsz1 _
      have hI1 := hI.alloc (Obj.cells #[.int .i64 x.k, .string ⟨x.t.toArray⟩, .int .i64 x.a] 27)
      have hs1 : (wr.alloc (Obj.cells #[.int .i64 x.k, .string ⟨x.t.toArray⟩, .int .i64 x.a] 27)).heap.size = wr.heap.size + 1 := by simp
      generalize hW : wr.alloc (Obj.cells #[.int .i64 x.k, .string ⟨x.t.toArray⟩, .int .i64 x.a] 27) = W at *
      clear hI ex hW
      refine out_sound (H := fun q => H q ∨ q = wr.heap.size) (ks := [(0, .slice (some ⟨b, o, none⟩) ts.length cap), (4, .pointer (some ⟨w.heap.size, 0, none⟩)), (5, .int .i64 k), (6, .pointer (some ⟨wr.heap.size, 0, none⟩)), (7, .slice (some ⟨b, o, none⟩) ts.length cap), (8, .int .i64 ts.length), (9, .int .i64 k), (1, undef), (42, undef), (43, undef), (44, undef)]) fol (ac := aJ5) (N := 45) (by kernel_rfl) (by kernel_rfl) ?p1 ?p2 ?p3 rfl rfl ?p4 rfl (j5 x (by have := tot_get ts k hlt; rw [hx] at this; omega)) ?p5
      case p1 =>
        intro m v hm
        simp only [List.mem_cons, Prod.mk.injEq, List.not_mem_nil, or_false] at hm
        rcases hm with ⟨rfl, rfl⟩ | ⟨rfl, rfl⟩ | ⟨rfl, rfl⟩ | ⟨rfl, rfl⟩ | ⟨rfl, rfl⟩ | ⟨rfl, rfl⟩ | ⟨rfl, rfl⟩ | ⟨rfl, rfl⟩ | ⟨rfl, rfl⟩ | ⟨rfl, rfl⟩ | ⟨rfl, rfl⟩ <;> rfl
      case p2 =>
        intro q hq
        rcases hq with hq | hq
        · have := hH q hq; omega
        · omega
      case p3 => exact hT.mono (fun _ h => .inl h) (fun q hq => hbw1.block q (hH q hq))
      case p4 =>
        intro q
        show Rep W _ _ _ (lk [(6, .ip (Tv x) 0)] q)
        unfold lk
        split
        · rename_i e; subst e
          exact .base (tok_ip (.inr rfl) hw1)
        · exact .any _
      case p5 =>
        intro a' w' H2 ov2 s2 h24 hcc
        have g24 : a'.tmps.getD 24 undef = .bool (!okT x) := by
          have h := hcc.env 24
          rw [h24] at h; exact h.inv_b
        have hb5 : Below W.heap.size W w' := hcc.mem.bel.below (fun _ h => h)
        obtain ⟨tm, df⟩ := a'
        have hd : df = [] := hcc.dfr
        subst hd
        have hk0 := fun m v hm => hcc.kp m v hm
        have hz := hcc.siz
        clear hcc
        obtain ⟨v0, v1, v2, v3, v4, v5, v6, v7, v8, v9, v10, v11, v12, v13, v14, v15, v16, v17, v18, v19, v20, v21, v22, v23, v24, v25, v26, v27, v28, v29, v30, v31, v32, v33, v34, v35, v36, v37, v38, v39, v40, v41, v42, v43, v44, rfl⟩ := arrN tm hz
        obtain rfl : v24 = _ := g24
        obtain rfl : v0 = .slice (some ⟨b, o, none⟩) ts.length cap := hk0 0 _ (by simp)
        obtain rfl : v4 = .pointer (some ⟨w.heap.size, 0, none⟩) := hk0 4 _ (by simp)
        obtain rfl : v5 = .int .i64 k := hk0 5 _ (by simp)
        obtain rfl : v6 = .pointer (some ⟨wr.heap.size, 0, none⟩) := hk0 6 _ (by simp)
        obtain rfl : v7 = .slice (some ⟨b, o, none⟩) ts.length cap := hk0 7 _ (by simp)
        obtain rfl : v8 = .int .i64 ts.length := hk0 8 _ (by simp)
        obtain rfl : v9 = .int .i64 k := hk0 9 _ (by simp)
        obtain rfl : v44 = undef := hk0 44 _ (by simp)
        obtain rfl : v43 = undef := hk0 43 _ (by simp)
        obtain rfl : v42 = undef := hk0 42 _ (by simp)
        obtain rfl : v1 = undef := hk0 1 _ (by simp)
        clear hk0 hz
        have hs5 := hb5.size
        have hw5 := (hb5.block wr.heap.size (by omega)).trans hw1
        have hbw5 : Below w.heap.size w w' := hbw1.trans ⟨hb5.os, hb5.tape, hb5.output, hb5.size, fun q hq => hb5.block q (by omega)⟩
        have hI5 := bld_below hI1 hb5
        cases hox : okT x with
        | false =>
          go_wp2
          go_ret2
          have e : jnR ts = ([], 5) := by
            unfold jnR; rw [okT_not hlt (by rw [hx]; exact hox)]; rfl
          rw [e]
          exact ⟨_, rfl, hbw5, res_si [] 5⟩
        | true =>
          go_wp2
          refine out_sound (H := fun q => H q ∨ q = wr.heap.size) (ks := [(0, .slice (some ⟨b, o, none⟩) ts.length cap), (4, .pointer (some ⟨w.heap.size, 0, none⟩)), (6, .pointer (some ⟨wr.heap.size, 0, none⟩)), (7, .slice (some ⟨b, o, none⟩) ts.length cap), (8, .int .i64 ts.length), (9, .int .i64 k), (1, undef), (42, undef), (43, undef), (44, undef)]) fol (ac := aJ6) (N := 45) (by kernel_rfl) (by kernel_rfl) ?r1 ?r2 ?r3 rfl rfl ?r4 rfl (j6 ts k hlt hl x) ?r5
          case r1 =>
            intro m v hm
            simp only [List.mem_cons, Prod.mk.injEq, List.not_mem_nil, or_false] at hm
            rcases hm with ⟨rfl, rfl⟩ | ⟨rfl, rfl⟩ | ⟨rfl, rfl⟩ | ⟨rfl, rfl⟩ | ⟨rfl, rfl⟩ | ⟨rfl, rfl⟩ | ⟨rfl, rfl⟩ | ⟨rfl, rfl⟩ | ⟨rfl, rfl⟩ | ⟨rfl, rfl⟩ <;> rfl
          case r2 =>
            intro q hq
            rcases hq with hq | hq
            · have := hH q hq; omega
            · omega
          case r3 => exact hT.mono (fun _ h => .inl h) (fun q hq => hbw5.block q (hH q hq))
          case r4 =>
            intro q
            show Rep w' _ _ _ (lk [(0, .l 3 (T ts)), (5, .i .i64 (k : Int)), (6, .ip (Tv x) 0)] q)
            unfold lk
            split
            · rename_i e; subst e
              exact .base (h2.mono (fun _ h => .inl h) (fun q hq => hbw5.block q (hH q hq)))
            · unfold lk
              split
              · rename_i e; subst e
                exact .i _ _
              · unfold lk
                split
                · rename_i e; subst e
                  exact .base (tok_ip (.inr rfl) hw5)
                · exact .any _
          case r5 =>
            intro a6 w6 H6 ov6 s6 h36 hcc
            have g36 : a6.tmps.getD 36 undef = .bool (decide (0 < k) && gapV (ts.getD (k - 1) default) x) := by
              have h := hcc.env 36
              rw [h36] at h; exact h.inv_b
            have hb6 : Below w'.heap.size w' w6 := hcc.mem.bel.below (fun _ h => h)
            obtain ⟨tm, df⟩ := a6
            have hd : df = [] := hcc.dfr
            subst hd
            have hk0 := fun m v hm => hcc.kp m v hm
            have hz := hcc.siz
            clear hcc
            obtain ⟨y0, y1, y2, y3, y4, y5, y6, y7, y8, y9, y10, y11, y12, y13, y14, y15, y16, y17, y18, y19, y20, y21, y22, y23, y24, y25, y26, y27, y28, y29, y30, y31, y32, y33, y34, y35, y36, y37, y38, y39, y40, y41, y42, y43, y44, rfl⟩ := arrN tm hz
            obtain rfl : y36 = _ := g36
            obtain rfl : y0 = .slice (some ⟨b, o, none⟩) ts.length cap := hk0 0 _ (by simp)
            obtain rfl : y4 = .pointer (some ⟨w.heap.size, 0, none⟩) := hk0 4 _ (by simp)
            obtain rfl : y6 = .pointer (some ⟨wr.heap.size, 0, none⟩) := hk0 6 _ (by simp)
            obtain rfl : y7 = .slice (some ⟨b, o, none⟩) ts.length cap := hk0 7 _ (by simp)
            obtain rfl : y8 = .int .i64 ts.length := hk0 8 _ (by simp)
            obtain rfl : y9 = .int .i64 k := hk0 9 _ (by simp)
            obtain rfl : y44 = undef := hk0 44 _ (by simp)
            obtain rfl : y43 = undef := hk0 43 _ (by simp)
            obtain rfl : y42 = undef := hk0 42 _ (by simp)
            obtain rfl : y1 = undef := hk0 1 _ (by simp)
            clear hk0 hz
            have hs6 := hb6.size
            have hw6 := (hb6.block wr.heap.size (by omega)).trans hw5
            have hbw6 : Below w.heap.size w w6 := hbw5.trans ⟨hb6.os, hb6.tape, hb6.output, hb6.size, fun q hq => hb6.block q (by omega)⟩
            have hI6 := bld_below hI5 hb6
            have hjl := jn_len ts k hk
            have htl := tot_le ts k
            have hxl : x.t.length ≤ 1000000000 := by have := tot_get ts k hlt; rw [hx] at this; omega
            have hxs : (⟨x.t.toArray⟩ : ByteArray).size = x.t.length := by simp [ByteArray.size]
            cases hgg : (decide (0 < k) && gapV (ts.getD (k - 1) default) x) with
            | true =>
              go_wp2_with (go_at_call 28; refine (bwb_k w.heap.size w.heap.size _ 32 _ hI6 (by rw [Lib.byteCells_length]; omega) (by omega)).mono ?_)
              rintro e W3 ⟨rfl, h3, b3, k3⟩
              have hw3 := k3 wr.heap.size _ hw6 (by simp; omega) (by intro c fz h; cases h)
              have hc3 : W3.cell? ⟨wr.heap.size, 1, none⟩ = some (.string ⟨x.t.toArray⟩) := by rw [Lib.cell_of_heap hw3]; rfl
              have hs3 : w.heap.size ≤ W3.heap.size := Nat.le_of_lt (Array.getElem?_eq_some_iff.1 hw3).1 |> fun h => by omega
              have hif : 0 < k ∧ gapV (ts.getD (k - 1) default) x = true := by simpa using hgg
              go_wp2_with (go_at_call 29; refine (bws_k w.heap.size w.heap.size _ ⟨x.t.toArray⟩ _ (.inr h3) (by rw [List.length_append, Lib.byteCells_length, hxs]; simp; omega) (by exact hs3)).mono ?_)
              rintro e W4 ⟨rfl, h4, b4, k4⟩
              go_wp2
              go_roundw
              case rel =>
                refine ⟨k + 1, hlt, by go_num, .inr ?_, (hbw6.trans b3).trans b4, fun j hj => ?_⟩
                · rw [str_bytes] at h4
                  rw [jn, hx, if_pos hif, Lib.byteCells_append, Lib.byteCells_append]
                  exact h4
                · rcases Nat.lt_or_ge j k with h9 | h9
                  · exact hok j h9
                  · rw [show j = k from by omega, hx]; exact hox
              case measure =>
                simp [intOf]; omega
            | false =>
              have hc3 : w6.cell? ⟨wr.heap.size, 1, none⟩ = some (.string ⟨x.t.toArray⟩) := by rw [Lib.cell_of_heap hw6]; rfl
              have hif : ¬ (0 < k ∧ gapV (ts.getD (k - 1) default) x = true) := by simpa using hgg
              go_wp2_with (go_at_call 29; refine (bws_k w.heap.size w.heap.size _ ⟨x.t.toArray⟩ _ hI6 (by rw [Lib.byteCells_length, hxs]; omega) (by omega)).mono ?_)
              rintro e W4 ⟨rfl, h4, b4, k4⟩
              go_wp2
              go_roundw
              case rel =>
                refine ⟨k + 1, hlt, by go_num, .inr ?_, hbw6.trans b4, fun j hj => ?_⟩
                · rw [str_bytes] at h4
                  rw [jn, hx, if_neg hif, List.append_nil, Lib.byteCells_append]
                  exact h4
                · rcases Nat.lt_or_ge j k with h9 | h9
                  · exact hok j h9
                  · rw [show j = k from by omega, hx]; exact hox
              case measure =>
                simp [intOf]; omega
    · obtain rfl : k = ts.length := by omega
      have hjl := jn_len ts ts.length (Nat.le_refl _)
      have htl := tot_le ts ts.length
      have hall := okT_all hok
      have hn9 : ¬ (ts.length : Int) < (ts.length : Int) := by omega
      have hsz1 : w.heap.size ≤ wr.heap.size := hbw.size
      have hbl : (Lib.byteCells (jn ts ts.length)).length = (jn ts ts.length).length := Lib.byteCells_length _
      by_cases hlen : 1000 < (jn ts ts.length).length
      · have h9 : (1000 : Int) < ((Lib.byteCells (jn ts ts.length)).length : Int) := by omega
        go_wp2_with (go_at_call 30; refine (blen_k w.heap.size w.heap.size _ _ hI).mono ?_; rintro e W5 ⟨rfl, rfl⟩)
        go_ret2
        have e : jnR ts = ([], 11) := by unfold jnR; rw [hall, if_pos rfl, if_pos hlen]
        rw [e]
        exact ⟨_, rfl, hbw, res_si [] 11⟩
      · have h9 : ¬ (1000 : Int) < ((Lib.byteCells (jn ts ts.length)).length : Int) := by omega
        go_wp2_with (first | (go_at_call 30; refine (blen_k w.heap.size w.heap.size _ _ hI).mono ?_; rintro e W5 ⟨rfl, rfl⟩) | (go_at_call 31; refine (bstr_k w.heap.size w.heap.size _ _ hI (by omega)).mono ?_; rintro e W6 ⟨rfl, _, b6, _⟩))
        go_ret2
        have e : jnR ts = (jn ts ts.length, 0) := by unfold jnR; rw [hall, if_pos rfl, if_neg hlen]
        rw [e]
        exact ⟨_, rfl, hbw.trans b6, res_si _ 0⟩
end Go.Proofs.Ytjfbkegdnljfjaa
