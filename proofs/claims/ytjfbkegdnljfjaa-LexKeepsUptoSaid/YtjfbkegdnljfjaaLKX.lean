/-
  LexKeeps: a part of the law's code outside the layer: append(s[k], ..).
-/
import Derived.Test.YtjfbkegdnljfjaaLKT
namespace Go.Proofs.Ytjfbkegdnljfjaa
open Go Go.RowKit Go.Shelf Go.Proofs Ab
set_option linter.unusedSimpArgs false
set_option linter.unusedVariables false
set_option maxHeartbeats 10000000
set_option maxHeartbeats 4000000
set_option maxRecDepth 2000000
def q1 : Code → Code
  | .seq a _ => a
  | c => c
def q2 : Code → Code
  | .seq _ b => b
  | c => c
def qb : Code → Code
  | .block _ c => c
  | c => c
def ql : Code → Code
  | .loop c => c
  | c => c
def qd : Nat → Code → Code
  | 0, c => c
  | n + 1, c => qd n (q2 c)
def lkC (f : Func) (n : Nat) : Code := q1 (qd n (f.body.getD .skip))
def lkR (f : Func) : Code := ql (qb (q2 (lkC f 16)))
def lkA (f : Func) : Code := q2 (q2 (qb (q1 (q2 (q2 (lkR f))))))
theorem eval_tmp (a : Act) (t : Nat) : a.eval (.tmp t) = a.tmps.getD t undef := rfl
theorem gset_ne {t : Array Value} {d k : Nat} {v u : Value} (h : d ≠ k) : (t.setIfInBounds d v).getD k u = t.getD k u := by
  simp only [Array.getD_eq_getD_getElem?]
  rw [Array.getElem?_setIfInBounds_ne h]
theorem gset_eq {t : Array Value} {d : Nat} {v u : Value} (h : d < t.size) : (t.setIfInBounds d v).getD d u = v := by
  simp only [Array.getD_eq_getD_getElem?]
  rw [Array.getElem?_setIfInBounds_self_of_lt h]; rfl
theorem sc_other (b : Nat) : ∀ (vs : List Value) (o : Nat) (w : World) (k : Nat), k ≠ b → (w.setCells b o vs).heap[k]? = w.heap[k]?
  | [], o, w, k, h => rfl
  | v :: vs, o, w, k, h => (sc_other b vs (o + 1) _ k h).trans (heap_setCell_other w ⟨b, o, none⟩ k v h)
theorem sc_misc (b : Nat) : ∀ (vs : List Value) (o : Nat) (w : World), (w.setCells b o vs).os = w.os ∧ (w.setCells b o vs).tape = w.tape ∧ (w.setCells b o vs).output = w.output ∧ (w.setCells b o vs).heap.size = w.heap.size
  | [], o, w => ⟨rfl, rfl, rfl, rfl⟩
  | v :: vs, o, w => by
    obtain ⟨h1, h2, h3, h4⟩ := sc_misc b vs (o + 1) (w.setCell ⟨b, o, none⟩ v)
    exact ⟨h1, h2, h3, h4.trans (by simp)⟩
theorem sc_same (b : Nat) (e : TypeId) : ∀ (vs : List Value) (o : Nat) (w : World) (cur : Array Value), w.heap[b]? = some (.cells cur e (0, 0)) → ∃ cur' : Array Value, (w.setCells b o vs).heap[b]? = some (.cells cur' e (0, 0)) ∧ cur'.size = cur.size ∧ ∀ m, m ≤ o → cur'.toList.take m = cur.toList.take m
  | [], o, w, cur, h => ⟨cur, h, rfl, fun _ _ => rfl⟩
  | v :: vs, o, w, cur, h => by
    obtain ⟨cur', h1, h2, h3⟩ := sc_same b e vs (o + 1) _ _ (heap_setCell_same w b o cur e v h)
    refine ⟨cur', h1, h2.trans (by simp), fun m hm => (h3 m (by omega)).trans ?_⟩
    rw [Array.toList_setIfInBounds, List.take_set_of_le (by omega)]
structure Wk (w w' : World) (v : Value) (n : Nat) (xs : List Value) : Prop where
  os : w'.os = w.os
  tape : w'.tape = w.tape
  output : w'.output = w.output
  size : w.heap.size ≤ w'.heap.size
  block : ∀ q, q < w.heap.size → v.ownBlock ≠ some q → w'.heap[q]? = w.heap[q]?
  own : w'.ownsRow 0 27 3 v n xs
theorem info_tok : (Try.prog.info? 27).map (fun i => (i.zero, i.size, i.bytes)) = some (some (.agg #[.int .i64 0, .string ⟨#[]⟩, .int .i64 0]), 3, 32) := by kernel_rfl
theorem wk_grow {w w1 w' : World} {v : Value} {n : Nat} {xs : List Value} (hb : Below w.heap.size w w1) (hg : w1.grownBy w' none) (ho : w.ownsRow 0 27 3 v n xs) : Wk w w' v n xs := by
  have hs := hb.size
  refine ⟨hg.os.trans hb.os, hg.tape.trans hb.tape, hg.output.trans hb.output, by have := hg.size; omega, fun q hq _ => (hg.block q (by omega) (by simp)).trans (hb.block q hq), ow_below ho fun q hq => ?_⟩
  have := (ho.lt q hq).2
  exact (hg.block q (by omega) (by simp)).trans (hb.block q this)
theorem wk_room {w w1 : World} {q n cap : Nat} {xs news : List Value} (hb : Below w.heap.size w w1) (ho : w.ownsRow 0 27 3 (.slice (some ⟨q, 0, none⟩) n cap) n xs) : Wk w (w1.setCells q (n * 3) news) (.slice (some ⟨q, 0, none⟩) n cap) n xs := by
  have hs := hb.size
  obtain ⟨m1, m2, m3, m4⟩ := sc_misc q news (n * 3) w1
  have hq : q < w.heap.size := (ho.lt q rfl).2
  have ho1 : w1.ownsRow 0 27 3 (.slice (some ⟨q, 0, none⟩) n cap) n xs := ow_below ho fun q' h => hb.block q' (ho.lt q' h).2
  refine ⟨m1.trans hb.os, m2.trans hb.tape, m3.trans hb.output, by omega, fun k hk hne => (sc_other q news _ w1 k (fun e => hne (by rw [e]; rfl))).trans (hb.block k hk), ho1.1, .inr ?_⟩
  rcases ho1.2 with ⟨h, _⟩ | ⟨g, cap', cur, h, h1, h2, h3, h4, h5, h6⟩
  · cases h
  · cases h
    obtain ⟨cur', c1, c2, c3⟩ := sc_same q 27 news (n * 3) w1 cur h2
    exact ⟨q, cap, cur', rfl, Nat.zero_le _, c1, h3, h4, c2.trans h5, (c3 _ (by omega)).trans h6⟩
theorem app_reg {a : Act} {w : World} {R : Exit → Act → World → Prop} {qs m cs k n : Nat} {v : Value} {xs : List Value} (hz : a.tmps.size = 232) (h15 : a.tmps.getD 15 undef = .slice (some ⟨qs, 0, none⟩) m cs) (h20 : a.tmps.getD 20 undef = .int .i64 (k : Int)) (hk : (k : Int) < (m : Int)) (hm : m ≤ 10000001) (hcell : w.cell? ⟨qs, k, none⟩ = some v) (ho : w.ownsRow 0 27 3 v n xs) (hn : n ≤ 10000001)
    (kk : ∀ (a' : Act) (w' : World), a'.tmps.size = 232 → (∀ t, t < 150 → a'.tmps.getD t undef = a.tmps.getD t undef) → a'.defers = a.defers → Wk w w' v n xs → R .normal a' w') : (lkA Try.f3).wp Try.prog R a w := by
  have hoA : Hid (w.ownsRow 0 27 3 v n xs) := ho
  have g15 : a.tmps[15]'(by omega) = .slice (some ⟨qs, 0, none⟩) m cs := by rw [← h15]; simp [hz]
  have g20 : a.tmps[20]'(by omega) = .int .i64 (k : Int) := by rw [← h20]; simp [hz]
  obtain ⟨i0, hi0, hi1, hi2, hi3⟩ := info_parts info_tok
  have hBw : ∀ o : Obj, Below w.heap.size w (w.alloc o) := fun o => (Below.refl _ _).alloc (Nat.le_refl _) _
  have kkA : Hid (∀ (a' : Act) (w' : World), a'.tmps.size = 232 → (∀ t, t < 150 → a'.tmps.getD t undef = a.tmps.getD t undef) → a'.defers = a.defers → Wk w w' v n xs → R .normal a' w') := kk
  clear kk
  rcases ho.2 with ⟨rfl, rfl⟩ | ⟨g, cap, cur, rfl, _, hh, hnc, hcm, hcs, htk⟩
  · refine wp_region_lit ?_
    go_wp2_with fail
    refine kkA.out _ _ (by simp [hz]) (fun t ht => ?_) rfl ⟨rfl, rfl, rfl, by simp; omega, fun q hq _ => ?_, ow_below hoA.out fun q hq => by cases hq⟩
    · dsimp only
      rw [gset_ne (by omega), gset_ne (by omega), gset_ne (by omega), gset_ne (by omega), gset_ne (by omega), gset_ne (by omega), gset_ne (by omega)]
    · exact ((((Below.refl w.heap.size w).alloc (Nat.le_refl _) _).alloc (by rw [World.size_alloc]; omega) _).drew).block q hq
  · have hmax : (n + 1) * 32 ≤ 140737488355328 := by omega
    refine wp_region_lit ?_
    clear hh hcs htk ho
    go_wp2_with (first | (at_builtin; refine wpList_append_arg _ rfl (.tmp 153) (.tmp 155) 24 rfl 27 i0 (.agg #[.int .i64 0, .string ⟨#[]⟩, .int .i64 0]) 3 32 Try.underlying24 hi0 hi1 hi2 hi3 rfl (by decide) g 0 n cap xs ?hs ?lo ?olds ⟨w.heap.size, 0, none⟩ 1 1 [.int .i64 (-9), .string ⟨#[]⟩, .int .i64 0] ?hx ?hn ?c3 ?c4 ?spare ?mx ?bys ?room ?grow))
    case hs => rw [eval_tmp]; dsimp only; rw [gset_ne (by decide), gset_ne (by decide), gset_eq (by simp [hz])]
    case lo => exact hoA.out.1
    case olds =>
      intro j u hj
      have hl := hoA.out.1
      have hjl := (List.getElem?_eq_some_iff.1 hj).1
      rw [Nat.zero_add, (hoA.out.alloc _).cellAt j (by omega)]; exact hj
    case hx => rw [eval_tmp]; dsimp only; rw [gset_eq (by simp [hz])]
    case hn => rfl
    case c3 =>
      intro j u hj
      rw [Addr.add_lit, Nat.zero_add, cell_of_row _ _ j _ _ _ (heap_alloc_new w _)]
      simpa using hj
    case c4 =>
      intro u hu
      simp only [List.mem_cons, List.not_mem_nil, or_false] at hu
      rcases hu with rfl | rfl | rfl <;> rfl
    case spare =>
      intro h j hj
      have hj3 : j < 3 := hj
      rcases (hoA.out.alloc (.cells #[.int .i64 (-9), .string ⟨#[]⟩, .int .i64 0] 27)).2 with ⟨h0, _⟩ | ⟨g', cap', cur', h0, h1, h2, h3, h4, h5, h6⟩
      · cases h0
      · cases h0
        refine ⟨?_, frozen_of_row _ _ _ _ _ h2⟩
        rw [cell_of_row _ _ _ _ _ _ h2, Array.getElem?_eq_getElem (by rw [h5]; omega)]; rfl
    case mx => unfold maxLen; omega
    case bys => exact hmax
    case room =>
      intro h
      refine wpList_nil (kkA.out _ _ (by simp [Act.put, hz]) (fun t ht => ?_) rfl (wk_room (hBw _) hoA.out))
      dsimp only [Act.put]
      rw [gset_ne (by omega), gset_ne (by omega), gset_ne (by omega), gset_ne (by omega), gset_ne (by omega), gset_ne (by omega), gset_ne (by omega)]
    case grow =>
      intro h v' w' ho' hg
      refine wpList_nil (kkA.out _ _ (by simp [Act.put, hz]) (fun t ht => ?_) rfl (wk_grow (hBw _) hg hoA.out))
      dsimp only [Act.put]
      rw [gset_ne (by omega), gset_ne (by omega), gset_ne (by omega), gset_ne (by omega), gset_ne (by omega), gset_ne (by omega), gset_ne (by omega)]
end Go.Proofs.Ytjfbkegdnljfjaa
