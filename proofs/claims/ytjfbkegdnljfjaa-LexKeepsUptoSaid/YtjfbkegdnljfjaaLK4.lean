/-
  LexKeeps: the pieces are marked, outside the layer.
-/
import Derived.Test.YtjfbkegdnljfjaaLK5
namespace Go.Proofs.Ytjfbkegdnljfjaa
open Go Go.RowKit Go.Shelf Go.Proofs Ab
set_option linter.unusedSimpArgs false
set_option linter.unusedVariables false
set_option maxHeartbeats 10000000
set_option maxHeartbeats 4000000
set_option maxRecDepth 2000000
def lkB (f : Func) : Code := qb (q1 (q2 (q2 (lkR f))))
def lkX (f : Func) : Code := q1 (q2 (lkB f))
def lkI (f : Func) : Code := ql (qb (q2 (lkX f)))
theorem gI {t : Array Value} {k : Nat} {v : Value} (hz : t.size = 232) (h : t.getD k undef = v) (hk : k < 232) : t[k]'(by omega) = v := by rw [← h]; simp [hz, hk]
theorem in_round {a : Act} {w : World} {R : Exit → Act → World → Prop} {qs m cs k q n cap i : Nat} (hz : a.tmps.size = 232) (h15 : a.tmps.getD 15 undef = .slice (some ⟨qs, 0, none⟩) m cs) (h20 : a.tmps.getD 20 undef = .int .i64 (k : Int)) (h136 : a.tmps.getD 136 undef = .int .i64 (n : Int)) (h137 : a.tmps.getD 137 undef = .int .i64 (i : Int))
    (hk : (k : Int) < (m : Int)) (hm : m ≤ 10000001) (hcell : w.cell? ⟨qs, k, none⟩ = some (.slice (some ⟨q, 0, none⟩) n cap)) (hi : (i : Int) < (n : Int)) (hn : n ≤ 10000001)
    (c0 : (w.cell? ⟨q, i * 3, none⟩).isSome = true) (c1 : (w.cell? ⟨q, i * 3 + 1, none⟩).isSome = true) (c2 : (w.cell? ⟨q, i * 3 + 2, none⟩).isSome = true) (f0 : w.frozen? ⟨q, i * 3, none⟩ = false) (f1 : w.frozen? ⟨q, i * 3 + 1, none⟩ = false) (f2 : w.frozen? ⟨q, i * 3 + 2, none⟩ = false)
    (kk : ∀ a' : Act, a'.tmps.size = 232 → (∀ t, t < 132 → t ≠ 21 → a'.tmps.getD t undef = a.tmps.getD t undef) → a'.tmps.getD 136 undef = .int .i64 (n : Int) → a'.tmps.getD 137 undef = .int .i64 ((i : Int) + 1) → a'.defers = a.defers → R .normal a' (((w.setCell ⟨q, i * 3, none⟩ (.int .i64 (-4 - (k : Int)))).setCell ⟨q, i * 3 + 1, none⟩ (.string ⟨#[]⟩)).setCell ⟨q, i * 3 + 2, none⟩ (.int .i64 0))) :
    (lkI Try.f3).wp Try.prog R a w := by
  have g15 := gI hz h15 (by decide)
  have g20 := gI hz h20 (by decide)
  have g136 := gI hz h136 (by decide)
  have g137 := gI hz h137 (by decide)
  obtain ⟨x0, e0⟩ := Option.isSome_iff_exists.1 c0
  obtain ⟨x1, e1⟩ := Option.isSome_iff_exists.1 c1
  obtain ⟨x2, e2⟩ := Option.isSome_iff_exists.1 c2
  have kkA := PLift.up kk
  clear c0 c1 c2 kk
  refine wp_seq (wp_region_lit ?_)
  go_wp2
  refine wp_cond_true (by rw [eval_tmp]; dsimp only; rw [gset_eq (by simp [hz])]) ?_
  go_wp2
  refine kkA.down _ (by simp [hz]) (fun t ht h21 => ?_) ?_ ?_ rfl
  · dsimp only
    rw [gset_ne (by omega), gset_ne (by omega), gset_ne (by omega), gset_ne (by omega), gset_ne (by omega), gset_ne (by omega), gset_ne (by omega), gset_ne (by omega), gset_ne (by omega), gset_ne (by omega), gset_ne (by omega), gset_ne (by omega), gset_ne (by omega), gset_ne (by omega)]
  · dsimp only
    rw [gset_ne (by omega), gset_ne (by omega), gset_ne (by omega), gset_ne (by omega), gset_ne (by omega), gset_ne (by omega), gset_ne (by omega), gset_ne (by omega), gset_ne (by omega), gset_ne (by omega), gset_ne (by omega), gset_ne (by omega), gset_ne (by omega), gset_ne (by omega)]
    exact h136
  · dsimp only
    rw [gset_eq (by simp [hz])]
theorem in_exit {a : Act} {w : World} {R : Exit → Act → World → Prop} {n i : Nat} (hz : a.tmps.size = 232) (h136 : a.tmps.getD 136 undef = .int .i64 (n : Int)) (h137 : a.tmps.getD 137 undef = .int .i64 (i : Int)) (hi : ¬ (i : Int) < (n : Int))
    (kk : ∀ a' : Act, a'.tmps.size = 232 → (∀ t, t < 132 → t ≠ 21 → a'.tmps.getD t undef = a.tmps.getD t undef) → a'.defers = a.defers → R (.exit 4) a' w) :
    (lkI Try.f3).wp Try.prog R a w := by
  have g136 := gI hz h136 (by decide)
  have g137 := gI hz h137 (by decide)
  have kkA := PLift.up kk
  clear kk
  refine wp_seq (wp_region_lit ?_)
  go_wp2
  refine wp_cond_false (by rw [eval_tmp]; dsimp only; rw [gset_eq (by simp [hz])]) ?_
  go_wp2
  refine kkA.down _ (by simp [hz]) (fun t ht h21 => ?_) rfl
  dsimp only
  rw [gset_ne (by omega)]
theorem repAll_set3 {w : World} {H : Nat → Prop} {xs : List Value} {cs : List V} (h : RepAll w H xs cs) (i : Nat) {v : Value} {x : V} (hv : Rep0 w H v x) : RepAll w H (xs.set i v) (cs.set i x) := by
  refine ⟨by simpa using h.1, fun j u y h1 h2 => ?_⟩
  rw [List.getElem?_set] at h1 h2
  by_cases e : i = j
  · rw [if_pos e] at h1 h2
    split at h1
    · split at h2
      · cases h1; cases h2; exact hv
      · cases h2
    · cases h1
  · rw [if_neg e] at h1 h2; exact h.2 j u y h1 h2
structure Mk (w w' : World) (v : Value) (l : List Tk) : Prop where
  os : w'.os = w.os
  tape : w'.tape = w.tape
  output : w'.output = w.output
  size : w'.heap.size = w.heap.size
  block : ∀ q, v.ownBlock ≠ some q → w'.heap[q]? = w.heap[q]?
  own : ∃ xs, w'.ownsRow 0 27 3 v l.length xs ∧ RepAll w' (fun _ => False) xs (T l)
theorem Mk.one {w0 w : World} {q n cap i : Nat} {l : List Tk} (h : Mk w0 w (.slice (some ⟨q, 0, none⟩) n cap) l) (hn : l.length = n) (hi : i < n) (k : Int) :
    Mk w0 (((w.setCell ⟨q, i * 3, none⟩ (.int .i64 k)).setCell ⟨q, i * 3 + 1, none⟩ (.string ⟨#[]⟩)).setCell ⟨q, i * 3 + 2, none⟩ (.int .i64 0)) (.slice (some ⟨q, 0, none⟩) n cap) (l.set i ⟨k, [], 0⟩) := by
  obtain ⟨xs, ho, hr⟩ := h.own
  rw [hn] at ho
  have s1 := ho.stored (i * 3) (.int .i64 k)
  have s2 := s1.1.stored (i * 3 + 1) (.string ⟨#[]⟩)
  have s3 := s2.1.stored (i * 3 + 2) (.int .i64 0)
  refine ⟨h.os, h.tape, h.output, by simp [World.setCell]; exact h.size, fun q' hq => ?_, _, by rw [List.length_set, hn]; exact s3.1, ?_⟩
  · have hne : q' ≠ q := fun e => hq (by rw [e]; rfl)
    exact (heap_setCell_other _ _ _ _ hne).trans ((heap_setCell_other _ _ _ _ hne).trans ((heap_setCell_other _ _ _ _ hne).trans (h.block q' hq)))
  · have hr3 := repAll_set3 (repAll_set3 (repAll_set3 hr (i * 3) (.i .i64 k)) (i * 3 + 1) (.s [])) (i * 3 + 2) (.i .i64 0)
    rw [show ((((T l).set (i * 3) (V.i .i64 k)).set (i * 3 + 1) (.s [])).set (i * 3 + 2) (.i .i64 0)) = T (l.set i ⟨k, [], 0⟩) from T_set l i k [] 0] at hr3
    exact T_rep hr3
theorem mkd_step (k : Nat) (p : List Tk) (i : Nat) (h : i < p.length) : (mkd k i ++ p.drop i).set i ⟨-4 - (k : Int), [], 0⟩ = mkd k (i + 1) ++ p.drop (i + 1) := by
  have hl : (mkd k i).length = i := by simp [mkd]
  rw [List.set_append, if_neg (by omega), hl, Nat.sub_self, List.drop_eq_getElem_cons h, List.set_cons_zero]
  unfold mkd
  rw [List.replicate_succ', List.append_assoc]; rfl
theorem mark_piece {a : Act} {w : World} {R : Exit → Act → World → Prop} {qs m cs k : Nat} {v : Value} {p : List Tk} (hz : a.tmps.size = 232) (h15 : a.tmps.getD 15 undef = .slice (some ⟨qs, 0, none⟩) m cs) (h20 : a.tmps.getD 20 undef = .int .i64 (k : Int))
    (hk : (k : Int) < (m : Int)) (hm : m ≤ 10000001) (hcell : w.cell? ⟨qs, k, none⟩ = some v) (hn : p.length ≤ 10000001) (ho : ∃ xs, w.ownsRow 0 27 3 v p.length xs ∧ RepAll w (fun _ => False) xs (T p)) (hqs : v.ownBlock ≠ some qs)
    (kk : ∀ (a' : Act) (w' : World), a'.tmps.size = 232 → (∀ t, t < 132 → t ≠ 21 → a'.tmps.getD t undef = a.tmps.getD t undef) → a'.defers = a.defers → Mk w w' v (mkd k p.length) → R .normal a' w') :
    (lkX Try.f3).wp Try.prog R a w := by
  have g15 := gI hz h15 (by decide)
  have g20 := gI hz h20 (by decide)
  obtain ⟨va, vn, vc, rfl⟩ := ow_shape ho.choose_spec.1
  obtain rfl : vn = p.length := by
    rcases ho.choose_spec.1.2 with ⟨h, h2⟩ | ⟨g, cap, cur, h, _⟩
    · cases h; omega
    · cases h; rfl
  have kkA := PLift.up kk
  clear kk
  have hoA := PLift.up ho
  clear ho
  refine wp_seq (wp_region_lit ?_)
  go_wp2
  refine wp_loop (fun a' w' => ∃ i : Nat, i ≤ p.length ∧ a'.tmps.size = 232 ∧ (∀ t, t < 132 → t ≠ 21 → a'.tmps.getD t undef = a.tmps.getD t undef) ∧ a'.tmps.getD 136 undef = .int .i64 (p.length : Int) ∧ a'.tmps.getD 137 undef = .int .i64 (i : Int) ∧ a'.defers = a.defers ∧ Mk w w' (.slice va p.length vc) (mkd k i ++ p.drop i))
    (fun a' _ => p.length - (intOf (a'.tmps.getD 137 undef)).toNat) ?_ ?_
  · refine ⟨0, Nat.zero_le _, by simp [hz], fun t ht h21 => ?_, ?_, ?_, rfl, ⟨rfl, rfl, rfl, rfl, fun q _ => rfl, hoA.down⟩⟩
    · dsimp only
      rw [gset_ne (by omega), gset_ne (by omega), gset_ne (by omega), gset_ne (by omega), gset_ne (by omega), gset_ne (by omega)]
    · dsimp only
      rw [gset_ne (by omega), gset_eq (by simp [hz])]
    · dsimp only
      rw [gset_eq (by simp [hz])]; rfl
  · rintro a' w' ⟨i, hi, hz', hsame, h136, h137, hd, hM⟩
    have h15' := (hsame 15 (by decide) (by decide)).trans h15
    have h20' := (hsame 20 (by decide) (by decide)).trans h20
    by_cases hlt : i < p.length
    · obtain ⟨xs, ho', hr'⟩ := hM.own
      have hl : (mkd k i ++ p.drop i).length = p.length := by simp [mkd]; omega
      rw [hl] at ho'
      rcases ho'.2 with ⟨h, h2⟩ | ⟨g, cap, cur, h, h1, h2, h3, h4, h5, h6⟩
      · omega
      · cases h
        have hc : ∀ j, j < 3 → (w'.cell? ⟨g, i * 3 + j, none⟩).isSome = true ∧ w'.frozen? ⟨g, i * 3 + j, none⟩ = false := fun j hj => by
          refine ⟨?_, frozen_of_row _ _ _ _ _ h2⟩
          rw [cell_of_row _ _ _ _ _ _ h2, Array.getElem?_eq_getElem (by rw [h5]; omega)]; rfl
        have hcell' : w'.cell? ⟨qs, k, none⟩ = some (.slice (some ⟨g, 0, none⟩) p.length vc) := (World.cell?_of_block (a := ⟨qs, k, none⟩) (hM.block qs hqs)).trans hcell
        refine in_round hz' h15' h20' h136 h137 hk hm hcell' (by omega) hn (hc 0 (by omega)).1 (hc 1 (by omega)).1 (hc 2 (by omega)).1 (hc 0 (by omega)).2 (hc 1 (by omega)).2 (hc 2 (by omega)).2 fun a2 hz2 hs2 e136 e137 hd2 => ?_
        have hM2 := hM.one hl hlt (-4 - (k : Int))
        rw [mkd_step k p i hlt] at hM2
        refine ⟨⟨i + 1, hlt, hz2, fun t ht h21 => (hs2 t ht h21).trans (hsame t ht h21), e136, by rw [e137]; rfl, hd2.trans hd, hM2⟩, ?_⟩
        rw [e137, h137]
        simp only [intOf]; omega
    · obtain rfl : i = p.length := by omega
      refine in_exit hz' h136 h137 (by omega) fun a2 hz2 hs2 hd2 => ?_
      refine kkA.down a2 w' hz2 (fun t ht h21 => (hs2 t ht h21).trans (hsame t ht h21)) (hd2.trans hd) ?_
      rw [List.drop_length, List.append_nil] at hM
      exact hM
end Go.Proofs.Ytjfbkegdnljfjaa
