/-
  The texts AP13, AP14, AP15, AP16, AP17.
-/
import Derived.Test.YtdaedplbhpiacaaHB
namespace Go.Proofs.Ytdaedplbhpiacaa
open Go Go.RowKit Go.Proofs Ab
set_option linter.unusedSimpArgs false
set_option linter.unusedVariables false
set_option maxHeartbeats 10000000
set_option maxHeartbeats 4000000
set_option maxRecDepth 2000000
theorem ag_cond {a : Act} {w : World} {R : Exit → Act → World → Prop} {i : Nat} (hz : a.tmps.size = 162) (h8 : a.tmps.getD 8 undef = .int .i64 (i : Int)) (hi : i ≤ 5)
    (kt : i < 5 → ∀ a' : Act, a'.tmps.size = 162 → (∀ t, t < 64 → a'.tmps.getD t undef = a.tmps.getD t undef) → a'.defers = a.defers → R .normal a' w)
    (kf : i = 5 → ∀ a' : Act, a'.tmps.size = 162 → (∀ t, t < 64 → a'.tmps.getD t undef = a.tmps.getD t undef) → a'.defers = a.defers → R (.exit 6) a' w) : (q1 (apF1 Try.f27)).wp Try.prog R a w := by
  have g8 := gI hz h8 (by decide)
  have hA := PLift.up (And.intro kt kf)
  clear kt kf
  by_cases hlt : (i : Int) < 5
  · refine wp_seq_k fun K0 hK0 => ?_
    have hk0 := PLift.up hK0
    clear hK0
    refine wp_region_lit ?_
    go_wp2
    refine hk0.down _ _ ?_
    refine wp_cond_true (by rw [eval_tmp]; dsimp only; rw [gset_eq (by simp [hz])]) ?_
    go_wp2
    refine hA.down.1 (by omega) _ (by simp [hz]) (fun t ht => ?_) rfl
    dsimp only
    rw [gset_ne (by omega), gset_ne (by omega)]
  · refine wp_seq_k fun K0 hK0 => ?_
    have hk0 := PLift.up hK0
    clear hK0
    refine wp_region_lit ?_
    go_wp2
    refine hk0.down _ _ ?_
    refine wp_cond_false (by rw [eval_tmp]; dsimp only; rw [gset_eq (by simp [hz])]) ?_
    go_wp2
    refine hA.down.2 (by omega) _ (by simp [hz]) (fun t ht => ?_) rfl
    dsimp only
    rw [gset_ne (by omega), gset_ne (by omega)]
theorem ag_step {a : Act} {w : World} {R : Exit → Act → World → Prop} {i : Nat} (hz : a.tmps.size = 162) (h8 : a.tmps.getD 8 undef = .int .i64 (i : Int)) (hi : i ≤ 5)
    (kk : ∀ a' : Act, a'.tmps.size = 162 → (∀ t, t < 64 → t ≠ 8 → a'.tmps.getD t undef = a.tmps.getD t undef) → a'.tmps.getD 8 undef = .int .i64 ((i : Int) + 1) → a'.defers = a.defers → R .normal a' w) : (q2 (q2 (apF1 Try.f27))).wp Try.prog R a w := by
  have g8 := gI hz h8 (by decide)
  have kkA := PLift.up kk
  clear kk
  refine wp_region_lit ?_
  go_wp2
  refine kkA.down _ (by simp [hz]) (fun t ht hne => ?_) ?_ rfl
  · dsimp only
    rw [gset_ne (by omega), gset_ne (by omega), gset_ne (by omega)]
  · dsimp only
    rw [gset_eq (by simp [hz])]
def Rel (w0 : World) (v g : Value) (n m : Nat) : Prop := (∃ a cap, v = .slice a n cap ∧ g = .slice a m cap) ∨ ∀ q, g.ownBlock = some q → w0.heap.size ≤ q
theorem grown_bel {w0 wr w1 w' : World} {E : Nat → Prop} {o : Option Nat} (h : BelE w0 E wr) (hb : Below wr.heap.size wr w1) (hg : w1.grownBy w' o) (ho : ∀ q, o = some q → E q ∨ w0.heap.size ≤ q) : BelE w0 E w' := by
  have s0 := h.size
  have s1 := hb.size
  have s2 := hg.size
  refine ⟨hg.os.trans (hb.os.trans h.os), hg.tape.trans (hb.tape.trans h.tape), hg.output.trans (hb.output.trans h.output), by omega, fun x hx hne => ?_⟩
  exact (hg.block x (by omega) (fun e => by rcases ho x e.symm with h' | h'; exact hne h'; omega)).trans ((hb.block x (by omega)).trans (h.block x hx hne))
theorem grow_step {w0 wr w1 w' : World} {v g g' : Value} {n m r : Nat} {u : Value} (hv0 : ∀ q, v.ownBlock = some q → q < w0.heap.size) (hbel : BelE w0 (fun x => v.ownBlock = some x) wr) (hvr : wr.ownsRow 0 24 1 v n (List.replicate n u)) (hrel : Rel w0 v g n m) (hnm : n ≤ m) (hb : Below wr.heap.size wr w1) (ho : w'.ownsRow 0 24 1 g' (m + r) (List.replicate (m + r) u)) (hg : Gr w1 w' g g' m r) :
    BelE w0 (fun x => v.ownBlock = some x) w' ∧ w'.ownsRow 0 24 1 v n (List.replicate n u) ∧ Rel w0 v g' n (m + r) := by
  have s0 := hbel.size
  have s1 := hb.size
  rcases hg with ⟨q, cap, rfl, rfl, hg⟩ | ⟨hfr, hg⟩
  · rcases hrel with ⟨a, cap', rfl, he⟩ | hrel
    · cases he
      refine ⟨grown_bel hbel hb hg fun x hx => .inl hx, ?_, .inl ⟨_, cap, rfl, rfl⟩⟩
      have := ow_pre ho (m := n) (by omega)
      rwa [List.take_replicate, Nat.min_eq_left (by omega)] at this
    · have hq := hrel q rfl
      refine ⟨grown_bel hbel hb hg fun x hx => .inr (by cases hx; exact hq), ow_below hvr fun x hx => ?_, .inr fun x hx => by cases hx; exact hq⟩
      have := hv0 x hx
      exact (hg.block x (by omega) (fun e => by cases e; omega)).trans (hb.block x (by omega))
  · refine ⟨grown_bel hbel hb hg fun x hx => (by cases hx), ow_below hvr fun x hx => ?_, .inr fun x hx => by have := hfr x hx; omega⟩
    have := hv0 x hx
    exact (hg.block x (by omega) (by simp)).trans (hb.block x (by omega))
theorem ag_loop {a : Act} {w : World} {R : Exit → Act → World → Prop} {k n : Nat} {v : Value} (hz : a.tmps.size = 162) (h6 : a.tmps.getD 6 undef = .int .i64 (k : Int)) (h7 : a.tmps.getD 7 undef = v) (hk : k ≤ 1000) (ho : w.ownsRow 0 24 1 v n (List.replicate n (mark k))) (hn : n ≤ 1000000000)
    (kk : ∀ (a' : Act) (w' : World) (g : Value), a'.tmps.size = 162 → (∀ t, t < 64 → t ≠ 7 → t ≠ 8 → a'.tmps.getD t undef = a.tmps.getD t undef) → a'.tmps.getD 7 undef = g → a'.defers = a.defers → BelE w (fun x => v.ownBlock = some x) w' → w'.ownsRow 0 24 1 v n (List.replicate n (mark k)) → w'.ownsRow 0 24 1 g (n + 5) (List.replicate (n + 5) (mark k)) → Rel w v g n (n + 5) → R .normal a' w') : (apE1 Try.f27).wp Try.prog R a w := by
  have hv0 : ∀ q, v.ownBlock = some q → q < w.heap.size := fun q hq => (ho.lt q hq).2
  refine wp_seq_k fun K0 hK0 => ?_
  have hk0 := PLift.up hK0
  clear hK0
  have kkA := PLift.up kk
  clear kk
  refine wp_region_lit ?_
  go_wp2
  refine hk0.down _ _ ?_
  clear hk0
  refine wp_block ?_
  refine wp_loop (fun a' wr => ∃ (i : Nat) (g : Value), i ≤ 5 ∧ a'.tmps.size = 162 ∧ (∀ t, t < 64 → t ≠ 7 → t ≠ 8 → a'.tmps.getD t undef = a.tmps.getD t undef) ∧ a'.tmps.getD 7 undef = g ∧ a'.tmps.getD 8 undef = .int .i64 (i : Int) ∧ a'.defers = a.defers ∧ BelE w (fun x => v.ownBlock = some x) wr ∧ wr.ownsRow 0 24 1 v n (List.replicate n (mark k)) ∧ wr.ownsRow 0 24 1 g (n + i) (List.replicate (n + i) (mark k)) ∧ Rel w v g n (n + i))
    (fun a' _ => 5 - (intOf (a'.tmps.getD 8 undef)).toNat) ?_ ?_
  · refine ⟨0, v, by omega, by simp [hz], fun t ht h1 h2 => ?_, ?_, ?_, rfl, BelE.refl _ _, ho, ho, ?_⟩
    · dsimp only
      rw [gset_ne (by omega)]
    · dsimp only
      rw [gset_ne (by omega)]; exact h7
    · dsimp only
      rw [gset_eq (by simp [hz])]; rfl
    · obtain ⟨va, vc, rfl⟩ := ow_shape ho
      exact .inl ⟨va, vc, rfl, rfl⟩
  · rintro a' wr ⟨i, g, hi, hz, hs, h7, h8, hd, hbel, hvr, hgr, hrel⟩
    refine wp_seq ?_
    refine ag_cond hz h8 hi (fun hlt a1 z1 s1 d1 => ?_) (fun hge a1 z1 s1 d1 => ?_)
    · refine wp_seq ?_
      refine wp_block ?_
      refine ag_app z1 ((s1 6 (by decide)).trans ((hs 6 (by decide) (by decide) (by decide)).trans h6)) ((s1 7 (by decide)).trans h7) hk hgr (by omega) fun a2 w1 w2 g' z2 s2 e2 d2 hb ho2 hG => ?_
      refine ag_step z2 ((s2 8 (by decide) (by decide)).trans ((s1 8 (by decide)).trans h8)) hi fun a3 z3 s3 j3 d3 => ?_
      have hrep : List.replicate (n + i) (mark k) ++ [mark k] = List.replicate (n + (i + 1)) (mark k) := by rw [← Nat.add_assoc, List.replicate_succ']
      rw [hrep] at ho2
      obtain ⟨x1, x2, x3⟩ := grow_step hv0 hbel hvr hrel (by omega) hb ho2 hG
      refine ⟨⟨i + 1, g', hlt, z3, fun t ht e7 e8 => (s3 t ht e8).trans ((s2 t (by omega) e7).trans ((s1 t ht).trans (hs t ht e7 e8))), (s3 7 (by decide) (by decide)).trans e2, by rw [j3]; rfl, d3.trans (d2.trans (d1.trans hd)), x1, x2, ho2, x3⟩, ?_⟩
      rw [j3, h8]
      simp only [intOf]; omega
    · subst hge
      exact kkA.down _ _ g z1 (fun t ht e7 e8 => (s1 t ht).trans (hs t ht e7 e8)) ((s1 7 (by decide)).trans h7) (d1.trans hd) hbel hvr hgr hrel
theorem mm_mk {a : Act} {w : World} {R : Exit → Act → World → Prop} (hz : a.tmps.size = 162)
    (kk : ∀ (a' : Act) (w' : World) (q : Nat), a'.tmps.size = 162 → (∀ t, t < 64 → t ≠ 9 → a'.tmps.getD t undef = a.tmps.getD t undef) → a'.tmps.getD 9 undef = .slice (some ⟨q, 0, none⟩) 40 40 → a'.defers = a.defers → w.heap.size ≤ q → BelE w (fun _ => False) w' → (∃ xs, w'.ownsRow 0 24 1 (.slice (some ⟨q, 0, none⟩) 40 40) 40 xs) → R .normal a' w') : (q1 (q2 (q2 (apD Try.f27)))).wp Try.prog R a w := by
  have kkA := PLift.up kk
  clear kk
  obtain ⟨i0, hi0, hi1, hi2, hi3⟩ := info_parts info_u64
  refine wp_region_lit ?_
  refine wpList_make_full _ rfl _ _ 22 rfl 0 24 i0 (.int .u64 0) 1 Try.underlying22 hi0 hi1 hi2 .i64 .i64 40 40 40 rfl rfl rfl rfl (by omega) (by unfold maxLen; omega) (Nat.zero_le _) fun w' ho hg => ?_
  go_wp2
  refine kkA.down _ w' w.heap.size (by simp [Act.put, hz]) (fun t ht hne => ?_) ?_ rfl (Nat.le_refl _) ⟨hg.os, hg.tape, hg.output, hg.size, fun x hx _ => hg.block x hx (by simp)⟩ ⟨_, ho⟩
  · dsimp only [Act.put]
    rw [gset_ne (by omega), gset_ne (by omega)]
  · dsimp only [Act.put]
    rw [gset_eq (by simp [hz])]
theorem mm_cond {a : Act} {w : World} {R : Exit → Act → World → Prop} {i q : Nat} (hz : a.tmps.size = 162) (h9 : a.tmps.getD 9 undef = .slice (some ⟨q, 0, none⟩) 40 40) (h10 : a.tmps.getD 10 undef = .int .i64 (i : Int)) (hi : i ≤ 40)
    (kt : i < 40 → ∀ a' : Act, a'.tmps.size = 162 → (∀ t, t < 64 → a'.tmps.getD t undef = a.tmps.getD t undef) → a'.defers = a.defers → R .normal a' w)
    (kf : i = 40 → ∀ a' : Act, a'.tmps.size = 162 → (∀ t, t < 64 → a'.tmps.getD t undef = a.tmps.getD t undef) → a'.defers = a.defers → R (.exit 8) a' w) : (q1 (apF2 Try.f27)).wp Try.prog R a w := by
  have g9 := gI hz h9 (by decide)
  have g10 := gI hz h10 (by decide)
  have hA := PLift.up (And.intro kt kf)
  clear kt kf
  by_cases hlt : (i : Int) < 40
  · refine wp_seq_k fun K0 hK0 => ?_
    have hk0 := PLift.up hK0
    clear hK0
    refine wp_region_lit ?_
    go_wp2
    refine hk0.down _ _ ?_
    refine wp_cond_true (by rw [eval_tmp]; dsimp only; rw [gset_eq (by simp [hz])]) ?_
    go_wp2
    refine hA.down.1 (by omega) _ (by simp [hz]) (fun t ht => ?_) rfl
    dsimp only
    rw [gset_ne (by omega), gset_ne (by omega), gset_ne (by omega), gset_ne (by omega)]
  · refine wp_seq_k fun K0 hK0 => ?_
    have hk0 := PLift.up hK0
    clear hK0
    refine wp_region_lit ?_
    go_wp2
    refine hk0.down _ _ ?_
    refine wp_cond_false (by rw [eval_tmp]; dsimp only; rw [gset_eq (by simp [hz])]) ?_
    go_wp2
    refine hA.down.2 (by omega) _ (by simp [hz]) (fun t ht => ?_) rfl
    dsimp only
    rw [gset_ne (by omega), gset_ne (by omega), gset_ne (by omega), gset_ne (by omega)]
theorem mm_step {a : Act} {w : World} {R : Exit → Act → World → Prop} {i : Nat} (hz : a.tmps.size = 162) (h10 : a.tmps.getD 10 undef = .int .i64 (i : Int)) (hi : i ≤ 40)
    (kk : ∀ a' : Act, a'.tmps.size = 162 → (∀ t, t < 64 → t ≠ 10 → a'.tmps.getD t undef = a.tmps.getD t undef) → a'.tmps.getD 10 undef = .int .i64 ((i : Int) + 1) → a'.defers = a.defers → R .normal a' w) : (q2 (q2 (apF2 Try.f27))).wp Try.prog R a w := by
  have g10 := gI hz h10 (by decide)
  have kkA := PLift.up kk
  clear kk
  refine wp_region_lit ?_
  go_wp2
  refine kkA.down _ (by simp [hz]) (fun t ht hne => ?_) ?_ rfl
  · dsimp only
    rw [gset_ne (by omega), gset_ne (by omega), gset_ne (by omega)]
  · dsimp only
    rw [gset_eq (by simp [hz])]
theorem mm_store {a : Act} {w : World} {R : Exit → Act → World → Prop} {k i q : Nat} {x : Value} (hz : a.tmps.size = 162) (h6 : a.tmps.getD 6 undef = .int .i64 (k : Int)) (h9 : a.tmps.getD 9 undef = .slice (some ⟨q, 0, none⟩) 40 40) (h10 : a.tmps.getD 10 undef = .int .i64 (i : Int)) (hk : k ≤ 1000) (hi : i < 40) (hx : w.cell? ⟨q, i, none⟩ = some x) (hf : w.frozen? ⟨q, i, none⟩ = false)
    (kk : ∀ a' : Act, a'.tmps.size = 162 → (∀ t, t < 64 → a'.tmps.getD t undef = a.tmps.getD t undef) → a'.defers = a.defers → R .normal a' (w.setCell ⟨q, i, none⟩ (mark k))) : (qb (q1 (q2 (apF2 Try.f27)))).wp Try.prog R a w := by
  have g6 := gI hz h6 (by decide)
  have g9 := gI hz h9 (by decide)
  have g10 := gI hz h10 (by decide)
  have hw := wrap_mark k (by omega)
  have kkA := PLift.up kk
  clear kk
  refine wp_region_lit ?_
  go_wp2
  refine kkA.down _ (by simp [hz]) (fun t ht => ?_) rfl
  dsimp only
  rw [gset_ne (by omega), gset_ne (by omega), gset_ne (by omega), gset_ne (by omega), gset_ne (by omega), gset_ne (by omega)]
theorem mm_loop {a : Act} {w : World} {R : Exit → Act → World → Prop} {k q : Nat} (hz : a.tmps.size = 162) (h6 : a.tmps.getD 6 undef = .int .i64 (k : Int)) (h9 : a.tmps.getD 9 undef = .slice (some ⟨q, 0, none⟩) 40 40) (hk : k ≤ 1000) (ho : ∃ xs, w.ownsRow 0 24 1 (.slice (some ⟨q, 0, none⟩) 40 40) 40 xs)
    (kk : ∀ (a' : Act) (w' : World), a'.tmps.size = 162 → (∀ t, t < 64 → t ≠ 10 → a'.tmps.getD t undef = a.tmps.getD t undef) → a'.defers = a.defers → BelE w (fun x => x = q) w' → w'.ownsRow 0 24 1 (.slice (some ⟨q, 0, none⟩) 40 40) 40 (List.replicate 40 (mark k)) → R .normal a' w') : (apE2 Try.f27).wp Try.prog R a w := by
  obtain ⟨xs, ho⟩ := ho
  have hlen : xs.length = 40 := ho.1
  refine wp_seq_k fun K0 hK0 => ?_
  have hk0 := PLift.up hK0
  clear hK0
  have kkA := PLift.up kk
  clear kk
  refine wp_region_lit ?_
  go_wp2
  refine hk0.down _ _ ?_
  clear hk0
  refine wp_block ?_
  refine wp_loop (fun a' wr => ∃ i : Nat, i ≤ 40 ∧ a'.tmps.size = 162 ∧ (∀ t, t < 64 → t ≠ 10 → a'.tmps.getD t undef = a.tmps.getD t undef) ∧ a'.tmps.getD 10 undef = .int .i64 (i : Int) ∧ a'.defers = a.defers ∧ BelE w (fun x => x = q) wr ∧ wr.ownsRow 0 24 1 (.slice (some ⟨q, 0, none⟩) 40 40) 40 (List.replicate i (mark k) ++ xs.drop i))
    (fun a' _ => 40 - (intOf (a'.tmps.getD 10 undef)).toNat) ?_ ?_
  · refine ⟨0, Nat.zero_le _, by simp [hz], fun t ht hne => ?_, ?_, rfl, BelE.refl _ _, ho⟩
    · dsimp only
      rw [gset_ne (by omega)]
    · dsimp only
      rw [gset_eq (by simp [hz])]; rfl
  · rintro a' wr ⟨i, hi, hz, hs, h10, hd, hbel, hr⟩
    refine wp_seq ?_
    have h9' := (hs 9 (by decide) (by decide)).trans h9
    refine mm_cond hz h9' h10 hi (fun hlt a1 z1 s1 d1 => ?_) (fun hge a1 z1 s1 d1 => ?_)
    · have hcell := hr.cellAt i (by omega)
      rw [List.getElem?_append_right (by simp), List.length_replicate, Nat.sub_self, List.getElem?_drop, List.getElem?_eq_getElem (by omega)] at hcell
      refine wp_seq ?_
      refine wp_block ?_
      refine mm_store z1 ((s1 6 (by decide)).trans ((hs 6 (by decide) (by decide)).trans h6)) ((s1 9 (by decide)).trans h9') ((s1 10 (by decide)).trans h10) hk hlt hcell (hr.frozenAt i) fun a2 z2 s2 d2 => ?_
      refine mm_step z2 ((s2 10 (by decide)).trans ((s1 10 (by decide)).trans h10)) hi fun a3 z3 s3 j3 d3 => ?_
      have hst := (hr.stored i (mark k)).1
      rw [repl_set hlen hlt] at hst
      refine ⟨⟨i + 1, hlt, z3, fun t ht hne => (s3 t ht hne).trans ((s2 t ht).trans ((s1 t ht).trans (hs t ht hne))), by rw [j3]; rfl, d3.trans (d2.trans (d1.trans hd)), ?_, hst⟩, ?_⟩
      · refine ⟨hbel.os, hbel.tape, hbel.output, ?_, fun x hx hne => ?_⟩
        · have : (wr.setCell ⟨q, i, none⟩ (mark k)).heap.size = wr.heap.size := by simp [World.setCell]
          rw [this]; exact hbel.size
        · exact (heap_setCell_other wr ⟨q, i, none⟩ x (mark k) hne).trans (hbel.block x hx hne)
      · rw [j3, h10]
        simp only [intOf]; omega
    · subst hge
      rw [List.drop_of_length_le (by omega), List.append_nil] at hr
      exact kkA.down _ _ z1 (fun t ht hne => (s1 t ht).trans (hs t ht hne)) (d1.trans hd) hbel hr
end Go.Proofs.Ytdaedplbhpiacaa
namespace Go.Proofs.Ytdaedplbhpiacaa
open Go Go.RowKit Go.Proofs Ab
set_option linter.unusedSimpArgs false
set_option linter.unusedVariables false
set_option maxHeartbeats 10000000
set_option maxHeartbeats 4000000
set_option maxRecDepth 2000000
theorem info_row : (Try.prog.info? 22).map (fun i => (i.zero, i.size, i.bytes)) = some (some (.slice none 0 0), 1, 24) := by kernel_rfl
theorem ak_cond {a : Act} {w : World} {R : Exit → Act → World → Prop} {b vlq m vlc k : Nat} (hz : a.tmps.size = 162) (h0 : a.tmps.getD 0 undef = .pointer (some ⟨b, 0, none⟩)) (h6 : a.tmps.getD 6 undef = .int .i64 (k : Int))
    (hb0 : w.cell? ⟨b, 0, none⟩ = some (.slice (some ⟨vlq, 0, none⟩) m vlc)) (hm : m ≤ 1000000)
    (kt : (k : Int) < (m : Int) → ∀ a' : Act, a'.tmps.size = 162 → (∀ t, t < 48 → a'.tmps.getD t undef = a.tmps.getD t undef) → a'.defers = a.defers → R .normal a' w)
    (kf : ¬ (k : Int) < (m : Int) → ∀ a' : Act, a'.tmps.size = 162 → (∀ t, t < 48 → a'.tmps.getD t undef = a.tmps.getD t undef) → a'.defers = a.defers → R (.exit 4) a' w) : (q1 (apB2 Try.f27)).wp Try.prog R a w := by
  have g0 := gI hz h0 (by decide)
  have g6 := gI hz h6 (by decide)
  have hA := PLift.up (And.intro kt kf)
  clear kt kf
  by_cases hi : (k : Int) < (m : Int)
  · refine wp_seq_k fun K0 hK0 => ?_
    have hk0 := PLift.up hK0
    clear hK0
    refine wp_region_lit ?_
    go_wp2
    refine hk0.down _ _ ?_
    refine wp_cond_true (by rw [eval_tmp]; dsimp only; rw [gset_eq (by simp [hz])]) ?_
    go_wp2
    refine hA.down.1 hi _ (by simp [hz]) (fun t ht => ?_) rfl
    dsimp only
    rw [gset_ne (by omega), gset_ne (by omega), gset_ne (by omega), gset_ne (by omega), gset_ne (by omega), gset_ne (by omega), gset_ne (by omega)]
  · refine wp_seq_k fun K0 hK0 => ?_
    have hk0 := PLift.up hK0
    clear hK0
    refine wp_region_lit ?_
    go_wp2
    refine hk0.down _ _ ?_
    refine wp_cond_false (by rw [eval_tmp]; dsimp only; rw [gset_eq (by simp [hz])]) ?_
    go_wp2
    refine hA.down.2 (by omega) _ (by simp [hz]) (fun t ht => ?_) rfl
    dsimp only
    rw [gset_ne (by omega), gset_ne (by omega), gset_ne (by omega), gset_ne (by omega), gset_ne (by omega), gset_ne (by omega), gset_ne (by omega)]
theorem ak_step {a : Act} {w : World} {R : Exit → Act → World → Prop} {k : Nat} (hz : a.tmps.size = 162) (h6 : a.tmps.getD 6 undef = .int .i64 (k : Int)) (hk : k ≤ 1000000)
    (kk : ∀ a' : Act, a'.tmps.size = 162 → (∀ t, t < 48 → t ≠ 6 → a'.tmps.getD t undef = a.tmps.getD t undef) → a'.tmps.getD 6 undef = .int .i64 ((k : Int) + 1) → a'.defers = a.defers → R .normal a' w) : (q2 (q2 (apB2 Try.f27))).wp Try.prog R a w := by
  have g6 := gI hz h6 (by decide)
  have kkA := PLift.up kk
  clear kk
  refine wp_region_lit ?_
  go_wp2
  refine kkA.down _ (by simp [hz]) (fun t ht hne => ?_) ?_ rfl
  · dsimp only
    rw [gset_ne (by omega), gset_ne (by omega), gset_ne (by omega)]
  · dsimp only
    rw [gset_eq (by simp [hz])]
theorem ad_load {a : Act} {w : World} {R : Exit → Act → World → Prop} {b vlq m vlc k n cap : Nat} {la : Option Addr} (hz : a.tmps.size = 162) (h0 : a.tmps.getD 0 undef = .pointer (some ⟨b, 0, none⟩)) (h6 : a.tmps.getD 6 undef = .int .i64 (k : Int))
    (hb0 : w.cell? ⟨b, 0, none⟩ = some (.slice (some ⟨vlq, 0, none⟩) m vlc)) (hk : (k : Int) < (m : Int)) (hm : m ≤ 1000000) (hc : w.cell? ⟨vlq, k, none⟩ = some (.slice la n cap))
    (kk : ∀ a' : Act, a'.tmps.size = 162 → (∀ t, t < 48 → t ≠ 7 → a'.tmps.getD t undef = a.tmps.getD t undef) → a'.tmps.getD 7 undef = .slice la n cap → a'.defers = a.defers → R .normal a' w) : (q1 (apD Try.f27)).wp Try.prog R a w := by
  have g0 := gI hz h0 (by decide)
  have g6 := gI hz h6 (by decide)
  have kkA := PLift.up kk
  clear kk
  refine wp_region_lit ?_
  go_wp2
  refine kkA.down _ (by simp [hz]) (fun t ht hne => ?_) ?_ rfl
  · dsimp only
    rw [gset_ne (by omega), gset_ne (by omega), gset_ne (by omega), gset_ne (by omega), gset_ne (by omega), gset_ne (by omega), gset_ne (by omega), gset_ne (by omega)]
  · dsimp only
    rw [gset_eq (by simp [hz])]
theorem Gr.bel {w w' : World} {v v' : Value} {n m : Nat} (h : Gr w w' v v' n m) : BelE w (fun x => v.ownBlock = some x) w' := by
  rcases h with ⟨q, cap, rfl, rfl, hg⟩ | ⟨_, hg⟩
  · exact grown_bel (BelE.refl _ _) (Below.refl _ _) hg fun x hx => .inl hx
  · exact grown_bel (BelE.refl _ _) (Below.refl _ _) hg fun x hx => by cases hx
theorem Gr.ob {w w' : World} {v v' : Value} {n m q : Nat} (h : Gr w w' v v' n m) (hq : v'.ownBlock = some q) : v.ownBlock = some q ∨ w.heap.size ≤ q := by
  rcases h with ⟨q, cap, rfl, rfl, hg⟩ | ⟨h, _⟩
  · exact .inl hq
  · exact .inr (h _ hq)
theorem af_fin {a : Act} {w : World} {R : Exit → Act → World → Prop} {b vlq vlc k n m mq gn gc : Nat} {ga : Option Addr} {v vG : Value} {Lv Gs : List Value} (hz : a.tmps.size = 162) (h0 : a.tmps.getD 0 undef = .pointer (some ⟨b, 0, none⟩)) (h5 : a.tmps.getD 5 undef = vG) (h6 : a.tmps.getD 6 undef = .int .i64 (k : Int)) (h7 : a.tmps.getD 7 undef = .slice ga gn gc) (h9 : a.tmps.getD 9 undef = .slice (some ⟨mq, 0, none⟩) 40 40)
    (hx : Bx w b vlq vlc Lv) (hv : Lv[k]? = some v) (ho : w.ownsRow 0 24 1 v n (List.replicate n (mark k))) (hn : n ≤ 1000000000) (hG : w.ownsRow 0 22 1 vG m Gs) (hm : m ≤ 10000) (hmany : w.ownsRow 0 24 1 (.slice (some ⟨mq, 0, none⟩) 40 40) 40 (List.replicate 40 (mark k)))
    (kk : ∀ (a' : Act) (w4 w4' w5 : World) (g2 vG' : Value), a'.tmps.size = 162 → (∀ t, t < 48 → t ≠ 5 → a'.tmps.getD t undef = a.tmps.getD t undef) → a'.tmps.getD 5 undef = vG' → a'.defers = a.defers → w4.ownsRow 0 24 1 g2 (n + 40) (List.replicate (n + 40) (mark k)) → Gr w w4 v g2 n 40 → Below w4.heap.size w4 w4' → w5.ownsRow 0 22 1 vG' (m + 2) (Gs ++ [.slice ga gn gc, g2]) → Gr w4' w5 vG vG' m 2 → R .normal a' w5) : (q2 (q2 (q2 (q2 (apD Try.f27))))).wp Try.prog R a w := by
  have hkm : k < Lv.length := (List.getElem?_eq_some_iff.1 hv).1
  have hml := hx.m
  have g0 := gI hz h0 (by decide)
  have g5 := gI hz h5 (by decide)
  have g6 := gI hz h6 (by decide)
  have g7 := gI hz h7 (by decide)
  have g9 := gI hz h9 (by decide)
  obtain ⟨i0, hi0, hi1, hi2, hi3⟩ := info_parts info_u64
  obtain ⟨j0, hj0, hj1, hj2, hj3⟩ := info_parts info_row
  obtain ⟨va, vc, hva⟩ := ow_shape ho
  have hb0 := hx.c0
  have hcl := hx.cl k v hv
  rw [hva] at hcl
  have hkI : (k : Int) < (Lv.length : Int) := by omega
  have hneG : ∀ q, vG.ownBlock = some q → v.ownBlock ≠ some q := fun q hq => ow_ne hG ho (by decide) hq
  obtain ⟨M, hM⟩ : ∃ M, M = List.replicate 40 (mark k) := ⟨_, rfl⟩
  rw [← hM] at hmany
  have hMl : M.length = 40 := by rw [hM, List.length_replicate]
  have hMc : ∀ u, u ∈ M → u.oneCell' = true := fun u hu => by rw [hM] at hu; rw [(List.mem_replicate.1 hu).2]; rfl
  have hMM : List.replicate n (mark k) ++ M = List.replicate (n + 40) (mark k) := by rw [hM, List.replicate_append_replicate]
  clear hM
  have hA := PLift.up (And.intro ho (And.intro hG hmany))
  clear ho hG hmany hv hx
  have kkA := PLift.up kk
  clear kk
  subst hva
  refine wp_region_lit ?_
  go_wp2_with (first | (at_builtin; refine wpList_app _ rfl (.tmp 95) (.tmp 96) 22 rfl 24 i0 (.int .u64 0) 8 Try.underlying22 hi0 hi1 hi2 hi3 rfl (.slice va n vc) n (List.replicate n (mark k)) ?hs ?own ⟨mq, 0, none⟩ 40 40 M ?hx ?hn ?c3 ?c4 (by decide) ?mx ?bys ?fin))
  case hs => rw [eval_tmp]; dsimp only; rw [gset_ne (by decide), gset_eq (by simp [hz])]
  case own => exact hA.down.1
  case hx => rw [eval_tmp]; dsimp only; rw [gset_eq (by simp [hz])]
  case hn => exact hMl
  case c3 => exact fun j u hj => hA.down.2.2.cells rfl j u hj
  case c4 => exact hMc
  case mx => unfold maxLen; omega
  case bys => omega
  case fin =>
    intro g2 w4 ho4 hG4
    obtain ⟨a2, c2, rfl⟩ := ow_shape ho4
    have hbel4 := hG4.bel
    have hGr4 : w4.ownsRow 0 22 1 vG m Gs := ow_below hA.down.2.1 fun q hq => hbel4.block q (hA.down.2.1.lt q hq).2 (hneG q hq)
    have hB := PLift.up (And.intro ho4 (And.intro hG4 hGr4))
    clear ho4 hG4 hbel4 hGr4
    go_wp2_with (first | (at_builtin; refine wpList_app _ rfl (.tmp 87) (.tmp 98) 27 rfl 22 j0 (.slice none 0 0) 24 Try.underlying27 hj0 hj1 hj2 hj3 rfl vG m Gs ?hs ?own ⟨w4.heap.size, 0, none⟩ 2 2 [.slice ga gn gc, .slice a2 (n + 40) c2] ?hx ?hn ?c3 ?c4 (by decide) ?mx ?bys ?fin))
    case hs => rw [eval_tmp]; dsimp only [Act.put]; rw [gset_ne (by decide), gset_ne (by decide), gset_ne (by decide), gset_ne (by decide), gset_ne (by decide), gset_ne (by decide), gset_ne (by decide), gset_ne (by decide), gset_ne (by decide), gset_ne (by decide), gset_ne (by decide), gset_eq (by simp [hz])]
    case own => exact hB.down.2.2.alloc _
    case hx => rw [eval_tmp]; dsimp only [Act.put]; rw [gset_eq (by simp [hz])]
    case hn => rfl
    case c3 =>
      intro j u hj
      rw [Addr.add_lit, Nat.zero_add, cell_of_row _ _ j _ _ _ (heap_alloc_new w4 _)]
      simpa using hj
    case c4 =>
      intro u hu
      simp only [List.mem_cons, List.not_mem_nil, or_false] at hu
      rcases hu with rfl | rfl <;> rfl
    case mx => unfold maxLen; omega
    case bys => omega
    case fin =>
      intro vG' w5 ho5 hG5
      go_wp2
      refine kkA.down _ w4 _ w5 _ vG' (by simp [Act.put, hz]) (fun t ht hne => ?_) ?_ rfl hB.down.1 hB.down.2.1 ((Below.refl _ _).alloc (Nat.le_refl _) _) ho5 hG5
      · dsimp only [Act.put]
        rw [gset_ne (by omega), gset_ne (by omega), gset_ne (by omega), gset_ne (by omega), gset_ne (by omega), gset_ne (by omega), gset_ne (by omega), gset_ne (by omega), gset_ne (by omega), gset_ne (by omega), gset_ne (by omega), gset_ne (by omega), gset_ne (by omega), gset_ne (by omega)]
      · dsimp only [Act.put]
        rw [gset_eq (by simp [hz])]
end Go.Proofs.Ytdaedplbhpiacaa
namespace Go.Proofs.Ytdaedplbhpiacaa
open Go Go.RowKit Go.Proofs Ab
set_option linter.unusedSimpArgs false
set_option linter.unusedVariables false
set_option maxHeartbeats 10000000
set_option maxHeartbeats 4000000
set_option maxRecDepth 2000000
theorem belE_new {w0 w w' : World} {E F : Nat → Prop} (h : BelE w0 E w) (h' : BelE w F w') (hF : ∀ x, F x → E x ∨ w0.heap.size ≤ x) : BelE w0 E w' :=
  ⟨h'.os.trans h.os, h'.tape.trans h.tape, h'.output.trans h.output, Nat.le_trans h.size h'.size, fun q hq hne => (h'.block q (Nat.lt_of_lt_of_le hq h.size) (fun e => (hF q e).elim hne fun h => by omega)).trans (h.block q hq hne)⟩
def Gd (w0 w : World) (Lv : List Value) (k : Nat) (Gs : List Value) : Prop := Gs.length = 2 * k ∧ ∀ (t : Nat) (x : Value), Gs[t]? = some x → ∃ m : Nat, m ≤ 2000000000 ∧ w.ownsRow 0 24 1 x m (List.replicate m (mark (t / 2))) ∧ ∀ q, x.ownBlock = some q → (∃ v, Lv[t / 2]? = some v ∧ v.ownBlock = some q) ∨ w0.heap.size ≤ q
theorem ob_len {a : Option Addr} {n m c : Nat} : (Value.slice a n c).ownBlock = (Value.slice a m c).ownBlock := by cases a <;> rfl
theorem Gr.pre {w w' : World} {v v' : Value} {n m : Nat} {u : Value} (h : Gr w w' v v' n m) (ho : w.ownsRow 0 24 1 v n (List.replicate n u)) (ho' : w'.ownsRow 0 24 1 v' (n + m) (List.replicate (n + m) u)) {w0 : World} {g : Value} {r : Nat} (hr : Rel w0 v g n r) (hrm : r ≤ n + m) (hv0 : ∀ q, v.ownBlock = some q → q < w0.heap.size) (hg : w.ownsRow 0 24 1 g r (List.replicate r u)) : w'.ownsRow 0 24 1 g r (List.replicate r u) := by
  have hb := h.bel
  rcases hr with ⟨a, cap, rfl, rfl⟩ | hr
  · rcases h with ⟨q, cap', he, rfl, _⟩ | ⟨_, hgr⟩
    · cases he
      have := ow_pre ho' (m := r) hrm
      rwa [List.take_replicate, Nat.min_eq_left hrm] at this
    · exact ow_below hg fun q hq => hgr.block q (hg.lt q hq).2 (by simp)
  · exact ow_below hg fun q hq => hb.block q (hg.lt q hq).2 (fun e => by have := hv0 q e; have := hr q hq; omega)
theorem ag_round {a : Act} {w0 w : World} {R : Exit → Act → World → Prop} {b vlq vlc k : Nat} {vG : Value} {Lv Gs : List Value} (hz : a.tmps.size = 162) (h0 : a.tmps.getD 0 undef = .pointer (some ⟨b, 0, none⟩)) (h5 : a.tmps.getD 5 undef = vG) (h6 : a.tmps.getD 6 undef = .int .i64 (k : Int))
    (hx : Bx w b vlq vlc Lv) (hk : k < Lv.length) (hap : Apt Lv) (hnb : Nbk b vlq Lv) (hl0 : ∀ (j : Nat) (v : Value) (q : Nat), Lv[j]? = some v → v.ownBlock = some q → q < w0.heap.size) (hL : Lm w Lv Lv.length) (hbel : BelE w0 (fun x => ∃ (j : Nat) (v : Value), Lv[j]? = some v ∧ v.ownBlock = some x) w) (hG : w.ownsRow 0 22 1 vG (2 * k) Gs) (hG0 : ∀ q, vG.ownBlock = some q → w0.heap.size ≤ q) (hd : Gd w0 w Lv k Gs)
    (kk : ∀ (a' : Act) (w' : World) (vG' : Value) (Gs' : List Value), a'.tmps.size = 162 → a'.tmps.getD 0 undef = .pointer (some ⟨b, 0, none⟩) → a'.tmps.getD 5 undef = vG' → a'.tmps.getD 6 undef = .int .i64 (k : Int) → a'.defers = a.defers → Lm w' Lv Lv.length → BelE w0 (fun x => ∃ (j : Nat) (v : Value), Lv[j]? = some v ∧ v.ownBlock = some x) w' → w'.ownsRow 0 22 1 vG' (2 * (k + 1)) Gs' → (∀ q, vG'.ownBlock = some q → w0.heap.size ≤ q) → Gd w0 w' Lv (k + 1) Gs' → R .normal a' w') : (apD Try.f27).wp Try.prog R a w := by
  have hm := hx.m
  have hs0 := hbel.size
  have hv : Lv[k]? = some Lv[k] := List.getElem?_eq_getElem hk
  generalize Lv[k] = v at hv
  obtain ⟨n, xs, hn, hvo, hxs⟩ := hL k v hv
  obtain rfl := hxs hk
  obtain ⟨va, vc, hva⟩ := ow_shape hvo
  have hcl := hx.cl k v hv
  rw [hva] at hcl
  have hvb := hnb k v hv
  have hv0 : ∀ q, v.ownBlock = some q → q < w.heap.size := fun q hq => (hvo.lt q hq).2
  have hGv : ∀ q, vG.ownBlock = some q → v.ownBlock ≠ some q := fun q hq => ow_ne hG hvo (by decide) hq
  refine wp_seq ?_
  refine ad_load hz h0 h6 hx.c0 (by omega) (by omega) hcl fun a1 z1 s1 e1 d1 => ?_
  rw [← hva] at e1
  refine wp_seq ?_
  refine ag_loop z1 ((s1 6 (by decide) (by decide)).trans h6) e1 (by omega) hvo hn fun a2 w1 g z2 s2 e2 d2 bel1 hv1 hg1 hrel => ?_
  have hs1 := bel1.size
  refine wp_seq ?_
  refine mm_mk z2 fun a3 w2 mq z3 s3 e3 d3 hmq bel2 hm2 => ?_
  have hs2 := bel2.size
  refine wp_seq ?_
  refine mm_loop z3 ((s3 6 (by decide) (by decide)).trans ((s2 6 (by decide) (by decide) (by decide)).trans ((s1 6 (by decide) (by decide)).trans h6))) e3 (by omega) hm2 fun a4 w3 z4 s4 d4 bel3 hm3 => ?_
  have hs3 := bel3.size
  have bel13 : BelE w1 (fun _ => False) w3 := belE_new bel2 bel3 fun x hx => .inr (by rw [hx]; exact hmq)
  have bel03 : BelE w (fun x => v.ownBlock = some x) w3 := belE_new bel1 bel13 fun x hx => hx.elim
  have hv3 : w3.ownsRow 0 24 1 v n (List.replicate n (mark k)) := ow_below hv1 fun q hq => bel13.block q (hv1.lt q hq).2 (fun e => e)
  have hg3 : w3.ownsRow 0 24 1 g (n + 5) (List.replicate (n + 5) (mark k)) := ow_below hg1 fun q hq => bel13.block q (hg1.lt q hq).2 (fun e => e)
  have hG3 : w3.ownsRow 0 22 1 vG (2 * k) Gs := ow_below hG fun q hq => bel03.block q (hG.lt q hq).2 (hGv q hq)
  have hx3 : Bx w3 b vlq vlc Lv := hx.keep bel03.size (bel03.block b hx.lb hvb.1) (bel03.block vlq hx.ll hvb.2)
  obtain ⟨ga, gc, rfl⟩ := ow_shape hg3
  have f0 : a4.tmps.getD 0 undef = .pointer (some ⟨b, 0, none⟩) := (s4 0 (by decide) (by decide)).trans ((s3 0 (by decide) (by decide)).trans ((s2 0 (by decide) (by decide) (by decide)).trans ((s1 0 (by decide) (by decide)).trans h0)))
  have f5 : a4.tmps.getD 5 undef = vG := (s4 5 (by decide) (by decide)).trans ((s3 5 (by decide) (by decide)).trans ((s2 5 (by decide) (by decide) (by decide)).trans ((s1 5 (by decide) (by decide)).trans h5)))
  have f6 : a4.tmps.getD 6 undef = .int .i64 (k : Int) := (s4 6 (by decide) (by decide)).trans ((s3 6 (by decide) (by decide)).trans ((s2 6 (by decide) (by decide) (by decide)).trans ((s1 6 (by decide) (by decide)).trans h6)))
  have f7 : a4.tmps.getD 7 undef = .slice ga (n + 5) gc := (s4 7 (by decide) (by decide)).trans ((s3 7 (by decide) (by decide)).trans e2)
  have f9 : a4.tmps.getD 9 undef = .slice (some ⟨mq, 0, none⟩) 40 40 := (s4 9 (by decide) (by decide)).trans e3
  refine af_fin z4 f0 f5 f6 f7 f9 hx3 hv hv3 hn hG3 (by omega) hm3 fun a5 w4 w4' w5 g2 vG' z5 s5 e5 d5 hg24 hGr hb4 hG5 hGr5 => ?_
  have bel4 := hGr.bel
  have hs4 := bel4.size
  have hs4' := hb4.size
  have bel5 := hGr5.bel
  have hs5 := bel5.size
  have hG4 : w4.ownsRow 0 22 1 vG (2 * k) Gs := ow_below hG3 fun q hq => bel4.block q (hG3.lt q hq).2 (hGv q hq)
  have bel45 : BelE w4 (fun x => vG.ownBlock = some x) w5 := ⟨bel5.os.trans hb4.os, bel5.tape.trans hb4.tape, bel5.output.trans hb4.output, Nat.le_trans hs4' hs5, fun q hq hne => (bel5.block q (by omega) hne).trans (hb4.block q hq)⟩
  have up5 : ∀ {x : Value} {m : Nat} {ys : List Value}, w4.ownsRow 0 24 1 x m ys → w5.ownsRow 0 24 1 x m ys := fun h => ow_below h fun q hq => bel45.block q (h.lt q hq).2 (ow_ne h hG4 (by decide) hq)
  have relv : Rel w3 v v n n := by rw [hva]; exact .inl ⟨va, vc, rfl, rfl⟩
  have hv03 : ∀ q, v.ownBlock = some q → q < w3.heap.size := fun q hq => (hv3.lt q hq).2
  have hv4 : w4.ownsRow 0 24 1 v n (List.replicate n (mark k)) := hGr.pre hv3 hg24 relv (by omega) hv03 hv3
  have hg4 : w4.ownsRow 0 24 1 (.slice ga (n + 5) gc) (n + 5) (List.replicate (n + 5) (mark k)) := hGr.pre hv3 hg24 hrel (by omega) hv0 hg3
  have bel04 : BelE w (fun x => v.ownBlock = some x) w4 := belE_two bel03 bel4 fun x hx => hx
  have bel05 : BelE w (fun x => v.ownBlock = some x ∨ vG.ownBlock = some x) w5 := belE_two (E := fun x => v.ownBlock = some x ∨ vG.ownBlock = some x) ⟨bel04.os, bel04.tape, bel04.output, bel04.size, fun q hq hne => bel04.block q hq (fun e => hne (.inl e))⟩ bel45 fun x hx => .inr hx
  have up : ∀ {x : Value} {m : Nat} {ys : List Value}, w.ownsRow 0 24 1 x m ys → (∀ q, x.ownBlock = some q → v.ownBlock ≠ some q) → w5.ownsRow 0 24 1 x m ys := fun h hne => ow_below h fun q hq => bel05.block q (h.lt q hq).2 (fun e => e.elim (hne q hq) (fun e => ow_ne h hG (by decide) hq e))
  have c0 : w0.heap.size ≤ w3.heap.size := by omega
  have c5 : 2 * k + 2 = 2 * (k + 1) := by omega
  refine kk _ _ vG' (Gs ++ [.slice ga (n + 5) gc, g2]) z5 ((s5 0 (by decide) (by decide)).trans f0) e5 ((s5 6 (by decide) (by decide)).trans f6) (d5.trans (d4.trans (d3.trans (d2.trans d1)))) (fun j u hu => ?_) ?_ (c5 ▸ hG5) (fun q hq => ?_) ⟨?_, fun t x hx => ?_⟩
  · by_cases hjk : j = k
    · subst hjk
      rw [hv] at hu; cases hu
      exact ⟨n, _, hn, up5 hv4, fun _ => rfl⟩
    · obtain ⟨n', ys, hn', ho', he'⟩ := hL j u hu
      exact ⟨n', ys, hn', up ho' fun q hq e => hap k j v u q (fun e => hjk e.symm) hv hu e hq, he'⟩
  · exact belE_new hbel bel05 fun x hx => hx.elim (fun h => .inl ⟨k, v, hv, h⟩) (fun h => .inr (hG0 x h))
  · rcases hGr5.ob hq with h | h
    · exact hG0 q h
    · omega
  · rw [List.length_append, hd.1]; rfl
  · have hlen := hd.1
    rcases Nat.lt_or_ge t Gs.length with ht | ht
    · rw [List.getElem?_append_left ht] at hx
      obtain ⟨m', hm', ho', hq'⟩ := hd.2 t x hx
      refine ⟨m', hm', up ho' fun q hq e => ?_, hq'⟩
      rcases hq' q hq with ⟨u, hu, huq⟩ | h
      · exact hap k (t / 2) v u q (by omega) hv hu e huq
      · have := hl0 k v q hv e; omega
    · rw [List.getElem?_append_right ht] at hx
      have htk : t / 2 = k := by
        have : t - Gs.length < 2 := (List.getElem?_eq_some_iff.1 hx).1
        omega
      rw [htk]
      rcases (show t - Gs.length = 0 ∨ t - Gs.length = 1 by have : t - Gs.length < 2 := (List.getElem?_eq_some_iff.1 hx).1; omega) with h | h
      · rw [h] at hx
        cases hx
        refine ⟨n + 5, by omega, up5 hg4, fun q hq => ?_⟩
        rcases hrel with ⟨a', c', h1, h2⟩ | hrel
        · cases h2
          exact .inl ⟨v, hv, by rw [h1, ← hq]; exact ob_len⟩
        · have := hrel q hq
          exact .inr (by omega)
      · rw [h] at hx
        cases hx
        refine ⟨n + 40, by omega, up5 hg24, fun q hq => ?_⟩
        rcases hGr.ob hq with h' | h'
        · exact .inl ⟨v, hv, h'⟩
        · exact .inr (by omega)
theorem ag_all {a : Act} {w : World} {R : Exit → Act → World → Prop} {b vlq vlc : Nat} {Lv : List Value} (hz : a.tmps.size = 162) (h0 : a.tmps.getD 0 undef = .pointer (some ⟨b, 0, none⟩)) (h5 : a.tmps.getD 5 undef = .slice none 0 0)
    (hx : Bx w b vlq vlc Lv) (hap : Apt Lv) (hnb : Nbk b vlq Lv) (hL : Lm w Lv Lv.length)
    (kk : ∀ (a' : Act) (w' : World) (vG : Value) (Gs : List Value), a'.tmps.size = 162 → a'.tmps.getD 0 undef = .pointer (some ⟨b, 0, none⟩) → a'.tmps.getD 5 undef = vG → a'.defers = a.defers → Lm w' Lv Lv.length → BelE w (fun x => ∃ (j : Nat) (v : Value), Lv[j]? = some v ∧ v.ownBlock = some x) w' → w'.ownsRow 0 22 1 vG (2 * Lv.length) Gs → (∀ q, vG.ownBlock = some q → w.heap.size ≤ q) → Gd w w' Lv Lv.length Gs → R .normal a' w') : (apS2 Try.f27).wp Try.prog R a w := by
  have hm := hx.m
  refine wp_seq_k fun K0 hK0 => ?_
  have hk0 := PLift.up hK0
  clear hK0
  have kkA := PLift.up kk
  clear kk
  refine wp_region_lit ?_
  go_wp2
  refine hk0.down _ _ ?_
  clear hk0
  refine wp_block ?_
  refine wp_loop (fun a' wr => ∃ (k : Nat) (vG : Value) (Gs : List Value), k ≤ Lv.length ∧ a'.tmps.size = 162 ∧ a'.tmps.getD 0 undef = .pointer (some ⟨b, 0, none⟩) ∧ a'.tmps.getD 5 undef = vG ∧ a'.tmps.getD 6 undef = .int .i64 (k : Int) ∧ a'.defers = a.defers ∧ Lm wr Lv Lv.length ∧ BelE w (fun x => ∃ (j : Nat) (v : Value), Lv[j]? = some v ∧ v.ownBlock = some x) wr ∧ wr.ownsRow 0 22 1 vG (2 * k) Gs ∧ (∀ q, vG.ownBlock = some q → w.heap.size ≤ q) ∧ Gd w wr Lv k Gs)
    (fun a' _ => Lv.length - (intOf (a'.tmps.getD 6 undef)).toNat) ?_ ?_
  · refine ⟨0, .slice none 0 0, [], Nat.zero_le _, by simp [hz], ?_, ?_, ?_, rfl, hL, BelE.refl _ _, World.ownsRow_nil _ _ _ _, fun q hq => (by cases hq), rfl, fun t x hx => (by simp at hx)⟩
    · dsimp only
      rw [gset_ne (by omega)]; exact h0
    · dsimp only
      rw [gset_ne (by omega)]; exact h5
    · dsimp only
      rw [gset_eq (by simp [hz])]; rfl
  · rintro a' wr ⟨k, vG, Gs, hk, hz, h0, h5, h6, hd, hLr, hbel, hG, hG0, hGd⟩
    have hxr : Bx wr b vlq vlc Lv := hx.keep hbel.size (hbel.block b hx.lb fun ⟨j, v, h1, h2⟩ => (hnb j v h1).1 h2) (hbel.block vlq hx.ll fun ⟨j, v, h1, h2⟩ => (hnb j v h1).2 h2)
    refine wp_seq ?_
    refine ak_cond hz h0 h6 hxr.c0 (by omega) (fun hlt a1 z1 s1 d1 => ?_) (fun hge a1 z1 s1 d1 => ?_)
    · have hklt : k < Lv.length := by omega
      refine wp_seq ?_
      refine wp_block ?_
      refine ag_round z1 ((s1 0 (by decide)).trans h0) ((s1 5 (by decide)).trans h5) ((s1 6 (by decide)).trans h6) hxr hklt hap hnb (fun j v q h1 h2 => hL.ow_lt h1 h2) hLr hbel hG hG0 hGd fun a2 w2 vG' Gs' z2 f0 f5 f6 d2 l2 bel2 G2 G02 Gd2 => ?_
      refine ak_step z2 f6 (by omega) fun a3 z3 s3 j3 d3 => ?_
      refine ⟨⟨k + 1, vG', Gs', hklt, z3, (s3 0 (by decide) (by decide)).trans f0, (s3 5 (by decide) (by decide)).trans f5, by rw [j3]; rfl, d3.trans (d2.trans (d1.trans hd)), l2, bel2, G2, G02, Gd2⟩, ?_⟩
      rw [j3, h6]
      simp only [intOf]; omega
    · obtain rfl : k = Lv.length := by omega
      exact kkA.down _ _ vG Gs z1 ((s1 0 (by decide)).trans h0) ((s1 5 (by decide)).trans h5) (d1.trans hd) hLr hbel hG hG0 hGd
end Go.Proofs.Ytdaedplbhpiacaa
namespace Go.Proofs.Ytdaedplbhpiacaa
open Go Go.RowKit Go.Proofs Ab
set_option linter.unusedSimpArgs false
set_option linter.unusedVariables false
set_option maxHeartbeats 10000000
set_option maxHeartbeats 4000000
set_option maxRecDepth 2000000
def apS3 (f : Func) : Code := q1 (qd 3 (q2 (qf f)))
def apB3 (f : Func) : Code := ql (qb (q2 (apS3 f)))
def apC3 (f : Func) : Code := ql (qb (q2 (qb (q1 (q2 (apB3 f))))))
theorem l3_cond {a : Act} {w : World} {R : Exit → Act → World → Prop} {m gc t : Nat} {ga : Option Addr} (hz : a.tmps.size = 162) (h5 : a.tmps.getD 5 undef = .slice ga m gc) (h11 : a.tmps.getD 11 undef = .int .i64 (t : Int)) (hm : m ≤ 1000000)
    (kt : (t : Int) < (m : Int) → ∀ a' : Act, a'.tmps.size = 162 → (∀ t, t < 48 → a'.tmps.getD t undef = a.tmps.getD t undef) → a'.defers = a.defers → R .normal a' w)
    (kf : ¬ (t : Int) < (m : Int) → ∀ a' : Act, a'.tmps.size = 162 → (∀ t, t < 48 → a'.tmps.getD t undef = a.tmps.getD t undef) → a'.defers = a.defers → R (.exit 10) a' w) : (q1 (apB3 Try.f27)).wp Try.prog R a w := by
  have g5 := gI hz h5 (by decide)
  have g11 := gI hz h11 (by decide)
  have hA := PLift.up (And.intro kt kf)
  clear kt kf
  by_cases hi : (t : Int) < (m : Int)
  · refine wp_seq_k fun K0 hK0 => ?_
    have hk0 := PLift.up hK0
    clear hK0
    refine wp_region_lit ?_
    go_wp2
    refine hk0.down _ _ ?_
    refine wp_cond_true (by rw [eval_tmp]; dsimp only; rw [gset_eq (by simp [hz])]) ?_
    go_wp2
    refine hA.down.1 hi _ (by simp [hz]) (fun t ht => ?_) rfl
    dsimp only
    rw [gset_ne (by omega), gset_ne (by omega), gset_ne (by omega), gset_ne (by omega)]
  · refine wp_seq_k fun K0 hK0 => ?_
    have hk0 := PLift.up hK0
    clear hK0
    refine wp_region_lit ?_
    go_wp2
    refine hk0.down _ _ ?_
    refine wp_cond_false (by rw [eval_tmp]; dsimp only; rw [gset_eq (by simp [hz])]) ?_
    go_wp2
    refine hA.down.2 (by omega) _ (by simp [hz]) (fun t ht => ?_) rfl
    dsimp only
    rw [gset_ne (by omega), gset_ne (by omega), gset_ne (by omega), gset_ne (by omega)]
theorem l3_step {a : Act} {w : World} {R : Exit → Act → World → Prop} {t : Nat} (hz : a.tmps.size = 162) (h11 : a.tmps.getD 11 undef = .int .i64 (t : Int)) (ht : t ≤ 1000000)
    (kk : ∀ a' : Act, a'.tmps.size = 162 → (∀ t, t < 48 → t ≠ 11 → a'.tmps.getD t undef = a.tmps.getD t undef) → a'.tmps.getD 11 undef = .int .i64 ((t : Int) + 1) → a'.defers = a.defers → R .normal a' w) : (q2 (q2 (apB3 Try.f27))).wp Try.prog R a w := by
  have g11 := gI hz h11 (by decide)
  have kkA := PLift.up kk
  clear kk
  refine wp_region_lit ?_
  go_wp2
  refine kkA.down _ (by simp [hz]) (fun t ht hne => ?_) ?_ rfl
  · dsimp only
    rw [gset_ne (by omega), gset_ne (by omega), gset_ne (by omega)]
  · dsimp only
    rw [gset_eq (by simp [hz])]
theorem c3_cond {a : Act} {w : World} {R : Exit → Act → World → Prop} {m gc t i r rc gq : Nat} {ra : Option Addr} (hz : a.tmps.size = 162) (h5 : a.tmps.getD 5 undef = .slice (some ⟨gq, 0, none⟩) m gc) (h11 : a.tmps.getD 11 undef = .int .i64 (t : Int)) (h12 : a.tmps.getD 12 undef = .int .i64 (i : Int)) (hm : m ≤ 1000000) (ht : (t : Int) < (m : Int)) (hc : w.cell? ⟨gq, t, none⟩ = some (.slice ra r rc)) (hr : r ≤ 1000000000000)
    (kt : (i : Int) < (r : Int) → ∀ a' : Act, a'.tmps.size = 162 → (∀ t, t < 48 → a'.tmps.getD t undef = a.tmps.getD t undef) → a'.defers = a.defers → R .normal a' w)
    (kf : ¬ (i : Int) < (r : Int) → ∀ a' : Act, a'.tmps.size = 162 → (∀ t, t < 48 → a'.tmps.getD t undef = a.tmps.getD t undef) → a'.defers = a.defers → R (.exit 12) a' w) : (q1 (apC3 Try.f27)).wp Try.prog R a w := by
  have g5 := gI hz h5 (by decide)
  have g11 := gI hz h11 (by decide)
  have g12 := gI hz h12 (by decide)
  have hA := PLift.up (And.intro kt kf)
  clear kt kf
  by_cases hi : (i : Int) < (r : Int)
  · refine wp_seq_k fun K0 hK0 => ?_
    have hk0 := PLift.up hK0
    clear hK0
    refine wp_region_lit ?_
    go_wp2
    refine hk0.down _ _ ?_
    refine wp_cond_true (by rw [eval_tmp]; dsimp only; rw [gset_eq (by simp [hz])]) ?_
    go_wp2
    refine hA.down.1 hi _ (by simp [hz]) (fun t ht => ?_) rfl
    dsimp only
    rw [gset_ne (by omega), gset_ne (by omega), gset_ne (by omega), gset_ne (by omega), gset_ne (by omega), gset_ne (by omega), gset_ne (by omega)]
  · refine wp_seq_k fun K0 hK0 => ?_
    have hk0 := PLift.up hK0
    clear hK0
    refine wp_region_lit ?_
    go_wp2
    refine hk0.down _ _ ?_
    refine wp_cond_false (by rw [eval_tmp]; dsimp only; rw [gset_eq (by simp [hz])]) ?_
    go_wp2
    refine hA.down.2 (by omega) _ (by simp [hz]) (fun t ht => ?_) rfl
    dsimp only
    rw [gset_ne (by omega), gset_ne (by omega), gset_ne (by omega), gset_ne (by omega), gset_ne (by omega), gset_ne (by omega), gset_ne (by omega)]
theorem c3_step {a : Act} {w : World} {R : Exit → Act → World → Prop} {i : Nat} (hz : a.tmps.size = 162) (h12 : a.tmps.getD 12 undef = .int .i64 (i : Int)) (hi : i ≤ 1000000000000)
    (kk : ∀ a' : Act, a'.tmps.size = 162 → (∀ t, t < 48 → t ≠ 12 → a'.tmps.getD t undef = a.tmps.getD t undef) → a'.tmps.getD 12 undef = .int .i64 ((i : Int) + 1) → a'.defers = a.defers → R .normal a' w) : (q2 (q2 (apC3 Try.f27))).wp Try.prog R a w := by
  have g12 := gI hz h12 (by decide)
  have kkA := PLift.up kk
  clear kk
  refine wp_region_lit ?_
  go_wp2
  refine kkA.down _ (by simp [hz]) (fun t ht hne => ?_) ?_ rfl
  · dsimp only
    rw [gset_ne (by omega), gset_ne (by omega), gset_ne (by omega)]
  · dsimp only
    rw [gset_eq (by simp [hz])]
theorem c3_look {a : Act} {w : World} {R : Exit → Act → World → Prop} {m gc t i r rc gq rq : Nat} (hz : a.tmps.size = 162) (h5 : a.tmps.getD 5 undef = .slice (some ⟨gq, 0, none⟩) m gc) (h11 : a.tmps.getD 11 undef = .int .i64 (t : Int)) (h12 : a.tmps.getD 12 undef = .int .i64 (i : Int)) (hm : m ≤ 1000000) (ht : (t : Int) < (m : Int)) (hc : w.cell? ⟨gq, t, none⟩ = some (.slice (some ⟨rq, 0, none⟩) r rc)) (hr : r ≤ 1000000000000) (hi : (i : Int) < (r : Int)) (hx : w.cell? ⟨rq, i, none⟩ = some (mark (t / 2)))
    (kk : ∀ a' : Act, a'.tmps.size = 162 → (∀ t, t < 48 → a'.tmps.getD t undef = a.tmps.getD t undef) → a'.defers = a.defers → R .normal a' w) : (qb (q1 (q2 (apC3 Try.f27)))).wp Try.prog R a w := by
  have g5 := gI hz h5 (by decide)
  have g11 := gI hz h11 (by decide)
  have g12 := gI hz h12 (by decide)
  have hw := wrap_mark (t / 2) (by omega)
  unfold mark at hx
  have hq : (t : Int).tdiv 2 = ((t / 2 : Nat) : Int) := by rw [Int.tdiv_eq_ediv_of_nonneg (by omega)]; omega
  have kkA := PLift.up kk
  clear kk
  refine wp_seq_k fun K0 hK0 => ?_
  have hk0 := PLift.up hK0
  clear hK0
  refine wp_region_lit ?_
  go_wp2
  refine hk0.down _ _ ?_
  refine wp_cond_false (by rw [eval_tmp]; dsimp only; rw [gset_eq (by simp [hz])]) ?_
  go_wp2
  refine kkA.down _ (by simp [hz]) (fun t ht => ?_) rfl
  dsimp only
  rw [gset_ne (by omega), gset_ne (by omega), gset_ne (by omega), gset_ne (by omega), gset_ne (by omega), gset_ne (by omega), gset_ne (by omega), gset_ne (by omega), gset_ne (by omega), gset_ne (by omega), gset_ne (by omega), gset_ne (by omega)]
theorem l3_inner {a : Act} {w : World} {R : Exit → Act → World → Prop} {m gc t r gq : Nat} {x : Value} (hz : a.tmps.size = 162) (h5 : a.tmps.getD 5 undef = .slice (some ⟨gq, 0, none⟩) m gc) (h11 : a.tmps.getD 11 undef = .int .i64 (t : Int)) (hm : m ≤ 1000000) (ht : (t : Int) < (m : Int)) (hc : w.cell? ⟨gq, t, none⟩ = some x) (ho : w.ownsRow 0 24 1 x r (List.replicate r (mark (t / 2)))) (hr : r ≤ 1000000000000)
    (kk : ∀ a' : Act, a'.tmps.size = 162 → (∀ t, t < 48 → t ≠ 12 → a'.tmps.getD t undef = a.tmps.getD t undef) → a'.defers = a.defers → R .normal a' w) : (q1 (q2 (apB3 Try.f27))).wp Try.prog R a w := by
  obtain ⟨ra, rc, hra⟩ := ow_shape ho
  refine wp_block ?_
  refine wp_seq_k fun K0 hK0 => ?_
  have hk0 := PLift.up hK0
  clear hK0
  have kkA := PLift.up kk
  clear kk
  refine wp_region_lit ?_
  go_wp2
  refine hk0.down _ _ ?_
  clear hk0
  refine wp_block ?_
  refine wp_loop (fun a' wr => ∃ i : Nat, wr = w ∧ i ≤ r ∧ a'.tmps.size = 162 ∧ (∀ t, t < 48 → t ≠ 12 → a'.tmps.getD t undef = a.tmps.getD t undef) ∧ a'.tmps.getD 12 undef = .int .i64 (i : Int) ∧ a'.defers = a.defers)
    (fun a' _ => r - (intOf (a'.tmps.getD 12 undef)).toNat) ?_ ?_
  · refine ⟨0, rfl, Nat.zero_le _, by simp [hz], fun t ht hne => ?_, ?_, rfl⟩
    · dsimp only
      rw [gset_ne (by omega)]
    · dsimp only
      rw [gset_eq (by simp [hz])]; rfl
  · rintro a' wr ⟨i, rfl, hi, hz, hs, h12, hd⟩
    refine wp_seq ?_
    have h5' := (hs 5 (by decide) (by decide)).trans h5
    have h11' := (hs 11 (by decide) (by decide)).trans h11
    have hc' := hc
    rw [hra] at hc'
    refine c3_cond hz h5' h11' h12 hm ht hc' hr (fun hlt a1 z1 s1 d1 => ?_) (fun hge a1 z1 s1 d1 => ?_)
    · have hilt : i < r := by omega
      obtain ⟨q, c', hq⟩ := row_addr ho (by omega : 0 < r)
      rw [hq] at hra
      cases hra
      subst hq
      have hcell := ho.cellAt i (by omega)
      rw [List.getElem?_replicate, if_pos hilt] at hcell
      refine wp_seq ?_
      refine wp_block ?_
      refine c3_look z1 ((s1 5 (by decide)).trans h5') ((s1 11 (by decide)).trans h11') ((s1 12 (by decide)).trans h12) hm ht hc' hr hlt hcell fun a2 z2 s2 d2 => ?_
      refine c3_step z2 ((s2 12 (by decide)).trans ((s1 12 (by decide)).trans h12)) (by omega) fun a3 z3 s3 j3 d3 => ?_
      refine ⟨⟨i + 1, rfl, hilt, z3, fun t ht hne => (s3 t ht hne).trans ((s2 t ht).trans ((s1 t ht).trans (hs t ht hne))), by rw [j3]; rfl, d3.trans (d2.trans (d1.trans hd))⟩, ?_⟩
      rw [j3, h12]
      simp only [intOf]; omega
    · exact kkA.down _ z1 (fun t ht hne => (s1 t ht).trans (hs t ht hne)) (d1.trans hd)
theorem l3_loop {a : Act} {w : World} {R : Exit → Act → World → Prop} {m : Nat} {vG : Value} {Gs : List Value} (hz : a.tmps.size = 162) (h5 : a.tmps.getD 5 undef = vG) (hG : w.ownsRow 0 22 1 vG m Gs) (hm : m ≤ 1000000) (hd : ∀ (t : Nat) (x : Value), Gs[t]? = some x → ∃ r : Nat, r ≤ 2000000000 ∧ w.ownsRow 0 24 1 x r (List.replicate r (mark (t / 2))))
    (kk : ∀ a' : Act, a'.tmps.size = 162 → a'.tmps.getD 0 undef = a.tmps.getD 0 undef → a'.defers = a.defers → R .normal a' w) : (apS3 Try.f27).wp Try.prog R a w := by
  have hlen : Gs.length = m := by rw [hG.1]; omega
  refine wp_seq_k fun K0 hK0 => ?_
  have hk0 := PLift.up hK0
  clear hK0
  have kkA := PLift.up kk
  clear kk
  refine wp_region_lit ?_
  go_wp2
  refine hk0.down _ _ ?_
  clear hk0
  refine wp_block ?_
  obtain ⟨ga, gc, hga⟩ := ow_shape hG
  refine wp_loop (fun a' wr => ∃ t : Nat, wr = w ∧ t ≤ m ∧ a'.tmps.size = 162 ∧ a'.tmps.getD 0 undef = a.tmps.getD 0 undef ∧ a'.tmps.getD 5 undef = vG ∧ a'.tmps.getD 11 undef = .int .i64 (t : Int) ∧ a'.defers = a.defers)
    (fun a' _ => m - (intOf (a'.tmps.getD 11 undef)).toNat) ?_ ?_
  · refine ⟨0, rfl, Nat.zero_le _, by simp [hz], ?_, ?_, ?_, rfl⟩
    · dsimp only
      rw [gset_ne (by omega)]
    · dsimp only
      rw [gset_ne (by omega)]; exact h5
    · dsimp only
      rw [gset_eq (by simp [hz])]; rfl
  · rintro a' wr ⟨t, rfl, ht, hz, h0, h5, h11, hde⟩
    refine wp_seq ?_
    refine l3_cond hz (h5.trans hga) h11 hm (fun hlt a1 z1 s1 d1 => ?_) (fun hge a1 z1 s1 d1 => ?_)
    · have htm : t < m := by omega
      obtain ⟨gq, gc', hq⟩ := row_addr hG (by omega : 0 < m)
      rw [hq] at hga
      cases hga
      subst hq
      have hcell := hG.cellAt t (by omega)
      rw [List.getElem?_eq_getElem (by omega)] at hcell
      obtain ⟨r, hr, hro⟩ := hd t _ (List.getElem?_eq_getElem (by omega))
      refine wp_seq ?_
      refine l3_inner z1 ((s1 5 (by decide)).trans h5) ((s1 11 (by decide)).trans h11) hm hlt hcell hro (by omega) fun a2 z2 s2 d2 => ?_
      refine l3_step z2 ((s2 11 (by decide) (by decide)).trans ((s1 11 (by decide)).trans h11)) (by omega) fun a3 z3 s3 j3 d3 => ?_
      refine ⟨⟨t + 1, rfl, htm, z3, (s3 0 (by decide) (by decide)).trans ((s2 0 (by decide) (by decide)).trans ((s1 0 (by decide)).trans h0)), (s3 5 (by decide) (by decide)).trans ((s2 5 (by decide) (by decide)).trans ((s1 5 (by decide)).trans h5)), by rw [j3]; rfl, d3.trans (d2.trans (d1.trans hde))⟩, ?_⟩
      rw [j3, h11]
      simp only [intOf]; omega
    · exact kkA.down _ z1 ((s1 0 (by decide)).trans h0) (d1.trans hde)
end Go.Proofs.Ytdaedplbhpiacaa
namespace Go.Proofs.Ytdaedplbhpiacaa
open Go Go.RowKit Go.Proofs Ab
set_option linter.unusedSimpArgs false
set_option linter.unusedVariables false
set_option maxHeartbeats 10000000
set_option maxHeartbeats 4000000
set_option maxRecDepth 2000000
def apS4 (f : Func) : Code := q1 (qd 4 (q2 (qf f)))
def apB4 (f : Func) : Code := ql (qb (q2 (apS4 f)))
def apC4 (f : Func) : Code := ql (qb (q2 (qb (q1 (q2 (apB4 f))))))
theorem l4_cond {a : Act} {w : World} {R : Exit → Act → World → Prop} {b vlq m vlc k : Nat} (hz : a.tmps.size = 162) (h0 : a.tmps.getD 0 undef = .pointer (some ⟨b, 0, none⟩)) (h13 : a.tmps.getD 13 undef = .int .i64 (k : Int)) (hb0 : w.cell? ⟨b, 0, none⟩ = some (.slice (some ⟨vlq, 0, none⟩) m vlc)) (hm : m ≤ 1000000)
    (kt : (k : Int) < (m : Int) → ∀ a' : Act, a'.tmps.size = 162 → (∀ t, t < 48 → a'.tmps.getD t undef = a.tmps.getD t undef) → a'.defers = a.defers → R .normal a' w)
    (kf : ¬ (k : Int) < (m : Int) → ∀ a' : Act, a'.tmps.size = 162 → (∀ t, t < 48 → a'.tmps.getD t undef = a.tmps.getD t undef) → a'.defers = a.defers → R (.exit 14) a' w) : (q1 (apB4 Try.f27)).wp Try.prog R a w := by
  have g0 := gI hz h0 (by decide)
  have g13 := gI hz h13 (by decide)
  have hA := PLift.up (And.intro kt kf)
  clear kt kf
  by_cases hi : (k : Int) < (m : Int)
  · refine wp_seq_k fun K0 hK0 => ?_
    have hk0 := PLift.up hK0
    clear hK0
    refine wp_region_lit ?_
    go_wp2
    refine hk0.down _ _ ?_
    refine wp_cond_true (by rw [eval_tmp]; dsimp only; rw [gset_eq (by simp [hz])]) ?_
    go_wp2
    refine hA.down.1 hi _ (by simp [hz]) (fun t ht => ?_) rfl
    dsimp only
    rw [gset_ne (by omega), gset_ne (by omega), gset_ne (by omega), gset_ne (by omega), gset_ne (by omega), gset_ne (by omega), gset_ne (by omega)]
  · refine wp_seq_k fun K0 hK0 => ?_
    have hk0 := PLift.up hK0
    clear hK0
    refine wp_region_lit ?_
    go_wp2
    refine hk0.down _ _ ?_
    refine wp_cond_false (by rw [eval_tmp]; dsimp only; rw [gset_eq (by simp [hz])]) ?_
    go_wp2
    refine hA.down.2 (by omega) _ (by simp [hz]) (fun t ht => ?_) rfl
    dsimp only
    rw [gset_ne (by omega), gset_ne (by omega), gset_ne (by omega), gset_ne (by omega), gset_ne (by omega), gset_ne (by omega), gset_ne (by omega)]
theorem l4_step {a : Act} {w : World} {R : Exit → Act → World → Prop} {i : Nat} (hz : a.tmps.size = 162) (h : a.tmps.getD 13 undef = .int .i64 (i : Int)) (hi : i ≤ 1000000)
    (kk : ∀ a' : Act, a'.tmps.size = 162 → (∀ t, t < 48 → t ≠ 13 → a'.tmps.getD t undef = a.tmps.getD t undef) → a'.tmps.getD 13 undef = .int .i64 ((i : Int) + 1) → a'.defers = a.defers → R .normal a' w) : (q2 (q2 (apB4 Try.f27))).wp Try.prog R a w := by
  have g := gI hz h (by decide)
  have kkA := PLift.up kk
  clear kk
  refine wp_region_lit ?_
  go_wp2
  refine kkA.down _ (by simp [hz]) (fun t ht hne => ?_) ?_ rfl
  · dsimp only
    rw [gset_ne (by omega), gset_ne (by omega), gset_ne (by omega)]
  · dsimp only
    rw [gset_eq (by simp [hz])]
theorem c4_cond {a : Act} {w : World} {R : Exit → Act → World → Prop} {b vlq m vlc k i r rc : Nat} {ra : Option Addr} (hz : a.tmps.size = 162) (h0 : a.tmps.getD 0 undef = .pointer (some ⟨b, 0, none⟩)) (h13 : a.tmps.getD 13 undef = .int .i64 (k : Int)) (h14 : a.tmps.getD 14 undef = .int .i64 (i : Int)) (hb0 : w.cell? ⟨b, 0, none⟩ = some (.slice (some ⟨vlq, 0, none⟩) m vlc)) (hm : m ≤ 1000000) (hk : (k : Int) < (m : Int)) (hc : w.cell? ⟨vlq, k, none⟩ = some (.slice ra r rc)) (hr : r ≤ 1000000000000)
    (kt : (i : Int) < (r : Int) → ∀ a' : Act, a'.tmps.size = 162 → (∀ t, t < 48 → a'.tmps.getD t undef = a.tmps.getD t undef) → a'.defers = a.defers → R .normal a' w)
    (kf : ¬ (i : Int) < (r : Int) → ∀ a' : Act, a'.tmps.size = 162 → (∀ t, t < 48 → a'.tmps.getD t undef = a.tmps.getD t undef) → a'.defers = a.defers → R (.exit 16) a' w) : (q1 (apC4 Try.f27)).wp Try.prog R a w := by
  have g0 := gI hz h0 (by decide)
  have g13 := gI hz h13 (by decide)
  have g14 := gI hz h14 (by decide)
  have hA := PLift.up (And.intro kt kf)
  clear kt kf
  by_cases hi : (i : Int) < (r : Int)
  · refine wp_seq_k fun K0 hK0 => ?_
    have hk0 := PLift.up hK0
    clear hK0
    refine wp_region_lit ?_
    go_wp2
    refine hk0.down _ _ ?_
    refine wp_cond_true (by rw [eval_tmp]; dsimp only; rw [gset_eq (by simp [hz])]) ?_
    go_wp2
    refine hA.down.1 hi _ (by simp [hz]) (fun t ht => ?_) rfl
    dsimp only
    rw [gset_ne (by omega), gset_ne (by omega), gset_ne (by omega), gset_ne (by omega), gset_ne (by omega), gset_ne (by omega), gset_ne (by omega), gset_ne (by omega), gset_ne (by omega), gset_ne (by omega)]
  · refine wp_seq_k fun K0 hK0 => ?_
    have hk0 := PLift.up hK0
    clear hK0
    refine wp_region_lit ?_
    go_wp2
    refine hk0.down _ _ ?_
    refine wp_cond_false (by rw [eval_tmp]; dsimp only; rw [gset_eq (by simp [hz])]) ?_
    go_wp2
    refine hA.down.2 (by omega) _ (by simp [hz]) (fun t ht => ?_) rfl
    dsimp only
    rw [gset_ne (by omega), gset_ne (by omega), gset_ne (by omega), gset_ne (by omega), gset_ne (by omega), gset_ne (by omega), gset_ne (by omega), gset_ne (by omega), gset_ne (by omega), gset_ne (by omega)]
theorem c4_step {a : Act} {w : World} {R : Exit → Act → World → Prop} {i : Nat} (hz : a.tmps.size = 162) (h : a.tmps.getD 14 undef = .int .i64 (i : Int)) (hi : i ≤ 1000000000000)
    (kk : ∀ a' : Act, a'.tmps.size = 162 → (∀ t, t < 48 → t ≠ 14 → a'.tmps.getD t undef = a.tmps.getD t undef) → a'.tmps.getD 14 undef = .int .i64 ((i : Int) + 1) → a'.defers = a.defers → R .normal a' w) : (q2 (q2 (apC4 Try.f27))).wp Try.prog R a w := by
  have g := gI hz h (by decide)
  have kkA := PLift.up kk
  clear kk
  refine wp_region_lit ?_
  go_wp2
  refine kkA.down _ (by simp [hz]) (fun t ht hne => ?_) ?_ rfl
  · dsimp only
    rw [gset_ne (by omega), gset_ne (by omega), gset_ne (by omega)]
  · dsimp only
    rw [gset_eq (by simp [hz])]
theorem c4_look {a : Act} {w : World} {R : Exit → Act → World → Prop} {b vlq m vlc k i r rc rq : Nat} (hz : a.tmps.size = 162) (h0 : a.tmps.getD 0 undef = .pointer (some ⟨b, 0, none⟩)) (h13 : a.tmps.getD 13 undef = .int .i64 (k : Int)) (h14 : a.tmps.getD 14 undef = .int .i64 (i : Int)) (hb0 : w.cell? ⟨b, 0, none⟩ = some (.slice (some ⟨vlq, 0, none⟩) m vlc)) (hm : m ≤ 1000000) (hk : (k : Int) < (m : Int)) (hc : w.cell? ⟨vlq, k, none⟩ = some (.slice (some ⟨rq, 0, none⟩) r rc)) (hr : r ≤ 1000000000000) (hi : (i : Int) < (r : Int)) (hx : w.cell? ⟨rq, i, none⟩ = some (mark k))
    (kk : ∀ a' : Act, a'.tmps.size = 162 → (∀ t, t < 48 → a'.tmps.getD t undef = a.tmps.getD t undef) → a'.defers = a.defers → R .normal a' w) : (qb (q1 (q2 (apC4 Try.f27)))).wp Try.prog R a w := by
  have g0 := gI hz h0 (by decide)
  have g13 := gI hz h13 (by decide)
  have g14 := gI hz h14 (by decide)
  have hw := wrap_mark k (by omega)
  unfold mark at hx
  have kkA := PLift.up kk
  clear kk
  refine wp_seq_k fun K0 hK0 => ?_
  have hk0 := PLift.up hK0
  clear hK0
  refine wp_region_lit ?_
  go_wp2
  refine hk0.down _ _ ?_
  refine wp_cond_false (by rw [eval_tmp]; dsimp only; rw [gset_eq (by simp [hz])]) ?_
  go_wp2
  refine kkA.down _ (by simp [hz]) (fun t ht => ?_) rfl
  dsimp only
  rw [gset_ne (by omega), gset_ne (by omega), gset_ne (by omega), gset_ne (by omega), gset_ne (by omega), gset_ne (by omega), gset_ne (by omega), gset_ne (by omega), gset_ne (by omega), gset_ne (by omega), gset_ne (by omega), gset_ne (by omega), gset_ne (by omega), gset_ne (by omega)]
theorem l4_inner {a : Act} {w : World} {R : Exit → Act → World → Prop} {b vlq vlc k n : Nat} {v : Value} {Lv : List Value} (hz : a.tmps.size = 162) (h0 : a.tmps.getD 0 undef = .pointer (some ⟨b, 0, none⟩)) (h13 : a.tmps.getD 13 undef = .int .i64 (k : Int))
    (hx : Bx w b vlq vlc Lv) (hv : Lv[k]? = some v) (ho : w.ownsRow 0 24 1 v n (List.replicate n (mark k))) (hn : n ≤ 1000000000)
    (kk : ∀ a' : Act, a'.tmps.size = 162 → (∀ t, t < 48 → t ≠ 14 → a'.tmps.getD t undef = a.tmps.getD t undef) → a'.defers = a.defers → R .normal a' w) : (q1 (q2 (apB4 Try.f27))).wp Try.prog R a w := by
  have hkm : k < Lv.length := (List.getElem?_eq_some_iff.1 hv).1
  have hm := hx.m
  obtain ⟨va, vc, hva⟩ := ow_shape ho
  have hcl := hx.cl k v hv
  refine wp_block ?_
  refine wp_seq_k fun K0 hK0 => ?_
  have hk0 := PLift.up hK0
  clear hK0
  have kkA := PLift.up kk
  clear kk
  refine wp_region_lit ?_
  go_wp2
  refine hk0.down _ _ ?_
  clear hk0
  refine wp_block ?_
  refine wp_loop (fun a' wr => ∃ i : Nat, wr = w ∧ i ≤ n ∧ a'.tmps.size = 162 ∧ (∀ t, t < 48 → t ≠ 14 → a'.tmps.getD t undef = a.tmps.getD t undef) ∧ a'.tmps.getD 14 undef = .int .i64 (i : Int) ∧ a'.defers = a.defers)
    (fun a' _ => n - (intOf (a'.tmps.getD 14 undef)).toNat) ?_ ?_
  · refine ⟨0, rfl, Nat.zero_le _, by simp [hz], fun t ht hne => ?_, ?_, rfl⟩
    · dsimp only
      rw [gset_ne (by omega)]
    · dsimp only
      rw [gset_eq (by simp [hz])]; rfl
  · rintro a' wr ⟨i, rfl, hi, hz, hs, h14, hd⟩
    refine wp_seq ?_
    have h0' := (hs 0 (by decide) (by decide)).trans h0
    have h13' := (hs 13 (by decide) (by decide)).trans h13
    have hc' := hcl
    rw [hva] at hc'
    refine c4_cond hz h0' h13' h14 hx.c0 (by omega) (by omega) hc' (by omega) (fun hlt a1 z1 s1 d1 => ?_) (fun hge a1 z1 s1 d1 => ?_)
    · have hilt : i < n := by omega
      obtain ⟨q, c', hq⟩ := row_addr ho (by omega : 0 < n)
      rw [hq] at hva
      cases hva
      subst hq
      have hcell := ho.cellAt i (by omega)
      rw [List.getElem?_replicate, if_pos hilt] at hcell
      refine wp_seq ?_
      refine wp_block ?_
      refine c4_look z1 ((s1 0 (by decide)).trans h0') ((s1 13 (by decide)).trans h13') ((s1 14 (by decide)).trans h14) hx.c0 (by omega) (by omega) hc' (by omega) hlt hcell fun a2 z2 s2 d2 => ?_
      refine c4_step z2 ((s2 14 (by decide)).trans ((s1 14 (by decide)).trans h14)) (by omega) fun a3 z3 s3 j3 d3 => ?_
      refine ⟨⟨i + 1, rfl, hilt, z3, fun t ht hne => (s3 t ht hne).trans ((s2 t ht).trans ((s1 t ht).trans (hs t ht hne))), by rw [j3]; rfl, d3.trans (d2.trans (d1.trans hd))⟩, ?_⟩
      rw [j3, h14]
      simp only [intOf]; omega
    · exact kkA.down _ z1 (fun t ht hne => (s1 t ht).trans (hs t ht hne)) (d1.trans hd)
theorem l4_loop {a : Act} {w : World} {R : Exit → Act → World → Prop} {b vlq vlc : Nat} {Lv : List Value} (hz : a.tmps.size = 162) (h0 : a.tmps.getD 0 undef = .pointer (some ⟨b, 0, none⟩)) (hx : Bx w b vlq vlc Lv) (hL : Lm w Lv Lv.length)
    (kk : ∀ a' : Act, a'.tmps.size = 162 → a'.defers = a.defers → R .normal a' w) : (apS4 Try.f27).wp Try.prog R a w := by
  have hm := hx.m
  refine wp_seq_k fun K0 hK0 => ?_
  have hk0 := PLift.up hK0
  clear hK0
  have kkA := PLift.up kk
  clear kk
  refine wp_region_lit ?_
  go_wp2
  refine hk0.down _ _ ?_
  clear hk0
  refine wp_block ?_
  refine wp_loop (fun a' wr => ∃ k : Nat, wr = w ∧ k ≤ Lv.length ∧ a'.tmps.size = 162 ∧ a'.tmps.getD 0 undef = .pointer (some ⟨b, 0, none⟩) ∧ a'.tmps.getD 13 undef = .int .i64 (k : Int) ∧ a'.defers = a.defers)
    (fun a' _ => Lv.length - (intOf (a'.tmps.getD 13 undef)).toNat) ?_ ?_
  · refine ⟨0, rfl, Nat.zero_le _, by simp [hz], ?_, ?_, rfl⟩
    · dsimp only
      rw [gset_ne (by omega)]; exact h0
    · dsimp only
      rw [gset_eq (by simp [hz])]; rfl
  · rintro a' wr ⟨k, rfl, hk, hz, h0, h13, hd⟩
    refine wp_seq ?_
    refine l4_cond hz h0 h13 hx.c0 (by omega) (fun hlt a1 z1 s1 d1 => ?_) (fun hge a1 z1 s1 d1 => ?_)
    · have hklt : k < Lv.length := by omega
      have hv : Lv[k]? = some Lv[k] := List.getElem?_eq_getElem hklt
      generalize Lv[k] = v at hv
      obtain ⟨n, xs, hn, ho, hxs⟩ := hL k v hv
      obtain rfl := hxs hklt
      refine wp_seq ?_
      refine l4_inner z1 ((s1 0 (by decide)).trans h0) ((s1 13 (by decide)).trans h13) hx hv ho hn fun a2 z2 s2 d2 => ?_
      refine l4_step z2 ((s2 13 (by decide) (by decide)).trans ((s1 13 (by decide)).trans h13)) (by omega) fun a3 z3 s3 j3 d3 => ?_
      refine ⟨⟨k + 1, rfl, hklt, z3, (s3 0 (by decide) (by decide)).trans ((s2 0 (by decide) (by decide)).trans ((s1 0 (by decide)).trans h0)), by rw [j3]; rfl, d3.trans (d2.trans (d1.trans hd))⟩, ?_⟩
      rw [j3, h13]
      simp only [intOf]; omega
    · exact kkA.down _ z1 (d1.trans hd)
theorem apart_raw {w : World} {b : Nat} {vl vf vu : Value} {Lv Fv Uv : List Value} (hb : Bn w b vl vf vu Lv Fv Uv) (hpos : 0 < Lv.length) (hm : Lv.length ≤ 1000) (hap : Apt Lv)
    (hL : ∀ (j : Nat) (v : Value), Lv[j]? = some v → ∃ (n : Nat) (xs : List Value), n ≤ 1000000000 ∧ w.ownsRow 0 24 1 v n xs) :
    Calls Try.prog 27 #[.pointer (some ⟨b, 0, none⟩)] w (fun e w' => e = .returned (.bool true) ∧ BelE w (fun x => ∃ (j : Nat) (v : Value), Lv[j]? = some v ∧ v.ownBlock = some x) w') := by
  obtain ⟨vlq, vlc, rfl⟩ := row_addr hb.rl hpos
  obtain ⟨bcap, hbox⟩ := hb.box
  have hb0 := hbox.cellAt 0 (by decide)
  rw [List.getElem?_cons_zero] at hb0
  have hx : Bx w b vlq vlc Lv := ⟨hb0, fun j v hj => by
    have := (List.getElem?_eq_some_iff.1 hj).1
    rw [hb.rl.cellAt j (by omega)]; exact hj, hb.lt b (.inl rfl), hb.lt vlq (.inr (.inl rfl)), hm⟩
  have hnb : Nbk b vlq Lv := fun j v hj => by
    obtain ⟨n, xs, _, ho⟩ := hL j v hj
    exact ⟨ow_ne hbox ho (by decide) rfl, ow_ne hb.rl ho (by decide) rfl⟩
  have hL0 : Lm w Lv 0 := fun j v hj => by
    obtain ⟨n, xs, hn, ho⟩ := hL j v hj
    exact ⟨n, xs, hn, ho, fun h => absurd h (Nat.not_lt_zero _)⟩
  clear hb hbox hb0 hL
  refine calls_at (vs := [.pointer (some ⟨b, 0, none⟩)]) Try.func27 (c := qf Try.f27) rfl (by show 1 ≤ _; decide) fun a0 z0 e0 d0 => ?_
  have e0 : a0.tmps.getD 0 undef = .pointer (some ⟨b, 0, none⟩) := e0 0 (by show 0 < 1; decide)
  change a0.tmps.size = 162 at z0
  refine wp_seq_k fun K0 hK0 => ?_
  have hk0 := PLift.up hK0
  clear hK0
  refine wp_region_lit ?_
  go_wp2
  refine hk0.down _ _ ?_
  clear hk0
  refine wp_seq ?_
  refine am_loop (by simp [z0]) (by dsimp only; rw [gset_ne (by decide)]; exact e0) hx hap hnb hL0 fun a1 w1 z1 h1 d1 bel1 L1 => ?_
  have hx1 : Bx w1 b vlq vlc Lv := hx.keep bel1.size (bel1.block b hx.lb fun ⟨j, v, h1, h2⟩ => (hnb j v h1).1 h2) (bel1.block vlq hx.ll fun ⟨j, v, h1, h2⟩ => (hnb j v h1).2 h2)
  refine wp_seq_k fun K1 hK1 => ?_
  have hk1 := PLift.up hK1
  clear hK1
  refine wp_region_lit ?_
  go_wp2
  refine hk1.down _ _ ?_
  clear hk1
  refine wp_seq ?_
  refine ag_all (by simp [z1]) (by dsimp only; rw [gset_ne (by decide)]; exact h1) (by dsimp only; rw [gset_eq (by simp [z1])]) hx1 hap hnb L1 fun a2 w2 vG Gs z2 h2 g2 d2 L2 bel2 G2 G02 Gd2 => ?_
  have hx2 : Bx w2 b vlq vlc Lv := hx1.keep bel2.size (bel2.block b hx1.lb fun ⟨j, v, h1, h2⟩ => (hnb j v h1).1 h2) (bel2.block vlq hx1.ll fun ⟨j, v, h1, h2⟩ => (hnb j v h1).2 h2)
  refine wp_seq ?_
  refine l3_loop z2 g2 G2 (by omega) (fun t x ht => by obtain ⟨r, hr, ho, _⟩ := Gd2.2 t x ht; exact ⟨r, hr, ho⟩) fun a3 z3 h3 d3 => ?_
  refine wp_seq ?_
  refine l4_loop z3 (h3.trans h2) hx2 L2 fun a4 z4 d4 => ?_
  refine wp_seq_k fun K2 hK2 => ?_
  have hk2 := PLift.up hK2
  clear hK2
  refine wp_region_lit ?_
  go_wp2
  refine hk2.down _ _ ?_
  clear hk2
  refine wp_ret ?_
  refine ⟨?_, _, resSlots_run (show resSlots Try.f27.results.toList = some [2] from rfl) _ _, ?_, belE_two bel1 bel2 fun x hx => hx⟩
  · first | rfl | exact d4.trans (d3.trans d2)
  · have hz4 : (a4.tmps.setIfInBounds 2 (Value.bool true)).getD 2 undef = .bool true := gset_eq (by simp [z4])
    exact congrArg Ending.returned hz4
end Go.Proofs.Ytdaedplbhpiacaa
