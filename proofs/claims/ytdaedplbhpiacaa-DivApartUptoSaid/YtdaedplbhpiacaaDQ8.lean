/-
  DivApart: the law's regions.
-/
import Derived.Test.YtdaedplbhpiacaaDQ7
namespace Go.Proofs.Ytdaedplbhpiacaa
open Go Go.RowKit Go.Proofs Ab
set_option linter.unusedSimpArgs false
set_option linter.unusedVariables false
set_option maxHeartbeats 10000000
set_option maxHeartbeats 4000000
set_option maxRecDepth 2000000
def daD (f : Func) : Code := qb (q1 (q2 (ql (qb (q2 (q1 (qd 5 (qf f))))))))
def daN (n : Nat) (f : Func) : Code := q1 (qd n (daD f))
theorem da_was {a : Act} {w : World} {R : Exit → Act → World → Prop} {p1 p2 n1 n2 k1 k2 : Nat} {A1 A2 : List Nat} (hz : a.tmps.size = 307) (h8 : a.tmps.getD 8 undef = .slice (some ⟨p1, 0, none⟩) n1 k1) (h9 : a.tmps.getD 9 undef = .slice (some ⟨p2, 0, none⟩) n2 k2)
    (l1 : (Wv A1).length = n1) (l2 : (Wv A2).length = n2) (b1 : n1 ≤ 1000000000) (b2 : n2 ≤ 1000000000) (q1 : p1 < w.heap.size) (q2 : p2 < w.heap.size) (c1 : ∀ (j : Nat) (u : Value), (Wv A1)[j]? = some u → w.cell? ⟨p1, j, none⟩ = some u) (c2 : ∀ (j : Nat) (u : Value), (Wv A2)[j]? = some u → w.cell? ⟨p2, j, none⟩ = some u)
    (kk : ∀ (a' : Act) (w' : World) (v1 v2 : Value), a'.tmps.size = 307 → (∀ t, t < 52 → t ≠ 11 → t ≠ 12 → a'.tmps.getD t undef = a.tmps.getD t undef) → a'.tmps.getD 11 undef = v1 → a'.tmps.getD 12 undef = v2 → a'.defers = a.defers → Below w.heap.size w w' → w'.ownsRow w.heap.size 24 1 v1 n1 (Wv A1) → w'.ownsRow w.heap.size 24 1 v2 n2 (Wv A2) → R .normal a' w') : (daN 0 Try.f3).wp Try.prog R a w := by
  have g8 := gI hz h8 (by decide)
  have g9 := gI hz h9 (by decide)
  obtain ⟨i0, hi0, hi1, hi2, hi3⟩ := info_parts info_u64
  have wc : ∀ (A : List Nat) (u : Value), u ∈ Wv A → u.oneCell' = true := fun A u hu => by
    obtain ⟨n, _, rfl⟩ := List.mem_map.1 hu; rfl
  have hA := PLift.up (And.intro l1 (And.intro l2 (And.intro c1 c2)))
  clear l1 l2 c1 c2
  generalize hV1 : Wv A1 = V1 at *
  generalize hV2 : Wv A2 = V2 at *
  have w1c : ∀ u, u ∈ V1 → u.oneCell' = true := fun u hu => wc A1 u (hV1 ▸ hu)
  have w2c : ∀ u, u ∈ V2 → u.oneCell' = true := fun u hu => wc A2 u (hV2 ▸ hu)
  clear hV1 hV2 wc
  have kkA := PLift.up kk
  clear kk
  refine wp_region_lit ?_
  go_wp2_with (first | (at_builtin; refine wpList_append_own _ rfl (.tmp 68) (.tmp 69) 23 rfl w.heap.size 24 i0 (.int .u64 0) 1 8 Try.underlying23 hi0 hi1 hi2 hi3 rfl (by decide) (.slice (some ⟨w.heap.size, 0, none⟩) 0 0) 0 [] ?hs ?own ⟨p1, 0, none⟩ n1 k1 V1 ?hx ?hn ?c3 ?c4 ?mx ?bys ?hb ?fin))
  case hs => rw [eval_tmp]; dsimp only; rw [gset_ne (by decide), gset_eq (by simp [hz])]
  case own => exact World.ownsRow_lit w #[] 0 (Nat.le_refl _) (Nat.zero_le _) rfl
  case hx => rw [eval_tmp]; dsimp only; rw [gset_eq (by simp [hz])]
  case hn => rw [hA.down.1, Nat.mul_one]
  case c3 =>
    intro j u hj
    rw [Addr.add_lit, Nat.zero_add]
    exact (cell_heap (heap_alloc_old w _ q1)).trans (hA.down.2.2.1 j u hj)
  case c4 => exact w1c
  case mx => unfold maxLen; omega
  case bys => omega
  case hb => simp
  case fin =>
    intro v1 w1 ho1 hg1 _
    have hB1 : Below w.heap.size w w1 := by
      have hs := hg1.size
      rw [World.size_alloc] at hs
      exact ⟨hg1.os, hg1.tape, hg1.output, by omega, fun q hq => (hg1.block q (by rw [World.size_alloc]; omega) (fun e => by have e2 : q = w.heap.size := Option.some.inj e; omega)).trans (heap_alloc_old w _ hq)⟩
    have hs1 := hB1.size
    have hP := PLift.up (And.intro hB1 ho1)
    clear hB1 ho1 hg1
    go_wp2_with (first | (at_builtin; refine wpList_append_own _ rfl (.tmp 71) (.tmp 72) 23 rfl w.heap.size 24 i0 (.int .u64 0) 1 8 Try.underlying23 hi0 hi1 hi2 hi3 rfl (by decide) (.slice (some ⟨w1.heap.size, 0, none⟩) 0 0) 0 [] ?hs ?own ⟨p2, 0, none⟩ n2 k2 V2 ?hx ?hn ?c3 ?c4 ?mx ?bys ?hb ?fin))
    case hs => rw [eval_tmp]; dsimp only [Act.put]; rw [gset_ne (by decide), gset_eq (by simp [hz])]
    case own => exact World.ownsRow_lit w1 #[] 0 hs1 (Nat.zero_le _) rfl
    case hx => rw [eval_tmp]; dsimp only [Act.put]; rw [gset_eq (by simp [hz])]
    case hn => rw [hA.down.2.1, Nat.mul_one]
    case c3 =>
      intro j u hj
      rw [Addr.add_lit, Nat.zero_add]
      exact (cell_heap (heap_alloc_old w1 _ (by omega))).trans ((cell_heap (hP.down.1.block p2 q2)).trans (hA.down.2.2.2 j u hj))
    case c4 => exact w2c
    case mx => unfold maxLen; omega
    case bys => omega
    case hb => rw [World.size_alloc]; omega
    case fin =>
      intro v2 w2 ho2 hg2 _
      have hs2 := hg2.size
      rw [World.size_alloc] at hs2
      have hold : ∀ q, q < w1.heap.size → w2.heap[q]? = w1.heap[q]? := fun q hq => (hg2.block q (by rw [World.size_alloc]; omega) (fun e => by have e2 : q = w1.heap.size := Option.some.inj e; omega)).trans (heap_alloc_old w1 _ hq)
      have hB2 : Below w.heap.size w w2 := ⟨hg2.os.trans hP.down.1.os, hg2.tape.trans hP.down.1.tape, hg2.output.trans hP.down.1.output, by omega, fun q hq => (hold q (by omega)).trans (hP.down.1.block q hq)⟩
      have ho1' := ow_below hP.down.2 fun q hq => hold q (hP.down.2.lt q hq).2
      have hF := PLift.up (And.intro hB2 (And.intro ho1' ho2))
      clear hB2 ho1' ho2 hold hg2
      go_wp2
      refine kkA.down _ w2 v1 v2 (by simp [Act.put, hz]) (fun t ht h1 h2 => ?_) ?_ ?_ rfl hF.down.1 hF.down.2.1 hF.down.2.2
      · dsimp only [Act.put]
        rw [gset_ne (by omega), gset_ne (by omega), gset_ne (by omega), gset_ne (by omega), gset_ne (by omega), gset_ne (by omega), gset_ne (by omega), gset_ne (by omega)]
      · dsimp only [Act.put]
        rw [gset_ne (by decide), gset_eq (by simp [hz])]
      · dsimp only [Act.put]
        rw [gset_eq (by simp [hz])]
theorem da1 {a : Act} {w : World} {R : Exit → Act → World → Prop} {x y : Value} {A1 A2 : List Nat} {f : Int} (hz : a.tmps.size = 307) (h8 : a.tmps.getD 8 undef = x) (h9 : a.tmps.getD 9 undef = y)
    (c1 : Calls Try.prog 6 #[x, y] w (CutR w A1 A2 f))
    (kk : ∀ (a' : Act) (w1 : World) (v1 v2 : Value) (n1 n2 : Nat), a'.tmps.size = 307 → (∀ t, t < 52 → t ≠ 13 → t ≠ 14 → t ≠ 15 → a'.tmps.getD t undef = a.tmps.getD t undef) → a'.tmps.getD 13 undef = v1 → a'.tmps.getD 14 undef = v2 → a'.tmps.getD 15 undef = .int .i64 f → a'.defers = a.defers → Below w.heap.size w w1 → w1.ownsRow w.heap.size 24 1 v1 n1 (Wv A1) → w1.ownsRow w.heap.size 24 1 v2 n2 (Wv A2) → (∀ q, v1.ownBlock = some q → v2.ownBlock ≠ some q) → R .normal a' w1) : (daN 1 Try.f3).wp Try.prog R a w := by
  have g8 := gI hz h8 (by decide)
  have g9 := gI hz h9 (by decide)
  have kkA := PLift.up kk
  clear kk
  refine wp_region_lit ?_
  go_wp2_with (go_at_call 6; refine (c1).mono ?_; rintro e w1 ⟨v1, v2, n1, n2, rfl, b1, o1, o2, s12⟩; obtain ⟨ua, uc, rfl⟩ := ow_shape o1; obtain ⟨va, vc, rfl⟩ := ow_shape o2)
  refine kkA.down _ w1 _ _ n1 n2 (by simp [hz]) (fun t ht n13 n14 n15 => ?_) ?_ ?_ ?_ rfl b1 o1 o2 s12
  · dsimp only [Act.put]
    repeat rw [gset_ne (by omega)]
  · dsimp only [Act.put]
    repeat (first | rw [gset_eq (by simp [hz])] | rw [gset_ne (by decide)])
  · dsimp only [Act.put]
    repeat (first | rw [gset_eq (by simp [hz])] | rw [gset_ne (by decide)])
  · dsimp only [Act.put]
    repeat (first | rw [gset_eq (by simp [hz])] | rw [gset_ne (by decide)])
theorem da2 {a : Act} {w : World} {R : Exit → Act → World → Prop} {x y : Value} {A1 A2 : List Nat} {f : Int} (hz : a.tmps.size = 307) (h8 : a.tmps.getD 8 undef = x) (h9 : a.tmps.getD 9 undef = y)
    (c1 : Calls Try.prog 6 #[x, y] w (CutR w A1 A2 f))
    (kk : ∀ (a' : Act) (w1 : World) (v1 v2 : Value) (n1 n2 : Nat), a'.tmps.size = 307 → (∀ t, t < 52 → t ≠ 16 → t ≠ 17 → t ≠ 18 → a'.tmps.getD t undef = a.tmps.getD t undef) → a'.tmps.getD 16 undef = v1 → a'.tmps.getD 17 undef = v2 → a'.tmps.getD 18 undef = .int .i64 f → a'.defers = a.defers → Below w.heap.size w w1 → w1.ownsRow w.heap.size 24 1 v1 n1 (Wv A1) → w1.ownsRow w.heap.size 24 1 v2 n2 (Wv A2) → (∀ q, v1.ownBlock = some q → v2.ownBlock ≠ some q) → R .normal a' w1) : (daN 2 Try.f3).wp Try.prog R a w := by
  have g8 := gI hz h8 (by decide)
  have g9 := gI hz h9 (by decide)
  have kkA := PLift.up kk
  clear kk
  refine wp_region_lit ?_
  go_wp2_with (go_at_call 6; refine (c1).mono ?_; rintro e w1 ⟨v1, v2, n1, n2, rfl, b1, o1, o2, s12⟩; obtain ⟨ua, uc, rfl⟩ := ow_shape o1; obtain ⟨va, vc, rfl⟩ := ow_shape o2)
  refine kkA.down _ w1 _ _ n1 n2 (by simp [hz]) (fun t ht n16 n17 n18 => ?_) ?_ ?_ ?_ rfl b1 o1 o2 s12
  · dsimp only [Act.put]
    repeat rw [gset_ne (by omega)]
  · dsimp only [Act.put]
    repeat (first | rw [gset_eq (by simp [hz])] | rw [gset_ne (by decide)])
  · dsimp only [Act.put]
    repeat (first | rw [gset_eq (by simp [hz])] | rw [gset_ne (by decide)])
  · dsimp only [Act.put]
    repeat (first | rw [gset_eq (by simp [hz])] | rw [gset_ne (by decide)])
theorem da3 {a : Act} {w : World} {R : Exit → Act → World → Prop} {x y : Value} {A : List Nat} {f : Int} (hz : a.tmps.size = 307) (h8 : a.tmps.getD 8 undef = x) (h9 : a.tmps.getD 9 undef = y)
    (c1 : Calls Try.prog 7 #[x, y] w (RowT w A (.int .i64 f)))
    (kk : ∀ (a' : Act) (w1 : World) (u : Value) (m : Nat), a'.tmps.size = 307 → (∀ t, t < 52 → t ≠ 19 → t ≠ 20 → a'.tmps.getD t undef = a.tmps.getD t undef) → a'.tmps.getD 19 undef = u → a'.tmps.getD 20 undef = .int .i64 f → a'.defers = a.defers → Below w.heap.size w w1 → w1.ownsRow w.heap.size 24 1 u m (Wv A) → m ≤ maxLen → R .normal a' w1) : (daN 3 Try.f3).wp Try.prog R a w := by
  have g8 := gI hz h8 (by decide)
  have g9 := gI hz h9 (by decide)
  have kkA := PLift.up kk
  clear kk
  refine wp_region_lit ?_
  go_wp2_with (go_at_call 7; refine (c1).mono ?_; rintro e w1 ⟨u, m, rfl, b1, o1, m1⟩; obtain ⟨ua, uc, rfl⟩ := ow_shape o1)
  refine kkA.down _ w1 _ m (by simp [hz]) (fun t ht n19 n20 => ?_) ?_ ?_ rfl b1 o1 m1
  · dsimp only [Act.put]
    repeat rw [gset_ne (by omega)]
  · dsimp only [Act.put]
    repeat (first | rw [gset_eq (by simp [hz])] | rw [gset_ne (by decide)])
  · dsimp only [Act.put]
    repeat (first | rw [gset_eq (by simp [hz])] | rw [gset_ne (by decide)])
theorem da4 {a : Act} {w : World} {R : Exit → Act → World → Prop} {x y : Value} {A : List Nat} {f : Int} (hz : a.tmps.size = 307) (h8 : a.tmps.getD 8 undef = x) (h9 : a.tmps.getD 9 undef = y)
    (c1 : Calls Try.prog 8 #[x, y] w (RowT w A (.int .i64 f)))
    (kk : ∀ (a' : Act) (w1 : World) (u : Value) (m : Nat), a'.tmps.size = 307 → (∀ t, t < 52 → t ≠ 21 → t ≠ 22 → a'.tmps.getD t undef = a.tmps.getD t undef) → a'.tmps.getD 21 undef = u → a'.tmps.getD 22 undef = .int .i64 f → a'.defers = a.defers → Below w.heap.size w w1 → w1.ownsRow w.heap.size 24 1 u m (Wv A) → m ≤ maxLen → R .normal a' w1) : (daN 4 Try.f3).wp Try.prog R a w := by
  have g8 := gI hz h8 (by decide)
  have g9 := gI hz h9 (by decide)
  have kkA := PLift.up kk
  clear kk
  refine wp_region_lit ?_
  go_wp2_with (go_at_call 8; refine (c1).mono ?_; rintro e w1 ⟨u, m, rfl, b1, o1, m1⟩; obtain ⟨ua, uc, rfl⟩ := ow_shape o1)
  refine kkA.down _ w1 _ m (by simp [hz]) (fun t ht n21 n22 => ?_) ?_ ?_ rfl b1 o1 m1
  · dsimp only [Act.put]
    repeat rw [gset_ne (by omega)]
  · dsimp only [Act.put]
    repeat (first | rw [gset_eq (by simp [hz])] | rw [gset_ne (by decide)])
  · dsimp only [Act.put]
    repeat (first | rw [gset_eq (by simp [hz])] | rw [gset_ne (by decide)])
theorem da5 {a : Act} {w : World} {R : Exit → Act → World → Prop} {x y : Value} {A : List Nat} {f : Int} (hz : a.tmps.size = 307) (h8 : a.tmps.getD 8 undef = x) (h9 : a.tmps.getD 9 undef = y)
    (c1 : Calls Try.prog 9 #[x, y] w (RowT w A (.int .i64 f)))
    (kk : ∀ (a' : Act) (w1 : World) (u : Value) (m : Nat), a'.tmps.size = 307 → (∀ t, t < 52 → t ≠ 23 → t ≠ 24 → a'.tmps.getD t undef = a.tmps.getD t undef) → a'.tmps.getD 23 undef = u → a'.tmps.getD 24 undef = .int .i64 f → a'.defers = a.defers → Below w.heap.size w w1 → w1.ownsRow w.heap.size 24 1 u m (Wv A) → m ≤ maxLen → R .normal a' w1) : (daN 5 Try.f3).wp Try.prog R a w := by
  have g8 := gI hz h8 (by decide)
  have g9 := gI hz h9 (by decide)
  have kkA := PLift.up kk
  clear kk
  refine wp_region_lit ?_
  go_wp2_with (go_at_call 9; refine (c1).mono ?_; rintro e w1 ⟨u, m, rfl, b1, o1, m1⟩; obtain ⟨ua, uc, rfl⟩ := ow_shape o1)
  refine kkA.down _ w1 _ m (by simp [hz]) (fun t ht n23 n24 => ?_) ?_ ?_ rfl b1 o1 m1
  · dsimp only [Act.put]
    repeat rw [gset_ne (by omega)]
  · dsimp only [Act.put]
    repeat (first | rw [gset_eq (by simp [hz])] | rw [gset_ne (by decide)])
  · dsimp only [Act.put]
    repeat (first | rw [gset_eq (by simp [hz])] | rw [gset_ne (by decide)])
theorem da6 {a : Act} {w : World} {R : Exit → Act → World → Prop} {x : Value} {A : List Nat} {β r : Nat} {f : Int} (hz : a.tmps.size = 307) (h8 : a.tmps.getD 8 undef = x) (h2 : a.tmps.getD 2 undef = .int .u64 (β : Int))
    (c1 : Calls Try.prog 10 #[x, .int .u64 (β : Int)] w (RowT3 w A (.int .u64 (r : Int)) (.int .i64 f)))
    (kk : ∀ (a' : Act) (w1 : World) (u : Value) (m : Nat), a'.tmps.size = 307 → (∀ t, t < 52 → t ≠ 25 → t ≠ 26 → t ≠ 27 → a'.tmps.getD t undef = a.tmps.getD t undef) → a'.tmps.getD 25 undef = u → a'.tmps.getD 26 undef = .int .u64 (r : Int) → a'.tmps.getD 27 undef = .int .i64 f → a'.defers = a.defers → Below w.heap.size w w1 → w1.ownsRow w.heap.size 24 1 u m (Wv A) → m ≤ maxLen → R .normal a' w1) : (daN 6 Try.f3).wp Try.prog R a w := by
  have g8 := gI hz h8 (by decide)
  have g2 := gI hz h2 (by decide)
  have kkA := PLift.up kk
  clear kk
  refine wp_region_lit ?_
  go_wp2_with (go_at_call 10; refine (c1).mono ?_; rintro e w1 ⟨u, m, rfl, b1, o1, m1⟩; obtain ⟨ua, uc, rfl⟩ := ow_shape o1)
  refine kkA.down _ w1 _ m (by simp [hz]) (fun t ht n25 n26 n27 => ?_) ?_ ?_ ?_ rfl b1 o1 m1
  · dsimp only [Act.put]
    repeat rw [gset_ne (by omega)]
  · dsimp only [Act.put]
    repeat (first | rw [gset_eq (by simp [hz])] | rw [gset_ne (by decide)])
  · dsimp only [Act.put]
    repeat (first | rw [gset_eq (by simp [hz])] | rw [gset_ne (by decide)])
  · dsimp only [Act.put]
    repeat (first | rw [gset_eq (by simp [hz])] | rw [gset_ne (by decide)])
theorem da7 {a : Act} {w : World} {R : Exit → Act → World → Prop} {x y : Value} {A : List Nat} {f : Int} (hz : a.tmps.size = 307) (h8 : a.tmps.getD 8 undef = x) (h9 : a.tmps.getD 9 undef = y)
    (c1 : Calls Try.prog 11 #[x, y] w (RowT w A (.int .i64 f)))
    (kk : ∀ (a' : Act) (w1 : World) (u : Value) (m : Nat), a'.tmps.size = 307 → (∀ t, t < 52 → t ≠ 28 → t ≠ 29 → a'.tmps.getD t undef = a.tmps.getD t undef) → a'.tmps.getD 28 undef = u → a'.tmps.getD 29 undef = .int .i64 f → a'.defers = a.defers → Below w.heap.size w w1 → w1.ownsRow w.heap.size 24 1 u m (Wv A) → m ≤ maxLen → R .normal a' w1) : (daN 7 Try.f3).wp Try.prog R a w := by
  have g8 := gI hz h8 (by decide)
  have g9 := gI hz h9 (by decide)
  have kkA := PLift.up kk
  clear kk
  refine wp_region_lit ?_
  go_wp2_with (go_at_call 11; refine (c1).mono ?_; rintro e w1 ⟨u, m, rfl, b1, o1, m1⟩; obtain ⟨ua, uc, rfl⟩ := ow_shape o1)
  refine kkA.down _ w1 _ m (by simp [hz]) (fun t ht n28 n29 => ?_) ?_ ?_ rfl b1 o1 m1
  · dsimp only [Act.put]
    repeat rw [gset_ne (by omega)]
  · dsimp only [Act.put]
    repeat (first | rw [gset_eq (by simp [hz])] | rw [gset_ne (by decide)])
  · dsimp only [Act.put]
    repeat (first | rw [gset_eq (by simp [hz])] | rw [gset_ne (by decide)])
theorem da8 {a : Act} {w : World} {R : Exit → Act → World → Prop} {x : Value} {β : Nat} {A : List Nat} {f : Int} (hz : a.tmps.size = 307) (h8 : a.tmps.getD 8 undef = x) (h2 : a.tmps.getD 2 undef = .int .u64 (β : Int))
    (c1 : Calls Try.prog 12 #[x, .int .u64 (β : Int)] w (RowT w A (.int .i64 f)))
    (kk : ∀ (a' : Act) (w1 : World) (u : Value) (m : Nat), a'.tmps.size = 307 → (∀ t, t < 52 → t ≠ 30 → t ≠ 31 → a'.tmps.getD t undef = a.tmps.getD t undef) → a'.tmps.getD 30 undef = u → a'.tmps.getD 31 undef = .int .i64 f → a'.defers = a.defers → Below w.heap.size w w1 → w1.ownsRow w.heap.size 24 1 u m (Wv A) → m ≤ maxLen → R .normal a' w1) : (daN 8 Try.f3).wp Try.prog R a w := by
  have g8 := gI hz h8 (by decide)
  have g2 := gI hz h2 (by decide)
  have kkA := PLift.up kk
  clear kk
  refine wp_region_lit ?_
  go_wp2_with (go_at_call 12; refine (c1).mono ?_; rintro e w1 ⟨u, m, rfl, b1, o1, m1⟩; obtain ⟨ua, uc, rfl⟩ := ow_shape o1)
  refine kkA.down _ w1 _ m (by simp [hz]) (fun t ht n30 n31 => ?_) ?_ ?_ rfl b1 o1 m1
  · dsimp only [Act.put]
    repeat rw [gset_ne (by omega)]
  · dsimp only [Act.put]
    repeat (first | rw [gset_eq (by simp [hz])] | rw [gset_ne (by decide)])
  · dsimp only [Act.put]
    repeat (first | rw [gset_eq (by simp [hz])] | rw [gset_ne (by decide)])
theorem da9 {a : Act} {w : World} {R : Exit → Act → World → Prop} {x y : Value} {A : List Nat} {f : Int} (hz : a.tmps.size = 307) (h8 : a.tmps.getD 8 undef = x) (h9 : a.tmps.getD 9 undef = y)
    (c1 : Calls Try.prog 13 #[x, x, y] w (RowT w A (.int .i64 f)))
    (kk : ∀ (a' : Act) (w1 : World) (u : Value) (m : Nat), a'.tmps.size = 307 → (∀ t, t < 52 → t ≠ 32 → t ≠ 33 → a'.tmps.getD t undef = a.tmps.getD t undef) → a'.tmps.getD 32 undef = u → a'.tmps.getD 33 undef = .int .i64 f → a'.defers = a.defers → Below w.heap.size w w1 → w1.ownsRow w.heap.size 24 1 u m (Wv A) → m ≤ maxLen → R .normal a' w1) : (daN 9 Try.f3).wp Try.prog R a w := by
  have g8 := gI hz h8 (by decide)
  have g9 := gI hz h9 (by decide)
  have kkA := PLift.up kk
  clear kk
  refine wp_region_lit ?_
  go_wp2_with (go_at_call 13; refine (c1).mono ?_; rintro e w1 ⟨u, m, rfl, b1, o1, m1⟩; obtain ⟨ua, uc, rfl⟩ := ow_shape o1)
  refine kkA.down _ w1 _ m (by simp [hz]) (fun t ht n32 n33 => ?_) ?_ ?_ rfl b1 o1 m1
  · dsimp only [Act.put]
    repeat rw [gset_ne (by omega)]
  · dsimp only [Act.put]
    repeat (first | rw [gset_eq (by simp [hz])] | rw [gset_ne (by decide)])
  · dsimp only [Act.put]
    repeat (first | rw [gset_eq (by simp [hz])] | rw [gset_ne (by decide)])
theorem da10 {a : Act} {w : World} {R : Exit → Act → World → Prop} {x : Value} {A : List Nat} {f : Int} (hz : a.tmps.size = 307) (h8 : a.tmps.getD 8 undef = x)
    (c1 : Calls Try.prog 11 #[x, .slice (some ⟨w.heap.size, 0, none⟩) 1 1] (w.alloc (.cells #[.int .u64 1] 24)) (RowT (w.alloc (.cells #[.int .u64 1] 24)) A (.int .i64 f)))
    (kk : ∀ (a' : Act) (w1 : World) (u : Value) (m : Nat), a'.tmps.size = 307 → (∀ t, t < 52 → t ≠ 34 → t ≠ 35 → a'.tmps.getD t undef = a.tmps.getD t undef) → a'.tmps.getD 34 undef = u → a'.tmps.getD 35 undef = .int .i64 f → a'.defers = a.defers → Below (w.alloc (.cells #[.int .u64 1] 24)).heap.size (w.alloc (.cells #[.int .u64 1] 24)) w1 → w1.ownsRow (w.alloc (.cells #[.int .u64 1] 24)).heap.size 24 1 u m (Wv A) → m ≤ maxLen → R .normal a' w1) : (daN 10 Try.f3).wp Try.prog R a w := by
  have g8 := gI hz h8 (by decide)
  have kkA := PLift.up kk
  clear kk
  refine wp_region_lit ?_
  go_wp2_with (go_at_call 11; refine (c1).mono ?_; rintro e w1 ⟨u, m, rfl, b1, o1, m1⟩; obtain ⟨ua, uc, rfl⟩ := ow_shape o1)
  refine kkA.down _ w1 _ m (by simp [hz]) (fun t ht n34 n35 => ?_) ?_ ?_ rfl b1 o1 m1
  · dsimp only [Act.put]
    repeat rw [gset_ne (by omega)]
  · dsimp only [Act.put]
    repeat (first | rw [gset_eq (by simp [hz])] | rw [gset_ne (by decide)])
  · dsimp only [Act.put]
    repeat (first | rw [gset_eq (by simp [hz])] | rw [gset_ne (by decide)])
theorem da_out {a : Act} {w : World} {R : Exit → Act → World → Prop} {b : Nat} {a13 a14 a16 a17 a19 a21 a23 a25 a28 a30 a32 a34 : Option Addr} {n13 n14 n16 n17 n19 n21 n23 n25 n28 n30 n32 n34 c13 c14 c16 c17 c19 c21 c23 c25 c28 c30 c32 c34 : Nat} {Qf : World → Prop} (hz : a.tmps.size = 307) (h7 : a.tmps.getD 7 undef = .pointer (some ⟨b, 0, none⟩)) (h13 : a.tmps.getD 13 undef = (.slice a13 n13 c13)) (h14 : a.tmps.getD 14 undef = (.slice a14 n14 c14)) (h16 : a.tmps.getD 16 undef = (.slice a16 n16 c16)) (h17 : a.tmps.getD 17 undef = (.slice a17 n17 c17)) (h19 : a.tmps.getD 19 undef = (.slice a19 n19 c19)) (h21 : a.tmps.getD 21 undef = (.slice a21 n21 c21)) (h23 : a.tmps.getD 23 undef = (.slice a23 n23 c23)) (h25 : a.tmps.getD 25 undef = (.slice a25 n25 c25)) (h28 : a.tmps.getD 28 undef = (.slice a28 n28 c28)) (h30 : a.tmps.getD 30 undef = (.slice a30 n30 c30)) (h32 : a.tmps.getD 32 undef = (.slice a32 n32 c32)) (h34 : a.tmps.getD 34 undef = (.slice a34 n34 c34))
    (c1 : Calls Try.prog 25 #[.pointer (some ⟨b, 0, none⟩), .slice (some ⟨w.heap.size, 0, none⟩) 12 12] (w.alloc (.cells #[(.slice a13 n13 c13), (.slice a14 n14 c14), (.slice a16 n16 c16), (.slice a17 n17 c17), (.slice a19 n19 c19), (.slice a21 n21 c21), (.slice a23 n23 c23), (.slice a25 n25 c25), (.slice a28 n28 c28), (.slice a30 n30 c30), (.slice a32 n32 c32), (.slice a34 n34 c34)] 23)) (fun e w' => e = .returned (.tuple #[]) ∧ Qf w'))
    (kk : ∀ (a' : Act) (w1 : World), a'.tmps.size = 307 → (∀ t, t < 286 → a'.tmps.getD t undef = a.tmps.getD t undef) → a'.defers = a.defers → Qf w1 → R .normal a' w1) : (daN 20 Try.f3).wp Try.prog R a w := by
  have g7 := gI hz h7 (by decide)
  have g13 := gI hz h13 (by decide)
  have g14 := gI hz h14 (by decide)
  have g16 := gI hz h16 (by decide)
  have g17 := gI hz h17 (by decide)
  have g19 := gI hz h19 (by decide)
  have g21 := gI hz h21 (by decide)
  have g23 := gI hz h23 (by decide)
  have g25 := gI hz h25 (by decide)
  have g28 := gI hz h28 (by decide)
  have g30 := gI hz h30 (by decide)
  have g32 := gI hz h32 (by decide)
  have g34 := gI hz h34 (by decide)
  have kkA := PLift.up kk
  clear kk
  refine wp_region_lit ?_
  go_wp2_with (go_at_call 25; refine (c1).mono ?_; rintro e w1 ⟨rfl, hq⟩)
  refine kkA.down _ w1 (by simp [hz]) (fun t ht => ?_)  rfl hq
  · dsimp only [Act.put]
    repeat rw [gset_ne (by omega)]
end Go.Proofs.Ytdaedplbhpiacaa
