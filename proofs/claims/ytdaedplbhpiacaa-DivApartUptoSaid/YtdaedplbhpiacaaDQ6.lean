/-
  div.Mod, Exact, Up, Near, MulMod, raw: their regions.
-/
import Derived.Test.YtdaedplbhpiacaaDQ5
namespace Go.Proofs.Ytdaedplbhpiacaa
open Go Go.RowKit Go.Proofs Ab
set_option linter.unusedSimpArgs false
set_option linter.unusedVariables false
set_option maxHeartbeats 10000000
set_option maxHeartbeats 4000000
set_option maxRecDepth 2000000
theorem dm0 {a : Act} {w : World} {R : Exit → Act → World → Prop}  (hz : a.tmps.size = 18)
    (kk : ∀ (a' : Act) , a'.tmps.size = 18 → (∀ t, t < 4 → a'.tmps.getD t undef = a.tmps.getD t undef) → a'.defers = a.defers → R .normal a' w) : (q1 (qf Try.f7)).wp Try.prog R a w := by
  have kkA := PLift.up kk
  clear kk
  refine wp_region_lit ?_
  go_wp2
  refine kkA.down _  (by simp [hz]) (fun t ht => ?_)  rfl 
  · dsimp only [Act.put]
    repeat rw [gset_ne (by omega)]
theorem dm1 {a : Act} {w : World} {R : Exit → Act → World → Prop} {va vb : Value} {A1 A2 : List Nat} {f : Int} (hz : a.tmps.size = 18) (h0 : a.tmps.getD 0 undef = va) (h1 : a.tmps.getD 1 undef = vb)
    (c1 : Calls Try.prog 6 #[va, vb] w (CutR w A1 A2 f))
    (kk : ∀ (a' : Act) (w1 : World) (v1 v2 : Value) (n1 n2 : Nat), a'.tmps.size = 18 → (∀ t, t < 4 → a'.tmps.getD t undef = a.tmps.getD t undef) → a'.tmps.getD 6 undef = v1 → a'.tmps.getD 7 undef = v2 → a'.tmps.getD 8 undef = .int .i64 f → a'.defers = a.defers → Below w.heap.size w w1 → w1.ownsRow w.heap.size 24 1 v1 n1 (Wv A1) → w1.ownsRow w.heap.size 24 1 v2 n2 (Wv A2) → (∀ q, v1.ownBlock = some q → v2.ownBlock ≠ some q) → R .normal a' w1) : (q1 (qd 1 (qf Try.f7))).wp Try.prog R a w := by
  have g0 := gI hz h0 (by decide)
  have g1 := gI hz h1 (by decide)
  have kkA := PLift.up kk
  clear kk
  refine wp_region_lit ?_
  go_wp2_with (go_at_call 6; refine (c1).mono ?_; rintro e w1 ⟨v1, v2, n1, n2, rfl, b1, o1, o2, s12⟩; obtain ⟨ua, uc, rfl⟩ := ow_shape o1; obtain ⟨va, vc, rfl⟩ := ow_shape o2)
  refine kkA.down _ w1 _ _ n1 n2 (by simp [hz]) (fun t ht => ?_) ?_ ?_ ?_ rfl b1 o1 o2 s12
  · dsimp only [Act.put]
    repeat rw [gset_ne (by omega)]
  · dsimp only [Act.put]
    repeat (first | rw [gset_eq (by simp [hz])] | rw [gset_ne (by decide)])
  · dsimp only [Act.put]
    repeat (first | rw [gset_eq (by simp [hz])] | rw [gset_ne (by decide)])
  · dsimp only [Act.put]
    repeat (first | rw [gset_eq (by simp [hz])] | rw [gset_ne (by decide)])
theorem dx0 {a : Act} {w : World} {R : Exit → Act → World → Prop}  (hz : a.tmps.size = 25)
    (kk : ∀ (a' : Act) , a'.tmps.size = 25 → (∀ t, t < 4 → a'.tmps.getD t undef = a.tmps.getD t undef) → a'.defers = a.defers → R .normal a' w) : (q1 (qf Try.f11)).wp Try.prog R a w := by
  have kkA := PLift.up kk
  clear kk
  refine wp_region_lit ?_
  go_wp2
  refine kkA.down _  (by simp [hz]) (fun t ht => ?_)  rfl 
  · dsimp only [Act.put]
    repeat rw [gset_ne (by omega)]
theorem dx1 {a : Act} {w : World} {R : Exit → Act → World → Prop} {va vb : Value} {A1 A2 : List Nat} {f : Int} (hz : a.tmps.size = 25) (h0 : a.tmps.getD 0 undef = va) (h1 : a.tmps.getD 1 undef = vb)
    (c1 : Calls Try.prog 6 #[va, vb] w (CutR w A1 A2 f))
    (kk : ∀ (a' : Act) (w1 : World) (v1 v2 : Value) (n1 n2 : Nat), a'.tmps.size = 25 → (∀ t, t < 4 → a'.tmps.getD t undef = a.tmps.getD t undef) → a'.tmps.getD 6 undef = v1 → a'.tmps.getD 7 undef = v2 → a'.tmps.getD 8 undef = .int .i64 f → a'.defers = a.defers → Below w.heap.size w w1 → w1.ownsRow w.heap.size 24 1 v1 n1 (Wv A1) → w1.ownsRow w.heap.size 24 1 v2 n2 (Wv A2) → (∀ q, v1.ownBlock = some q → v2.ownBlock ≠ some q) → R .normal a' w1) : (q1 (qd 1 (qf Try.f11))).wp Try.prog R a w := by
  have g0 := gI hz h0 (by decide)
  have g1 := gI hz h1 (by decide)
  have kkA := PLift.up kk
  clear kk
  refine wp_region_lit ?_
  go_wp2_with (go_at_call 6; refine (c1).mono ?_; rintro e w1 ⟨v1, v2, n1, n2, rfl, b1, o1, o2, s12⟩; obtain ⟨ua, uc, rfl⟩ := ow_shape o1; obtain ⟨va, vc, rfl⟩ := ow_shape o2)
  refine kkA.down _ w1 _ _ n1 n2 (by simp [hz]) (fun t ht => ?_) ?_ ?_ ?_ rfl b1 o1 o2 s12
  · dsimp only [Act.put]
    repeat rw [gset_ne (by omega)]
  · dsimp only [Act.put]
    repeat (first | rw [gset_eq (by simp [hz])] | rw [gset_ne (by decide)])
  · dsimp only [Act.put]
    repeat (first | rw [gset_eq (by simp [hz])] | rw [gset_ne (by decide)])
  · dsimp only [Act.put]
    repeat (first | rw [gset_eq (by simp [hz])] | rw [gset_ne (by decide)])
theorem du0 {a : Act} {w : World} {R : Exit → Act → World → Prop}  (hz : a.tmps.size = 26)
    (kk : ∀ (a' : Act) , a'.tmps.size = 26 → (∀ t, t < 4 → a'.tmps.getD t undef = a.tmps.getD t undef) → a'.defers = a.defers → R .normal a' w) : (q1 (qf Try.f8)).wp Try.prog R a w := by
  have kkA := PLift.up kk
  clear kk
  refine wp_region_lit ?_
  go_wp2
  refine kkA.down _  (by simp [hz]) (fun t ht => ?_)  rfl 
  · dsimp only [Act.put]
    repeat rw [gset_ne (by omega)]
theorem du1 {a : Act} {w : World} {R : Exit → Act → World → Prop} {va vb : Value} {A1 A2 : List Nat} {f : Int} (hz : a.tmps.size = 26) (h0 : a.tmps.getD 0 undef = va) (h1 : a.tmps.getD 1 undef = vb)
    (c1 : Calls Try.prog 6 #[va, vb] w (CutR w A1 A2 f))
    (kk : ∀ (a' : Act) (w1 : World) (v1 v2 : Value) (n1 n2 : Nat), a'.tmps.size = 26 → (∀ t, t < 4 → a'.tmps.getD t undef = a.tmps.getD t undef) → a'.tmps.getD 6 undef = v1 → a'.tmps.getD 7 undef = v2 → a'.tmps.getD 8 undef = .int .i64 f → a'.defers = a.defers → Below w.heap.size w w1 → w1.ownsRow w.heap.size 24 1 v1 n1 (Wv A1) → w1.ownsRow w.heap.size 24 1 v2 n2 (Wv A2) → (∀ q, v1.ownBlock = some q → v2.ownBlock ≠ some q) → R .normal a' w1) : (q1 (qd 1 (qf Try.f8))).wp Try.prog R a w := by
  have g0 := gI hz h0 (by decide)
  have g1 := gI hz h1 (by decide)
  have kkA := PLift.up kk
  clear kk
  refine wp_region_lit ?_
  go_wp2_with (go_at_call 6; refine (c1).mono ?_; rintro e w1 ⟨v1, v2, n1, n2, rfl, b1, o1, o2, s12⟩; obtain ⟨ua, uc, rfl⟩ := ow_shape o1; obtain ⟨va, vc, rfl⟩ := ow_shape o2)
  refine kkA.down _ w1 _ _ n1 n2 (by simp [hz]) (fun t ht => ?_) ?_ ?_ ?_ rfl b1 o1 o2 s12
  · dsimp only [Act.put]
    repeat rw [gset_ne (by omega)]
  · dsimp only [Act.put]
    repeat (first | rw [gset_eq (by simp [hz])] | rw [gset_ne (by decide)])
  · dsimp only [Act.put]
    repeat (first | rw [gset_eq (by simp [hz])] | rw [gset_ne (by decide)])
  · dsimp only [Act.put]
    repeat (first | rw [gset_eq (by simp [hz])] | rw [gset_ne (by decide)])
theorem dn0 {a : Act} {w : World} {R : Exit → Act → World → Prop}  (hz : a.tmps.size = 29)
    (kk : ∀ (a' : Act) , a'.tmps.size = 29 → (∀ t, t < 4 → a'.tmps.getD t undef = a.tmps.getD t undef) → a'.defers = a.defers → R .normal a' w) : (q1 (qf Try.f9)).wp Try.prog R a w := by
  have kkA := PLift.up kk
  clear kk
  refine wp_region_lit ?_
  go_wp2
  refine kkA.down _  (by simp [hz]) (fun t ht => ?_)  rfl 
  · dsimp only [Act.put]
    repeat rw [gset_ne (by omega)]
theorem dn1 {a : Act} {w : World} {R : Exit → Act → World → Prop} {va vb : Value} {A1 A2 : List Nat} {f : Int} (hz : a.tmps.size = 29) (h0 : a.tmps.getD 0 undef = va) (h1 : a.tmps.getD 1 undef = vb)
    (c1 : Calls Try.prog 6 #[va, vb] w (CutR w A1 A2 f))
    (kk : ∀ (a' : Act) (w1 : World) (v1 v2 : Value) (n1 n2 : Nat), a'.tmps.size = 29 → (∀ t, t < 4 → a'.tmps.getD t undef = a.tmps.getD t undef) → a'.tmps.getD 6 undef = v1 → a'.tmps.getD 7 undef = v2 → a'.tmps.getD 8 undef = .int .i64 f → a'.defers = a.defers → Below w.heap.size w w1 → w1.ownsRow w.heap.size 24 1 v1 n1 (Wv A1) → w1.ownsRow w.heap.size 24 1 v2 n2 (Wv A2) → (∀ q, v1.ownBlock = some q → v2.ownBlock ≠ some q) → R .normal a' w1) : (q1 (qd 1 (qf Try.f9))).wp Try.prog R a w := by
  have g0 := gI hz h0 (by decide)
  have g1 := gI hz h1 (by decide)
  have kkA := PLift.up kk
  clear kk
  refine wp_region_lit ?_
  go_wp2_with (go_at_call 6; refine (c1).mono ?_; rintro e w1 ⟨v1, v2, n1, n2, rfl, b1, o1, o2, s12⟩; obtain ⟨ua, uc, rfl⟩ := ow_shape o1; obtain ⟨va, vc, rfl⟩ := ow_shape o2)
  refine kkA.down _ w1 _ _ n1 n2 (by simp [hz]) (fun t ht => ?_) ?_ ?_ ?_ rfl b1 o1 o2 s12
  · dsimp only [Act.put]
    repeat rw [gset_ne (by omega)]
  · dsimp only [Act.put]
    repeat (first | rw [gset_eq (by simp [hz])] | rw [gset_ne (by decide)])
  · dsimp only [Act.put]
    repeat (first | rw [gset_eq (by simp [hz])] | rw [gset_ne (by decide)])
  · dsimp only [Act.put]
    repeat (first | rw [gset_eq (by simp [hz])] | rw [gset_ne (by decide)])
theorem dm2 {a : Act} {w : World} {R : Exit → Act → World → Prop} {u : Value} {f : Int} (hz : a.tmps.size = 18) (h7 : a.tmps.getD 7 undef = u) (h8 : a.tmps.getD 8 undef = .int .i64 f)
    (kk : ∀ (a' : Act) , a'.tmps.size = 18 → (∀ t, t < 4 → a'.tmps.getD t undef = a.tmps.getD t undef) → a'.tmps.getD 4 undef = u → a'.tmps.getD 5 undef = .int .i64 f → a'.defers = a.defers → R .normal a' w) : (q1 (qd 2 (qf Try.f7))).wp Try.prog R a w := by
  have g7 := gI hz h7 (by decide)
  have g8 := gI hz h8 (by decide)
  have kkA := PLift.up kk
  clear kk
  refine wp_region_lit ?_
  go_wp2
  refine kkA.down _  (by simp [hz]) (fun t ht => ?_) ?_ ?_ rfl 
  · dsimp only [Act.put]
    repeat rw [gset_ne (by omega)]
  · dsimp only [Act.put]
    repeat (first | rw [gset_eq (by simp [hz])] | rw [gset_ne (by decide)])
  · dsimp only [Act.put]
    repeat (first | rw [gset_eq (by simp [hz])] | rw [gset_ne (by decide)])
theorem dx2f {a : Act} {w : World} {R : Exit → Act → World → Prop}  (hz : a.tmps.size = 25) (h8 : a.tmps.getD 8 undef = .int .i64 0)
    (kk : ∀ (a' : Act) , a'.tmps.size = 25 → (∀ t, t < 9 → a'.tmps.getD t undef = a.tmps.getD t undef) → a'.tmps.getD 16 undef = .bool false → a'.defers = a.defers → R .normal a' w) : (q1 (qb (q1 (qd 2 (qf Try.f11))))).wp Try.prog R a w := by
  have g8 := gI hz h8 (by decide)
  have kkA := PLift.up kk
  clear kk
  refine wp_region_lit ?_
  go_wp2
  refine kkA.down _  (by simp [hz]) (fun t ht => ?_) ?_ rfl 
  · dsimp only [Act.put]
    repeat rw [gset_ne (by omega)]
  · dsimp only [Act.put]
    repeat (first | rw [gset_eq (by simp [hz])] | rw [gset_ne (by decide)])
theorem dx2t {a : Act} {w : World} {R : Exit → Act → World → Prop}  (hz : a.tmps.size = 25) (h8 : a.tmps.getD 8 undef = .int .i64 1)
    (kk : ∀ (a' : Act) , a'.tmps.size = 25 → (∀ t, t < 9 → a'.tmps.getD t undef = a.tmps.getD t undef) → a'.tmps.getD 16 undef = .bool true → a'.defers = a.defers → R .normal a' w) : (q1 (qb (q1 (qd 2 (qf Try.f11))))).wp Try.prog R a w := by
  have g8 := gI hz h8 (by decide)
  have kkA := PLift.up kk
  clear kk
  refine wp_region_lit ?_
  go_wp2
  refine kkA.down _  (by simp [hz]) (fun t ht => ?_) ?_ rfl 
  · dsimp only [Act.put]
    repeat rw [gset_ne (by omega)]
  · dsimp only [Act.put]
    repeat (first | rw [gset_eq (by simp [hz])] | rw [gset_ne (by decide)])
theorem dx3 {a : Act} {w : World} {R : Exit → Act → World → Prop}  (hz : a.tmps.size = 25) (h8 : a.tmps.getD 8 undef = .int .i64 1)
    (kk : ∀ (a' : Act) , a'.tmps.size = 25 → (∀ t, t < 4 → a'.tmps.getD t undef = a.tmps.getD t undef) → a'.tmps.getD 4 undef = .slice none 0 0 → a'.tmps.getD 5 undef = .int .i64 1 → a'.defers = a.defers → R .normal a' w) : (q1 (qt (q2 (qb (q1 (qd 2 (qf Try.f11))))))).wp Try.prog R a w := by
  have g8 := gI hz h8 (by decide)
  have kkA := PLift.up kk
  clear kk
  refine wp_region_lit ?_
  go_wp2
  refine kkA.down _  (by simp [hz]) (fun t ht => ?_) ?_ ?_ rfl 
  · dsimp only [Act.put]
    repeat rw [gset_ne (by omega)]
  · dsimp only [Act.put]
    repeat (first | rw [gset_eq (by simp [hz])] | rw [gset_ne (by decide)])
  · dsimp only [Act.put]
    repeat (first | rw [gset_eq (by simp [hz])] | rw [gset_ne (by decide)])
theorem dx4t {a : Act} {w : World} {R : Exit → Act → World → Prop} {xa : Option Addr} {xn xc : Nat} (hz : a.tmps.size = 25) (h7 : a.tmps.getD 7 undef = .slice xa xn xc)
    (hl : 0 < (xn : Int))
    (kk : ∀ (a' : Act) , a'.tmps.size = 25 → (∀ t, t < 9 → a'.tmps.getD t undef = a.tmps.getD t undef) → a'.tmps.getD 20 undef = .bool true → a'.defers = a.defers → R .normal a' w) : (q1 (qe (q2 (qb (q1 (qd 2 (qf Try.f11))))))).wp Try.prog R a w := by
  have g7 := gI hz h7 (by decide)
  have kkA := PLift.up kk
  clear kk
  refine wp_region_lit ?_
  go_wp2
  refine kkA.down _  (by simp [hz]) (fun t ht => ?_) ?_ rfl 
  · dsimp only [Act.put]
    repeat rw [gset_ne (by omega)]
  · dsimp only [Act.put]
    repeat (first | rw [gset_eq (by simp [hz])] | rw [gset_ne (by decide)])
    all_goals (first | done | exact congrArg Value.bool (decide_eq_true (by omega)) | exact congrArg Value.bool (decide_eq_false (by omega)))
theorem dx4f {a : Act} {w : World} {R : Exit → Act → World → Prop} {xa : Option Addr} {xn xc : Nat} (hz : a.tmps.size = 25) (h7 : a.tmps.getD 7 undef = .slice xa xn xc)
    (hl : ¬ 0 < (xn : Int))
    (kk : ∀ (a' : Act) , a'.tmps.size = 25 → (∀ t, t < 9 → a'.tmps.getD t undef = a.tmps.getD t undef) → a'.tmps.getD 20 undef = .bool false → a'.defers = a.defers → R .normal a' w) : (q1 (qe (q2 (qb (q1 (qd 2 (qf Try.f11))))))).wp Try.prog R a w := by
  have g7 := gI hz h7 (by decide)
  have kkA := PLift.up kk
  clear kk
  refine wp_region_lit ?_
  go_wp2
  refine kkA.down _  (by simp [hz]) (fun t ht => ?_) ?_ rfl 
  · dsimp only [Act.put]
    repeat rw [gset_ne (by omega)]
  · dsimp only [Act.put]
    repeat (first | rw [gset_eq (by simp [hz])] | rw [gset_ne (by decide)])
    all_goals (first | done | exact congrArg Value.bool (decide_eq_true (by omega)) | exact congrArg Value.bool (decide_eq_false (by omega)))
theorem dx5 {a : Act} {w : World} {R : Exit → Act → World → Prop}  (hz : a.tmps.size = 25)
    (kk : ∀ (a' : Act) , a'.tmps.size = 25 → (∀ t, t < 4 → a'.tmps.getD t undef = a.tmps.getD t undef) → a'.tmps.getD 4 undef = .slice none 0 0 → a'.tmps.getD 5 undef = .int .i64 4 → a'.defers = a.defers → R .normal a' w) : (q1 (qt (q2 (qe (q2 (qb (q1 (qd 2 (qf Try.f11))))))))).wp Try.prog R a w := by
  have kkA := PLift.up kk
  clear kk
  refine wp_region_lit ?_
  go_wp2
  refine kkA.down _  (by simp [hz]) (fun t ht => ?_) ?_ ?_ rfl 
  · dsimp only [Act.put]
    repeat rw [gset_ne (by omega)]
  · dsimp only [Act.put]
    repeat (first | rw [gset_eq (by simp [hz])] | rw [gset_ne (by decide)])
  · dsimp only [Act.put]
    repeat (first | rw [gset_eq (by simp [hz])] | rw [gset_ne (by decide)])
theorem dx6 {a : Act} {w : World} {R : Exit → Act → World → Prop} {u : Value} (hz : a.tmps.size = 25) (h6 : a.tmps.getD 6 undef = u)
    (kk : ∀ (a' : Act) , a'.tmps.size = 25 → (∀ t, t < 4 → a'.tmps.getD t undef = a.tmps.getD t undef) → a'.tmps.getD 4 undef = u → a'.tmps.getD 5 undef = .int .i64 0 → a'.defers = a.defers → R .normal a' w) : (q1 (qd 3 (qf Try.f11))).wp Try.prog R a w := by
  have g6 := gI hz h6 (by decide)
  have kkA := PLift.up kk
  clear kk
  refine wp_region_lit ?_
  go_wp2
  refine kkA.down _  (by simp [hz]) (fun t ht => ?_) ?_ ?_ rfl 
  · dsimp only [Act.put]
    repeat rw [gset_ne (by omega)]
  · dsimp only [Act.put]
    repeat (first | rw [gset_eq (by simp [hz])] | rw [gset_ne (by decide)])
  · dsimp only [Act.put]
    repeat (first | rw [gset_eq (by simp [hz])] | rw [gset_ne (by decide)])
theorem du2f {a : Act} {w : World} {R : Exit → Act → World → Prop}  (hz : a.tmps.size = 26) (h8 : a.tmps.getD 8 undef = .int .i64 0)
    (kk : ∀ (a' : Act) , a'.tmps.size = 26 → (∀ t, t < 9 → a'.tmps.getD t undef = a.tmps.getD t undef) → a'.tmps.getD 17 undef = .bool false → a'.defers = a.defers → R .normal a' w) : (q1 (q1 (qd 2 (qf Try.f8)))).wp Try.prog R a w := by
  have g8 := gI hz h8 (by decide)
  have kkA := PLift.up kk
  clear kk
  refine wp_region_lit ?_
  go_wp2
  refine kkA.down _  (by simp [hz]) (fun t ht => ?_) ?_ rfl 
  · dsimp only [Act.put]
    repeat rw [gset_ne (by omega)]
  · dsimp only [Act.put]
    repeat (first | rw [gset_eq (by simp [hz])] | rw [gset_ne (by decide)])
theorem du2t {a : Act} {w : World} {R : Exit → Act → World → Prop}  (hz : a.tmps.size = 26) (h8 : a.tmps.getD 8 undef = .int .i64 1)
    (kk : ∀ (a' : Act) , a'.tmps.size = 26 → (∀ t, t < 9 → a'.tmps.getD t undef = a.tmps.getD t undef) → a'.tmps.getD 17 undef = .bool true → a'.defers = a.defers → R .normal a' w) : (q1 (q1 (qd 2 (qf Try.f8)))).wp Try.prog R a w := by
  have g8 := gI hz h8 (by decide)
  have kkA := PLift.up kk
  clear kk
  refine wp_region_lit ?_
  go_wp2
  refine kkA.down _  (by simp [hz]) (fun t ht => ?_) ?_ rfl 
  · dsimp only [Act.put]
    repeat rw [gset_ne (by omega)]
  · dsimp only [Act.put]
    repeat (first | rw [gset_eq (by simp [hz])] | rw [gset_ne (by decide)])
theorem du3 {a : Act} {w : World} {R : Exit → Act → World → Prop}  (hz : a.tmps.size = 26) (h8 : a.tmps.getD 8 undef = .int .i64 1)
    (kk : ∀ (a' : Act) , a'.tmps.size = 26 → (∀ t, t < 4 → a'.tmps.getD t undef = a.tmps.getD t undef) → a'.tmps.getD 4 undef = .slice none 0 0 → a'.tmps.getD 5 undef = .int .i64 1 → a'.defers = a.defers → R .normal a' w) : (q1 (qt (q2 (q1 (qd 2 (qf Try.f8)))))).wp Try.prog R a w := by
  have g8 := gI hz h8 (by decide)
  have kkA := PLift.up kk
  clear kk
  refine wp_region_lit ?_
  go_wp2
  refine kkA.down _  (by simp [hz]) (fun t ht => ?_) ?_ ?_ rfl 
  · dsimp only [Act.put]
    repeat rw [gset_ne (by omega)]
  · dsimp only [Act.put]
    repeat (first | rw [gset_eq (by simp [hz])] | rw [gset_ne (by decide)])
  · dsimp only [Act.put]
    repeat (first | rw [gset_eq (by simp [hz])] | rw [gset_ne (by decide)])
theorem du4t {a : Act} {w : World} {R : Exit → Act → World → Prop} {xa : Option Addr} {xn xc : Nat} (hz : a.tmps.size = 26) (h7 : a.tmps.getD 7 undef = .slice xa xn xc)
    (hl : 0 < (xn : Int))
    (kk : ∀ (a' : Act) , a'.tmps.size = 26 → (∀ t, t < 9 → a'.tmps.getD t undef = a.tmps.getD t undef) → a'.tmps.getD 21 undef = .bool true → a'.defers = a.defers → R .normal a' w) : (q1 (q1 (qd 3 (qf Try.f8)))).wp Try.prog R a w := by
  have g7 := gI hz h7 (by decide)
  have kkA := PLift.up kk
  clear kk
  refine wp_region_lit ?_
  go_wp2
  refine kkA.down _  (by simp [hz]) (fun t ht => ?_) ?_ rfl 
  · dsimp only [Act.put]
    repeat rw [gset_ne (by omega)]
  · dsimp only [Act.put]
    repeat (first | rw [gset_eq (by simp [hz])] | rw [gset_ne (by decide)])
    all_goals (first | done | exact congrArg Value.bool (decide_eq_true (by omega)) | exact congrArg Value.bool (decide_eq_false (by omega)))
theorem du4f {a : Act} {w : World} {R : Exit → Act → World → Prop} {xa : Option Addr} {xn xc : Nat} (hz : a.tmps.size = 26) (h7 : a.tmps.getD 7 undef = .slice xa xn xc)
    (hl : ¬ 0 < (xn : Int))
    (kk : ∀ (a' : Act) , a'.tmps.size = 26 → (∀ t, t < 9 → a'.tmps.getD t undef = a.tmps.getD t undef) → a'.tmps.getD 21 undef = .bool false → a'.defers = a.defers → R .normal a' w) : (q1 (q1 (qd 3 (qf Try.f8)))).wp Try.prog R a w := by
  have g7 := gI hz h7 (by decide)
  have kkA := PLift.up kk
  clear kk
  refine wp_region_lit ?_
  go_wp2
  refine kkA.down _  (by simp [hz]) (fun t ht => ?_) ?_ rfl 
  · dsimp only [Act.put]
    repeat rw [gset_ne (by omega)]
  · dsimp only [Act.put]
    repeat (first | rw [gset_eq (by simp [hz])] | rw [gset_ne (by decide)])
    all_goals (first | done | exact congrArg Value.bool (decide_eq_true (by omega)) | exact congrArg Value.bool (decide_eq_false (by omega)))
theorem du5 {a : Act} {w : World} {R : Exit → Act → World → Prop} {u : Value} {A S : List Nat} (hz : a.tmps.size = 26) (h6 : a.tmps.getD 6 undef = u)
    (c1 : Calls Try.prog 30 #[.int .u64 1] w (RowR w A)) (c2 : ∀ v m w1, Below w.heap.size w w1 → w1.ownsRow w.heap.size 24 1 v m (Wv A) → m ≤ maxLen → Calls Try.prog 32 #[u, v] w1 (RowR w1 S))
    (kk : ∀ (a' : Act) (w1 w2 : World) (u3 : Value) (n3 : Nat), a'.tmps.size = 26 → (∀ t, t < 4 → a'.tmps.getD t undef = a.tmps.getD t undef) → a'.tmps.getD 6 undef = u3 → a'.defers = a.defers → Below w.heap.size w w1 → Below w1.heap.size w1 w2 → w2.ownsRow w1.heap.size 24 1 u3 n3 (Wv S) → n3 ≤ maxLen → R .normal a' w2) : (qt (q2 (q1 (qd 3 (qf Try.f8))))).wp Try.prog R a w := by
  have g6 := gI hz h6 (by decide)
  have kkA := PLift.up kk
  clear kk
  refine wp_region_lit ?_
  go_wp2_with (first
    | (go_at_call 30; refine (c1).mono ?_; rintro e w1 ⟨v, m, rfl, b1, o1, m1⟩; have c3 := c2 v m w1 b1 o1 m1; obtain ⟨ua, uc, rfl⟩ := ow_shape o1)
    | (go_at_call 32; refine (c3).mono ?_; rintro e w2 ⟨v3, n3, rfl, b2, o2, m2⟩; obtain ⟨ta, tc, rfl⟩ := ow_shape o2))
  refine kkA.down _ w1 w2 _ n3 (by simp [hz]) (fun t ht => ?_) ?_ rfl b1 b2 o2 m2
  · dsimp only [Act.put]
    repeat rw [gset_ne (by omega)]
  · dsimp only [Act.put]
    repeat (first | rw [gset_eq (by simp [hz])] | rw [gset_ne (by decide)])
theorem du6 {a : Act} {w : World} {R : Exit → Act → World → Prop} {u : Value} (hz : a.tmps.size = 26) (h6 : a.tmps.getD 6 undef = u)
    (kk : ∀ (a' : Act) , a'.tmps.size = 26 → (∀ t, t < 4 → a'.tmps.getD t undef = a.tmps.getD t undef) → a'.tmps.getD 4 undef = u → a'.tmps.getD 5 undef = .int .i64 0 → a'.defers = a.defers → R .normal a' w) : (q1 (qd 4 (qf Try.f8))).wp Try.prog R a w := by
  have g6 := gI hz h6 (by decide)
  have kkA := PLift.up kk
  clear kk
  refine wp_region_lit ?_
  go_wp2
  refine kkA.down _  (by simp [hz]) (fun t ht => ?_) ?_ ?_ rfl 
  · dsimp only [Act.put]
    repeat rw [gset_ne (by omega)]
  · dsimp only [Act.put]
    repeat (first | rw [gset_eq (by simp [hz])] | rw [gset_ne (by decide)])
  · dsimp only [Act.put]
    repeat (first | rw [gset_eq (by simp [hz])] | rw [gset_ne (by decide)])
theorem dn2f {a : Act} {w : World} {R : Exit → Act → World → Prop}  (hz : a.tmps.size = 29) (h8 : a.tmps.getD 8 undef = .int .i64 0)
    (kk : ∀ (a' : Act) , a'.tmps.size = 29 → (∀ t, t < 9 → a'.tmps.getD t undef = a.tmps.getD t undef) → a'.tmps.getD 17 undef = .bool false → a'.defers = a.defers → R .normal a' w) : (q1 (q1 (qd 2 (qf Try.f9)))).wp Try.prog R a w := by
  have g8 := gI hz h8 (by decide)
  have kkA := PLift.up kk
  clear kk
  refine wp_region_lit ?_
  go_wp2
  refine kkA.down _  (by simp [hz]) (fun t ht => ?_) ?_ rfl 
  · dsimp only [Act.put]
    repeat rw [gset_ne (by omega)]
  · dsimp only [Act.put]
    repeat (first | rw [gset_eq (by simp [hz])] | rw [gset_ne (by decide)])
theorem dn2t {a : Act} {w : World} {R : Exit → Act → World → Prop}  (hz : a.tmps.size = 29) (h8 : a.tmps.getD 8 undef = .int .i64 1)
    (kk : ∀ (a' : Act) , a'.tmps.size = 29 → (∀ t, t < 9 → a'.tmps.getD t undef = a.tmps.getD t undef) → a'.tmps.getD 17 undef = .bool true → a'.defers = a.defers → R .normal a' w) : (q1 (q1 (qd 2 (qf Try.f9)))).wp Try.prog R a w := by
  have g8 := gI hz h8 (by decide)
  have kkA := PLift.up kk
  clear kk
  refine wp_region_lit ?_
  go_wp2
  refine kkA.down _  (by simp [hz]) (fun t ht => ?_) ?_ rfl 
  · dsimp only [Act.put]
    repeat rw [gset_ne (by omega)]
  · dsimp only [Act.put]
    repeat (first | rw [gset_eq (by simp [hz])] | rw [gset_ne (by decide)])
theorem dn3 {a : Act} {w : World} {R : Exit → Act → World → Prop}  (hz : a.tmps.size = 29) (h8 : a.tmps.getD 8 undef = .int .i64 1)
    (kk : ∀ (a' : Act) , a'.tmps.size = 29 → (∀ t, t < 4 → a'.tmps.getD t undef = a.tmps.getD t undef) → a'.tmps.getD 4 undef = .slice none 0 0 → a'.tmps.getD 5 undef = .int .i64 1 → a'.defers = a.defers → R .normal a' w) : (q1 (qt (q2 (q1 (qd 2 (qf Try.f9)))))).wp Try.prog R a w := by
  have g8 := gI hz h8 (by decide)
  have kkA := PLift.up kk
  clear kk
  refine wp_region_lit ?_
  go_wp2
  refine kkA.down _  (by simp [hz]) (fun t ht => ?_) ?_ ?_ rfl 
  · dsimp only [Act.put]
    repeat rw [gset_ne (by omega)]
  · dsimp only [Act.put]
    repeat (first | rw [gset_eq (by simp [hz])] | rw [gset_ne (by decide)])
  · dsimp only [Act.put]
    repeat (first | rw [gset_eq (by simp [hz])] | rw [gset_ne (by decide)])
theorem dn4t {a : Act} {w : World} {R : Exit → Act → World → Prop} {r vb : Value} {S : List Nat} {s : Int} (hz : a.tmps.size = 29) (h7 : a.tmps.getD 7 undef = r) (h1 : a.tmps.getD 1 undef = vb)
    (c1 : Calls Try.prog 32 #[r, r] w (RowR w S)) (c2 : ∀ v m w1, Below w.heap.size w w1 → w1.ownsRow w.heap.size 24 1 v m (Wv S) → m ≤ maxLen → Calls Try.prog 29 #[v, vb] w1 (fun e w2 => e = .returned (.int .i64 s) ∧ Below w1.heap.size w1 w2)) (hl : 0 ≤ s)
    (kk : ∀ (a' : Act) (w1 w2 : World), a'.tmps.size = 29 → (∀ t, t < 9 → a'.tmps.getD t undef = a.tmps.getD t undef) → a'.tmps.getD 24 undef = .bool true → a'.defers = a.defers → Below w.heap.size w w1 → Below w1.heap.size w1 w2 → R .normal a' w2) : (q1 (q1 (qd 3 (qf Try.f9)))).wp Try.prog R a w := by
  have g7 := gI hz h7 (by decide)
  have g1 := gI hz h1 (by decide)
  have kkA := PLift.up kk
  clear kk
  refine wp_region_lit ?_
  go_wp2_with (first
    | (go_at_call 32; refine (c1).mono ?_; rintro e w1 ⟨v, m, rfl, b1, o1, m1⟩; have c3 := c2 v m w1 b1 o1 m1; obtain ⟨ua, uc, rfl⟩ := ow_shape o1)
    | (go_at_call 29; refine (c3).mono ?_; rintro e w2 ⟨rfl, b2⟩))
  refine kkA.down _ w1 w2 (by simp [hz]) (fun t ht => ?_) ?_ rfl b1 b2
  · dsimp only [Act.put]
    repeat rw [gset_ne (by omega)]
  · dsimp only [Act.put]
    repeat (first | rw [gset_eq (by simp [hz])] | rw [gset_ne (by decide)])
    all_goals (first | done | exact congrArg Value.bool (decide_eq_true (by omega)) | exact congrArg Value.bool (decide_eq_false (by omega)))
theorem dn4f {a : Act} {w : World} {R : Exit → Act → World → Prop} {r vb : Value} {S : List Nat} {s : Int} (hz : a.tmps.size = 29) (h7 : a.tmps.getD 7 undef = r) (h1 : a.tmps.getD 1 undef = vb)
    (c1 : Calls Try.prog 32 #[r, r] w (RowR w S)) (c2 : ∀ v m w1, Below w.heap.size w w1 → w1.ownsRow w.heap.size 24 1 v m (Wv S) → m ≤ maxLen → Calls Try.prog 29 #[v, vb] w1 (fun e w2 => e = .returned (.int .i64 s) ∧ Below w1.heap.size w1 w2)) (hl : ¬ 0 ≤ s)
    (kk : ∀ (a' : Act) (w1 w2 : World), a'.tmps.size = 29 → (∀ t, t < 9 → a'.tmps.getD t undef = a.tmps.getD t undef) → a'.tmps.getD 24 undef = .bool false → a'.defers = a.defers → Below w.heap.size w w1 → Below w1.heap.size w1 w2 → R .normal a' w2) : (q1 (q1 (qd 3 (qf Try.f9)))).wp Try.prog R a w := by
  have g7 := gI hz h7 (by decide)
  have g1 := gI hz h1 (by decide)
  have kkA := PLift.up kk
  clear kk
  refine wp_region_lit ?_
  go_wp2_with (first
    | (go_at_call 32; refine (c1).mono ?_; rintro e w1 ⟨v, m, rfl, b1, o1, m1⟩; have c3 := c2 v m w1 b1 o1 m1; obtain ⟨ua, uc, rfl⟩ := ow_shape o1)
    | (go_at_call 29; refine (c3).mono ?_; rintro e w2 ⟨rfl, b2⟩))
  refine kkA.down _ w1 w2 (by simp [hz]) (fun t ht => ?_) ?_ rfl b1 b2
  · dsimp only [Act.put]
    repeat rw [gset_ne (by omega)]
  · dsimp only [Act.put]
    repeat (first | rw [gset_eq (by simp [hz])] | rw [gset_ne (by decide)])
    all_goals (first | done | exact congrArg Value.bool (decide_eq_true (by omega)) | exact congrArg Value.bool (decide_eq_false (by omega)))
theorem dn5 {a : Act} {w : World} {R : Exit → Act → World → Prop} {u : Value} {A S : List Nat} (hz : a.tmps.size = 29) (h6 : a.tmps.getD 6 undef = u)
    (c1 : Calls Try.prog 30 #[.int .u64 1] w (RowR w A)) (c2 : ∀ v m w1, Below w.heap.size w w1 → w1.ownsRow w.heap.size 24 1 v m (Wv A) → m ≤ maxLen → Calls Try.prog 32 #[u, v] w1 (RowR w1 S))
    (kk : ∀ (a' : Act) (w1 w2 : World) (u3 : Value) (n3 : Nat), a'.tmps.size = 29 → (∀ t, t < 4 → a'.tmps.getD t undef = a.tmps.getD t undef) → a'.tmps.getD 6 undef = u3 → a'.defers = a.defers → Below w.heap.size w w1 → Below w1.heap.size w1 w2 → w2.ownsRow w1.heap.size 24 1 u3 n3 (Wv S) → n3 ≤ maxLen → R .normal a' w2) : (qt (q2 (q1 (qd 3 (qf Try.f9))))).wp Try.prog R a w := by
  have g6 := gI hz h6 (by decide)
  have kkA := PLift.up kk
  clear kk
  refine wp_region_lit ?_
  go_wp2_with (first
    | (go_at_call 30; refine (c1).mono ?_; rintro e w1 ⟨v, m, rfl, b1, o1, m1⟩; have c3 := c2 v m w1 b1 o1 m1; obtain ⟨ua, uc, rfl⟩ := ow_shape o1)
    | (go_at_call 32; refine (c3).mono ?_; rintro e w2 ⟨v3, n3, rfl, b2, o2, m2⟩; obtain ⟨ta, tc, rfl⟩ := ow_shape o2))
  refine kkA.down _ w1 w2 _ n3 (by simp [hz]) (fun t ht => ?_) ?_ rfl b1 b2 o2 m2
  · dsimp only [Act.put]
    repeat rw [gset_ne (by omega)]
  · dsimp only [Act.put]
    repeat (first | rw [gset_eq (by simp [hz])] | rw [gset_ne (by decide)])
theorem dn6 {a : Act} {w : World} {R : Exit → Act → World → Prop} {u : Value} (hz : a.tmps.size = 29) (h6 : a.tmps.getD 6 undef = u)
    (kk : ∀ (a' : Act) , a'.tmps.size = 29 → (∀ t, t < 4 → a'.tmps.getD t undef = a.tmps.getD t undef) → a'.tmps.getD 4 undef = u → a'.tmps.getD 5 undef = .int .i64 0 → a'.defers = a.defers → R .normal a' w) : (q1 (qd 4 (qf Try.f9))).wp Try.prog R a w := by
  have g6 := gI hz h6 (by decide)
  have kkA := PLift.up kk
  clear kk
  refine wp_region_lit ?_
  go_wp2
  refine kkA.down _  (by simp [hz]) (fun t ht => ?_) ?_ ?_ rfl 
  · dsimp only [Act.put]
    repeat rw [gset_ne (by omega)]
  · dsimp only [Act.put]
    repeat (first | rw [gset_eq (by simp [hz])] | rw [gset_ne (by decide)])
  · dsimp only [Act.put]
    repeat (first | rw [gset_eq (by simp [hz])] | rw [gset_ne (by decide)])
theorem dk0 {a : Act} {w : World} {R : Exit → Act → World → Prop}  (hz : a.tmps.size = 15)
    (kk : ∀ (a' : Act) , a'.tmps.size = 15 → (∀ t, t < 4 → a'.tmps.getD t undef = a.tmps.getD t undef) → a'.defers = a.defers → R .normal a' w) : (q1 (qf Try.f13)).wp Try.prog R a w := by
  have kkA := PLift.up kk
  clear kk
  refine wp_region_lit ?_
  go_wp2
  refine kkA.down _  (by simp [hz]) (fun t ht => ?_)  rfl 
  · dsimp only [Act.put]
    repeat rw [gset_ne (by omega)]
theorem dk1 {a : Act} {w : World} {R : Exit → Act → World → Prop} {va vb vm : Value} {A : List Nat} {f : Int} {Q1 : Value → World → Prop} (hz : a.tmps.size = 15) (h0 : a.tmps.getD 0 undef = va) (h1 : a.tmps.getD 1 undef = vb) (h2 : a.tmps.getD 2 undef = vm)
    (c1 : Calls Try.prog 34 #[va, vb] w (fun e w1 => ∃ a n c, e = .returned (.slice a n c) ∧ Q1 (.slice a n c) w1)) (c2 : ∀ v w1, Q1 v w1 → Calls Try.prog 7 #[v, vm] w1 (RowT w1 A (.int .i64 f)))
    (kk : ∀ (a' : Act) (v : Value) (w1 w2 : World) (u : Value) (n : Nat), a'.tmps.size = 15 → (∀ t, t < 4 → a'.tmps.getD t undef = a.tmps.getD t undef) → a'.tmps.getD 6 undef = u → a'.tmps.getD 7 undef = .int .i64 f → a'.defers = a.defers → Q1 v w1 → Below w1.heap.size w1 w2 → w2.ownsRow w1.heap.size 24 1 u n (Wv A) → n ≤ maxLen → R .normal a' w2) : (q1 (qd 1 (qf Try.f13))).wp Try.prog R a w := by
  have g0 := gI hz h0 (by decide)
  have g1 := gI hz h1 (by decide)
  have g2 := gI hz h2 (by decide)
  have kkA := PLift.up kk
  clear kk
  refine wp_region_lit ?_
  go_wp2_with (first
    | (go_at_call 34; refine (c1).mono ?_; rintro e w1 ⟨xa, xn, xc, rfl, hQ⟩; have c3 := c2 _ _ hQ; have hP := PLift.up hQ; clear hQ c1)
    | (go_at_call 7; refine (c3).mono ?_; rintro e w2 ⟨u, n, rfl, b2, o2, m2⟩; obtain ⟨ta, tc, rfl⟩ := ow_shape o2))
  refine kkA.down _ _ w1 w2 _ n (by simp [hz]) (fun t ht => ?_) ?_ ?_ rfl hP.down b2 o2 m2
  · dsimp only [Act.put]
    repeat rw [gset_ne (by omega)]
  · dsimp only [Act.put]
    repeat (first | rw [gset_eq (by simp [hz])] | rw [gset_ne (by decide)])
  · dsimp only [Act.put]
    repeat (first | rw [gset_eq (by simp [hz])] | rw [gset_ne (by decide)])
end Go.Proofs.Ytdaedplbhpiacaa
