/-
  div.Quo, raw: its regions.
-/
import Derived.Test.YtdaedplbhpiacaaDQ3
namespace Go.Proofs.Ytdaedplbhpiacaa
open Go Go.RowKit Go.Proofs Ab
set_option linter.unusedSimpArgs false
set_option linter.unusedVariables false
set_option maxHeartbeats 10000000
set_option maxHeartbeats 4000000
set_option maxRecDepth 2000000
def qt : Code → Code
  | .cond _ a _ => a
  | c => c
def qe : Code → Code
  | .cond _ _ b => b
  | c => c
theorem dq0 {a : Act} {w : World} {R : Exit → Act → World → Prop}  (hz : a.tmps.size = 51)
    (kk : ∀ (a' : Act) , a'.tmps.size = 51 → (∀ t, t < 12 → t ≠ 4 → t ≠ 5 → t ≠ 6 → a'.tmps.getD t undef = a.tmps.getD t undef) → a'.tmps.getD 4 undef = .slice none 0 0 → a'.tmps.getD 5 undef = .slice none 0 0 → a'.tmps.getD 6 undef = .int .i64 0 → a'.defers = a.defers → R .normal a' w) : (q1 (qf Try.f6)).wp Try.prog R a w := by
  have kkA := PLift.up kk
  clear kk
  refine wp_region_lit ?_
  go_wp2
  refine kkA.down _  (by simp [hz]) (fun t ht n4 n5 n6 => ?_) ?_ ?_ ?_ rfl 
  · dsimp only [Act.put]
    repeat rw [gset_ne (by omega)]
  · dsimp only [Act.put]
    repeat (first | rw [gset_eq (by simp [hz])] | rw [gset_ne (by decide)])
  · dsimp only [Act.put]
    repeat (first | rw [gset_eq (by simp [hz])] | rw [gset_ne (by decide)])
  · dsimp only [Act.put]
    repeat (first | rw [gset_eq (by simp [hz])] | rw [gset_ne (by decide)])
theorem dq1 {a : Act} {w : World} {R : Exit → Act → World → Prop} {va vb : Value} {A1 A2 : List Nat} (hz : a.tmps.size = 51) (h0 : a.tmps.getD 0 undef = va) (h1 : a.tmps.getD 1 undef = vb)
    (c1 : Calls Try.prog 28 #[va] w (RowR w A1)) (c2 : ∀ w1, Below w.heap.size w w1 → Calls Try.prog 28 #[vb] w1 (RowR w1 A2))
    (kk : ∀ (a' : Act) (w1 w2 : World) (u0 u1 : Value) (n0 n1 : Nat), a'.tmps.size = 51 → (∀ t, t < 12 → t ≠ 0 → t ≠ 1 → a'.tmps.getD t undef = a.tmps.getD t undef) → a'.tmps.getD 0 undef = u0 → a'.tmps.getD 1 undef = u1 → a'.defers = a.defers → Below w.heap.size w w1 → w1.ownsRow w.heap.size 24 1 u0 n0 (Wv A1) → n0 ≤ maxLen → Below w1.heap.size w1 w2 → w2.ownsRow w1.heap.size 24 1 u1 n1 (Wv A2) → n1 ≤ maxLen → R .normal a' w2) : (q1 (qd 1 (qf Try.f6))).wp Try.prog R a w := by
  have g0 := gI hz h0 (by decide)
  have g1 := gI hz h1 (by decide)
  have kkA := PLift.up kk
  clear kk
  refine wp_region_lit ?_
  go_wp2_with (first
    | (go_at_call 28; refine (c1).mono ?_; rintro e w1 ⟨u0, n0, rfl, b1, o1, m1⟩; clear c1; obtain ⟨ua, uc, rfl⟩ := ow_shape o1)
    | (go_at_call 28; refine (c2 w1 b1).mono ?_; rintro e w2 ⟨u1, n1, rfl, b2, o2, m2⟩; obtain ⟨va, vc, rfl⟩ := ow_shape o2))
  refine kkA.down _ w1 w2 _ _ n0 n1 (by simp [hz]) (fun t ht n0 n1 => ?_) ?_ ?_ rfl b1 o1 m1 b2 o2 m2
  · dsimp only [Act.put]
    repeat rw [gset_ne (by omega)]
  · dsimp only [Act.put]
    repeat (first | rw [gset_eq (by simp [hz])] | rw [gset_ne (by decide)])
  · dsimp only [Act.put]
    repeat (first | rw [gset_eq (by simp [hz])] | rw [gset_ne (by decide)])
theorem dq2t {a : Act} {w : World} {R : Exit → Act → World → Prop} {xa : Option Addr} {xn xc : Nat} (hz : a.tmps.size = 51) (h1 : a.tmps.getD 1 undef = .slice xa xn xc)
    (hl : (xn : Int) = 0)
    (kk : ∀ (a' : Act) , a'.tmps.size = 51 → (∀ t, t < 12 → a'.tmps.getD t undef = a.tmps.getD t undef) → a'.tmps.getD 16 undef = .bool true → a'.defers = a.defers → R .normal a' w) : (q1 (qb (q1 (qd 2 (qf Try.f6))))).wp Try.prog R a w := by
  have g1 := gI hz h1 (by decide)
  have kkA := PLift.up kk
  clear kk
  refine wp_region_lit ?_
  go_wp2
  refine kkA.down _  (by simp [hz]) (fun t ht => ?_) ?_ rfl 
  · dsimp only [Act.put]
    repeat rw [gset_ne (by omega)]
  · dsimp only [Act.put]
    repeat (first | rw [gset_eq (by simp [hz])] | rw [gset_ne (by decide)])
    all_goals (first | done | exact congrArg Value.bool (beq_iff_eq.2 hl) | exact congrArg Value.bool (beq_eq_false_iff_ne.2 hl))
theorem dq2f {a : Act} {w : World} {R : Exit → Act → World → Prop} {xa : Option Addr} {xn xc : Nat} (hz : a.tmps.size = 51) (h1 : a.tmps.getD 1 undef = .slice xa xn xc)
    (hl : ¬ (xn : Int) = 0)
    (kk : ∀ (a' : Act) , a'.tmps.size = 51 → (∀ t, t < 12 → a'.tmps.getD t undef = a.tmps.getD t undef) → a'.tmps.getD 16 undef = .bool false → a'.defers = a.defers → R .normal a' w) : (q1 (qb (q1 (qd 2 (qf Try.f6))))).wp Try.prog R a w := by
  have g1 := gI hz h1 (by decide)
  have kkA := PLift.up kk
  clear kk
  refine wp_region_lit ?_
  go_wp2
  refine kkA.down _  (by simp [hz]) (fun t ht => ?_) ?_ rfl 
  · dsimp only [Act.put]
    repeat rw [gset_ne (by omega)]
  · dsimp only [Act.put]
    repeat (first | rw [gset_eq (by simp [hz])] | rw [gset_ne (by decide)])
    all_goals (first | done | exact congrArg Value.bool (beq_iff_eq.2 hl) | exact congrArg Value.bool (beq_eq_false_iff_ne.2 hl))
theorem dq3 {a : Act} {w : World} {R : Exit → Act → World → Prop}  (hz : a.tmps.size = 51)
    (kk : ∀ (a' : Act) , a'.tmps.size = 51 → (∀ t, t < 4 → a'.tmps.getD t undef = a.tmps.getD t undef) → a'.tmps.getD 4 undef = .slice none 0 0 → a'.tmps.getD 5 undef = .slice none 0 0 → a'.tmps.getD 6 undef = .int .i64 1 → a'.defers = a.defers → R .normal a' w) : (q1 (qt (q2 (qb (q1 (qd 2 (qf Try.f6))))))).wp Try.prog R a w := by
  have kkA := PLift.up kk
  clear kk
  refine wp_region_lit ?_
  go_wp2
  refine kkA.down _  (by simp [hz]) (fun t ht => ?_) ?_ ?_ ?_ rfl 
  · dsimp only [Act.put]
    repeat rw [gset_ne (by omega)]
  · dsimp only [Act.put]
    repeat (first | rw [gset_eq (by simp [hz])] | rw [gset_ne (by decide)])
  · dsimp only [Act.put]
    repeat (first | rw [gset_eq (by simp [hz])] | rw [gset_ne (by decide)])
  · dsimp only [Act.put]
    repeat (first | rw [gset_eq (by simp [hz])] | rw [gset_ne (by decide)])
theorem dq4t {a : Act} {w : World} {R : Exit → Act → World → Prop} {u0 u1 : Value} {s : Int} (hz : a.tmps.size = 51) (h0 : a.tmps.getD 0 undef = u0) (h1 : a.tmps.getD 1 undef = u1)
    (c1 : Calls Try.prog 29 #[u0, u1] w (fun e w1 => e = .returned (.int .i64 s) ∧ Below w.heap.size w w1)) (hl : s < 0)
    (kk : ∀ (a' : Act) (w1 : World), a'.tmps.size = 51 → (∀ t, t < 12 → a'.tmps.getD t undef = a.tmps.getD t undef) → a'.tmps.getD 20 undef = .bool true → a'.defers = a.defers → Below w.heap.size w w1 → R .normal a' w1) : (q1 (qe (q2 (qb (q1 (qd 2 (qf Try.f6))))))).wp Try.prog R a w := by
  have g0 := gI hz h0 (by decide)
  have g1 := gI hz h1 (by decide)
  have kkA := PLift.up kk
  clear kk
  refine wp_region_lit ?_
  go_wp2_with (go_at_call 29; refine (c1).mono ?_; rintro e w1 ⟨rfl, b1⟩)
  refine kkA.down _ w1 (by simp [hz]) (fun t ht => ?_) ?_ rfl b1
  · dsimp only [Act.put]
    repeat rw [gset_ne (by omega)]
  · dsimp only [Act.put]
    repeat (first | rw [gset_eq (by simp [hz])] | rw [gset_ne (by decide)])
    all_goals (first | done | exact congrArg Value.bool (decide_eq_false (by omega)))
theorem dq4f {a : Act} {w : World} {R : Exit → Act → World → Prop} {u0 u1 : Value} {s : Int} (hz : a.tmps.size = 51) (h0 : a.tmps.getD 0 undef = u0) (h1 : a.tmps.getD 1 undef = u1)
    (c1 : Calls Try.prog 29 #[u0, u1] w (fun e w1 => e = .returned (.int .i64 s) ∧ Below w.heap.size w w1)) (hl : ¬ s < 0)
    (kk : ∀ (a' : Act) (w1 : World), a'.tmps.size = 51 → (∀ t, t < 12 → a'.tmps.getD t undef = a.tmps.getD t undef) → a'.tmps.getD 20 undef = .bool false → a'.defers = a.defers → Below w.heap.size w w1 → R .normal a' w1) : (q1 (qe (q2 (qb (q1 (qd 2 (qf Try.f6))))))).wp Try.prog R a w := by
  have g0 := gI hz h0 (by decide)
  have g1 := gI hz h1 (by decide)
  have kkA := PLift.up kk
  clear kk
  refine wp_region_lit ?_
  go_wp2_with (go_at_call 29; refine (c1).mono ?_; rintro e w1 ⟨rfl, b1⟩)
  refine kkA.down _ w1 (by simp [hz]) (fun t ht => ?_) ?_ rfl b1
  · dsimp only [Act.put]
    repeat rw [gset_ne (by omega)]
  · dsimp only [Act.put]
    repeat (first | rw [gset_eq (by simp [hz])] | rw [gset_ne (by decide)])
    all_goals (first | done | exact congrArg Value.bool (decide_eq_false (by omega)))
theorem dq5 {a : Act} {w : World} {R : Exit → Act → World → Prop} {u0 : Value} (hz : a.tmps.size = 51) (h0 : a.tmps.getD 0 undef = u0)
    (kk : ∀ (a' : Act) , a'.tmps.size = 51 → (∀ t, t < 4 → a'.tmps.getD t undef = a.tmps.getD t undef) → a'.tmps.getD 4 undef = .slice none 0 0 → a'.tmps.getD 5 undef = u0 → a'.tmps.getD 6 undef = .int .i64 0 → a'.defers = a.defers → R .normal a' w) : (q1 (qt (q2 (qe (q2 (qb (q1 (qd 2 (qf Try.f6))))))))).wp Try.prog R a w := by
  have g0 := gI hz h0 (by decide)
  have kkA := PLift.up kk
  clear kk
  refine wp_region_lit ?_
  go_wp2
  refine kkA.down _  (by simp [hz]) (fun t ht => ?_) ?_ ?_ ?_ rfl 
  · dsimp only [Act.put]
    repeat rw [gset_ne (by omega)]
  · dsimp only [Act.put]
    repeat (first | rw [gset_eq (by simp [hz])] | rw [gset_ne (by decide)])
  · dsimp only [Act.put]
    repeat (first | rw [gset_eq (by simp [hz])] | rw [gset_ne (by decide)])
  · dsimp only [Act.put]
    repeat (first | rw [gset_eq (by simp [hz])] | rw [gset_ne (by decide)])
theorem dq6t {a : Act} {w : World} {R : Exit → Act → World → Prop} {xa : Option Addr} {xn xc : Nat} (hz : a.tmps.size = 51) (h1 : a.tmps.getD 1 undef = .slice xa xn xc)
    (hl : (xn : Int) = 1)
    (kk : ∀ (a' : Act) , a'.tmps.size = 51 → (∀ t, t < 12 → a'.tmps.getD t undef = a.tmps.getD t undef) → a'.tmps.getD 26 undef = .bool true → a'.defers = a.defers → R .normal a' w) : (q1 (qe (q2 (qe (q2 (qb (q1 (qd 2 (qf Try.f6))))))))).wp Try.prog R a w := by
  have g1 := gI hz h1 (by decide)
  have kkA := PLift.up kk
  clear kk
  refine wp_region_lit ?_
  go_wp2
  refine kkA.down _  (by simp [hz]) (fun t ht => ?_) ?_ rfl 
  · dsimp only [Act.put]
    repeat rw [gset_ne (by omega)]
  · dsimp only [Act.put]
    repeat (first | rw [gset_eq (by simp [hz])] | rw [gset_ne (by decide)])
    all_goals (first | done | exact congrArg Value.bool (beq_iff_eq.2 hl) | exact congrArg Value.bool (beq_eq_false_iff_ne.2 hl))
theorem dq6f {a : Act} {w : World} {R : Exit → Act → World → Prop} {xa : Option Addr} {xn xc : Nat} (hz : a.tmps.size = 51) (h1 : a.tmps.getD 1 undef = .slice xa xn xc)
    (hl : ¬ (xn : Int) = 1)
    (kk : ∀ (a' : Act) , a'.tmps.size = 51 → (∀ t, t < 12 → a'.tmps.getD t undef = a.tmps.getD t undef) → a'.tmps.getD 26 undef = .bool false → a'.defers = a.defers → R .normal a' w) : (q1 (qe (q2 (qe (q2 (qb (q1 (qd 2 (qf Try.f6))))))))).wp Try.prog R a w := by
  have g1 := gI hz h1 (by decide)
  have kkA := PLift.up kk
  clear kk
  refine wp_region_lit ?_
  go_wp2
  refine kkA.down _  (by simp [hz]) (fun t ht => ?_) ?_ rfl 
  · dsimp only [Act.put]
    repeat rw [gset_ne (by omega)]
  · dsimp only [Act.put]
    repeat (first | rw [gset_eq (by simp [hz])] | rw [gset_ne (by decide)])
    all_goals (first | done | exact congrArg Value.bool (beq_iff_eq.2 hl) | exact congrArg Value.bool (beq_eq_false_iff_ne.2 hl))
theorem dq7 {a : Act} {w : World} {R : Exit → Act → World → Prop} {u0 : Value} {p c x r : Nat} {A : List Nat} (hz : a.tmps.size = 51) (h0 : a.tmps.getD 0 undef = u0) (h1 : a.tmps.getD 1 undef = .slice (some ⟨p, 0, none⟩) 1 c)
    (hx : w.cell? ⟨p, 0, none⟩ = some (.int .u64 (x : Int))) (c1 : Calls Try.prog 10 #[u0, .int .u64 (x : Int)] w (RowT3 w A (.int .u64 (r : Int)) (.int .i64 0)))
    (kk : ∀ (a' : Act) (w1 : World) (u7 : Value) (n7 : Nat), a'.tmps.size = 51 → (∀ t, t < 7 → a'.tmps.getD t undef = a.tmps.getD t undef) → a'.tmps.getD 7 undef = u7 → a'.tmps.getD 8 undef = .int .u64 (r : Int) → a'.tmps.getD 9 undef = .int .i64 0 → a'.defers = a.defers → Below w.heap.size w w1 → w1.ownsRow w.heap.size 24 1 u7 n7 (Wv A) → n7 ≤ maxLen → R .normal a' w1) : (q1 (qt (q2 (qe (q2 (qe (q2 (qb (q1 (qd 2 (qf Try.f6))))))))))).wp Try.prog R a w := by
  have g0 := gI hz h0 (by decide)
  have g1 := gI hz h1 (by decide)
  have kkA := PLift.up kk
  clear kk
  refine wp_region_lit ?_
  go_wp2_with (go_at_call 10; refine (c1).mono ?_; rintro e w1 ⟨u7, n7, rfl, b1, o1, m1⟩; obtain ⟨ua, uc, rfl⟩ := ow_shape o1)
  refine kkA.down _ w1 _ n7 (by simp [hz]) (fun t ht => ?_) ?_ ?_ ?_ rfl b1 o1 m1
  · dsimp only [Act.put]
    repeat rw [gset_ne (by omega)]
  · dsimp only [Act.put]
    repeat (first | rw [gset_eq (by simp [hz])] | rw [gset_ne (by decide)])
  · dsimp only [Act.put]
    repeat (first | rw [gset_eq (by simp [hz])] | rw [gset_ne (by decide)])
  · dsimp only [Act.put]
    repeat (first | rw [gset_eq (by simp [hz])] | rw [gset_ne (by decide)])
theorem dq8 {a : Act} {w : World} {R : Exit → Act → World → Prop} {u7 : Value} {r : Nat} {A : List Nat} (hz : a.tmps.size = 51) (h7 : a.tmps.getD 7 undef = u7) (h8 : a.tmps.getD 8 undef = .int .u64 (r : Int)) (h9 : a.tmps.getD 9 undef = .int .i64 0)
    (c1 : Calls Try.prog 30 #[.int .u64 (r : Int)] w (RowR w A))
    (kk : ∀ (a' : Act) (w1 : World) (v : Value) (m : Nat), a'.tmps.size = 51 → (∀ t, t < 4 → a'.tmps.getD t undef = a.tmps.getD t undef) → a'.tmps.getD 4 undef = u7 → a'.tmps.getD 5 undef = v → a'.tmps.getD 6 undef = .int .i64 0 → a'.defers = a.defers → Below w.heap.size w w1 → w1.ownsRow w.heap.size 24 1 v m (Wv A) → m ≤ maxLen → R .normal a' w1) : (q1 (qd 1 (qt (q2 (qe (q2 (qe (q2 (qb (q1 (qd 2 (qf Try.f6)))))))))))).wp Try.prog R a w := by
  have g7 := gI hz h7 (by decide)
  have g8 := gI hz h8 (by decide)
  have g9 := gI hz h9 (by decide)
  have kkA := PLift.up kk
  clear kk
  refine wp_region_lit ?_
  go_wp2_with (go_at_call 30; refine (c1).mono ?_; rintro e w1 ⟨v, m, rfl, b1, o1, m1⟩; obtain ⟨ua, uc, rfl⟩ := ow_shape o1)
  refine kkA.down _ w1 _ m (by simp [hz]) (fun t ht => ?_) ?_ ?_ ?_ rfl b1 o1 m1
  · dsimp only [Act.put]
    repeat rw [gset_ne (by omega)]
  · dsimp only [Act.put]
    repeat (first | rw [gset_eq (by simp [hz])] | rw [gset_ne (by decide)])
  · dsimp only [Act.put]
    repeat (first | rw [gset_eq (by simp [hz])] | rw [gset_ne (by decide)])
  · dsimp only [Act.put]
    repeat (first | rw [gset_eq (by simp [hz])] | rw [gset_ne (by decide)])
theorem dq9 {a : Act} {w : World} {R : Exit → Act → World → Prop} {u0 u1 : Value} {A1 A2 : List Nat} (hz : a.tmps.size = 51) (h0 : a.tmps.getD 0 undef = u0) (h1 : a.tmps.getD 1 undef = u1)
    (c1 : Calls Try.prog 31 #[u0, u1] w (TwoR w A1 A2))
    (kk : ∀ (a' : Act) (w1 : World) (v1 v2 : Value) (n1 n2 : Nat), a'.tmps.size = 51 → (∀ t, t < 7 → a'.tmps.getD t undef = a.tmps.getD t undef) → a'.tmps.getD 10 undef = v1 → a'.tmps.getD 11 undef = v2 → a'.defers = a.defers → Below w.heap.size w w1 → w1.ownsRow w.heap.size 24 1 v1 n1 (Wv A1) → w1.ownsRow w.heap.size 24 1 v2 n2 (Wv A2) → (∀ q, v1.ownBlock = some q → v2.ownBlock ≠ some q) → R .normal a' w1) : (q1 (qd 3 (qf Try.f6))).wp Try.prog R a w := by
  have g0 := gI hz h0 (by decide)
  have g1 := gI hz h1 (by decide)
  have kkA := PLift.up kk
  clear kk
  refine wp_region_lit ?_
  go_wp2_with (go_at_call 31; refine (c1).mono ?_; rintro e w1 ⟨v1, v2, n1, n2, rfl, b1, o1, o2, s12⟩; obtain ⟨ua, uc, rfl⟩ := ow_shape o1; obtain ⟨va, vc, rfl⟩ := ow_shape o2)
  refine kkA.down _ w1 _ _ n1 n2 (by simp [hz]) (fun t ht => ?_) ?_ ?_ rfl b1 o1 o2 s12
  · dsimp only [Act.put]
    repeat rw [gset_ne (by omega)]
  · dsimp only [Act.put]
    repeat (first | rw [gset_eq (by simp [hz])] | rw [gset_ne (by decide)])
  · dsimp only [Act.put]
    repeat (first | rw [gset_eq (by simp [hz])] | rw [gset_ne (by decide)])
theorem dq10 {a : Act} {w : World} {R : Exit → Act → World → Prop} {u0 u1 : Value} (hz : a.tmps.size = 51) (h10 : a.tmps.getD 10 undef = u0) (h11 : a.tmps.getD 11 undef = u1)
    (kk : ∀ (a' : Act) , a'.tmps.size = 51 → (∀ t, t < 4 → a'.tmps.getD t undef = a.tmps.getD t undef) → a'.tmps.getD 4 undef = u0 → a'.tmps.getD 5 undef = u1 → a'.tmps.getD 6 undef = .int .i64 0 → a'.defers = a.defers → R .normal a' w) : (q1 (qd 4 (qf Try.f6))).wp Try.prog R a w := by
  have g10 := gI hz h10 (by decide)
  have g11 := gI hz h11 (by decide)
  have kkA := PLift.up kk
  clear kk
  refine wp_region_lit ?_
  go_wp2
  refine kkA.down _  (by simp [hz]) (fun t ht => ?_) ?_ ?_ ?_ rfl 
  · dsimp only [Act.put]
    repeat rw [gset_ne (by omega)]
  · dsimp only [Act.put]
    repeat (first | rw [gset_eq (by simp [hz])] | rw [gset_ne (by decide)])
  · dsimp only [Act.put]
    repeat (first | rw [gset_eq (by simp [hz])] | rw [gset_ne (by decide)])
  · dsimp only [Act.put]
    repeat (first | rw [gset_eq (by simp [hz])] | rw [gset_ne (by decide)])
end Go.Proofs.Ytdaedplbhpiacaa
