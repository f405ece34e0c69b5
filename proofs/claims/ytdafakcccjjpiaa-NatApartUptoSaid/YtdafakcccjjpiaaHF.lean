/-
  The texts AP28, AP29, AP30, AP31, AP32, AP33, AP34, AP35, AP36, AP37.
-/
import Derived.Test.YtdafakcccjjpiaaHE
import Derived.Test.YtdafakcccjjpiaaHD
import Derived.Test.YtdafakcccjjpiaaRef5
import Derived.Test.YtdafakcccjjpiaaRSh
namespace Go.Proofs.Ytdafakcccjjpiaa
open Go Go.RowKit Go.Proofs Ab
set_option linter.unusedSimpArgs false
set_option linter.unusedVariables false
set_option maxHeartbeats 10000000
set_option maxHeartbeats 4000000
set_option maxRecDepth 2000000
def RowR (w : World) (A : List Nat) (e : Ending) (w' : World) : Prop := ∃ (u : Value) (n : Nat), e = .returned u ∧ Below w.heap.size w w' ∧ w'.ownsRow w.heap.size 45 1 u n (Wv A) ∧ n ≤ maxLen
def RowT (w : World) (A : List Nat) (y : Value) (e : Ending) (w' : World) : Prop := ∃ (u : Value) (n : Nat), e = .returned (.tuple #[u, y]) ∧ Below w.heap.size w w' ∧ w'.ownsRow w.heap.size 45 1 u n (Wv A) ∧ n ≤ maxLen
theorem o_raw {f : FuncId} {args : List V} {A : List Nat} {w : World} {H : Nat → Prop} {vs : List Value} (c : AFun Try.prog J0 f args (.o 45 1 (W A))) (hH : ∀ q, H q → q < w.heap.size) (hr : RepAll w H vs args) : Calls Try.prog f vs.toArray w (RowR w A) := by
  refine ((c.to0 rfl) w H vs trivial (tj0 _ _) hH hr).mono ?_
  rintro e w' ⟨v, rfl, hB, N, hN, h⟩
  rcases h with h | ⟨e, sz, cs, n, xs, he, _, ho, hx, _, hm, _⟩ | ⟨r, h, _⟩
  · cases h
  · cases he
    have := Wv_of hx
    subst this
    exact ⟨v, n, rfl, hB, ho, hm⟩
  · cases h
theorem to_raw {f : FuncId} {args : List V} {A : List Nat} {r : V} {y : Value} {w : World} {H : Nat → Prop} {vs : List Value} (c : AFun Try.prog J0 f args (.to 45 1 (W A) [r])) (hy : ∀ (w' : World) (H' : Nat → Prop) (z : Value), Rep0 w' H' z r → z = y) (hH : ∀ q, H q → q < w.heap.size) (hr : RepAll w H vs args) : Calls Try.prog f vs.toArray w (RowT w A y) := by
  have c' : TFun Try.prog J0 f args 45 1 (W A) [r] := c
  refine (c'.2 w H vs trivial (tj0 _ _) hH hr).mono ?_
  rintro e w' ⟨u, us, n, xs, N, rfl, hB, ho, _, _, hx, _, hm, hus⟩
  have := Wv_of hx
  subst this
  match us, hus with
  | [z], hus =>
    have := hy _ _ z (hus.2 0 z r rfl rfl)
    subst this
    exact ⟨u, n, rfl, hB, ho, hm⟩
end Go.Proofs.Ytdafakcccjjpiaa
namespace Go.Proofs.Ytdafakcccjjpiaa
open Go Go.RowKit Go.Proofs Ab
set_option linter.unusedSimpArgs false
set_option linter.unusedVariables false
set_option maxHeartbeats 10000000
set_option maxHeartbeats 4000000
set_option maxRecDepth 2000000
def naD (f : Func) : Code := qb (q1 (q2 (ql (qb (q2 (q1 (qd 4 (qf f))))))))
def naN (n : Nat) (f : Func) : Code := q1 (qd n (naD f))
theorem na_add {a : Act} {w : World} {R : Exit → Act → World → Prop} {x y : Value} {A : List Nat} (hz : a.tmps.size = 264) (h8 : a.tmps.getD 8 undef = x) (h9 : a.tmps.getD 9 undef = y)
    (c1 : Calls Try.prog 6 #[x, y] w (RowR w A)) (c2 : ∀ w1, Below w.heap.size w w1 → Calls Try.prog 6 #[x, y] w1 (RowR w1 A))
    (kk : ∀ (a' : Act) (w1 w2 : World) (u1 u2 : Value) (n1 n2 : Nat), a'.tmps.size = 264 → (∀ t, t < 39 → t ≠ 13 → t ≠ 14 → a'.tmps.getD t undef = a.tmps.getD t undef) → a'.tmps.getD 13 undef = u1 → a'.tmps.getD 14 undef = u2 → a'.defers = a.defers → Below w.heap.size w w1 → w1.ownsRow w.heap.size 45 1 u1 n1 (Wv A) → n1 ≤ maxLen → Below w1.heap.size w1 w2 → w2.ownsRow w1.heap.size 45 1 u2 n2 (Wv A) → n2 ≤ maxLen → R .normal a' w2) : (naN 1 Try.f3).wp Try.prog R a w := by
  have g8 := gI hz h8 (by decide)
  have g9 := gI hz h9 (by decide)
  have kkA := PLift.up kk
  clear kk
  refine wp_region_lit ?_
  go_wp2_with (first
    | (go_at_call 6; refine c1.mono ?_; rintro e w1 ⟨u1, n1, rfl, b1, o1, m1⟩; obtain ⟨ua, uc, rfl⟩ := ow_shape o1)
    | (go_at_call 6; refine (c2 w1 b1).mono ?_; rintro e w2 ⟨u2, n2, rfl, b2, o2, m2⟩; obtain ⟨va, vc, rfl⟩ := ow_shape o2))
  refine kkA.down _ w1 w2 _ _ n1 n2 (by simp [hz]) (fun t ht h1 h2 => ?_) ?_ ?_ rfl b1 o1 m1 b2 o2 m2
  · dsimp only
    rw [gset_ne (by omega), gset_ne (by omega), gset_ne (by omega), gset_ne (by omega), gset_ne (by omega), gset_ne (by omega), gset_ne (by omega), gset_ne (by omega)]
  · dsimp only
    rw [gset_ne (by decide), gset_eq (by simp [hz])]
  · dsimp only
    rw [gset_eq (by simp [hz])]
theorem na_diff {a : Act} {w : World} {R : Exit → Act → World → Prop} {x y z : Value} {A : List Nat} (hz : a.tmps.size = 264) (h8 : a.tmps.getD 8 undef = x) (h9 : a.tmps.getD 9 undef = y)
    (c1 : Calls Try.prog 7 #[x, y] w (RowT w A z))
    (kk : ∀ (a' : Act) (w1 : World) (u1 : Value) (n1 : Nat), a'.tmps.size = 264 → (∀ t, t < 39 → t ≠ 15 → t ≠ 16 → a'.tmps.getD t undef = a.tmps.getD t undef) → a'.tmps.getD 15 undef = u1 → a'.tmps.getD 16 undef = z → a'.defers = a.defers → Below w.heap.size w w1 → w1.ownsRow w.heap.size 45 1 u1 n1 (Wv A) → n1 ≤ maxLen → R .normal a' w1) : (naN 2 Try.f3).wp Try.prog R a w := by
  have g8 := gI hz h8 (by decide)
  have g9 := gI hz h9 (by decide)
  have kkA := PLift.up kk
  clear kk
  refine wp_region_lit ?_
  go_wp2_with (go_at_call 7; refine c1.mono ?_; rintro e w1 ⟨u1, n1, rfl, b1, o1, m1⟩; obtain ⟨ua, uc, rfl⟩ := ow_shape o1)
  refine kkA.down _ w1 _ n1 (by simp [hz]) (fun t ht h1 h2 => ?_) ?_ ?_ rfl b1 o1 m1
  · dsimp only
    rw [gset_ne (by omega), gset_ne (by omega), gset_ne (by omega), gset_ne (by omega), gset_ne (by omega), gset_ne (by omega), gset_ne (by omega), gset_ne (by omega)]
  · dsimp only
    rw [gset_ne (by decide), gset_eq (by simp [hz])]
  · dsimp only
    rw [gset_eq (by simp [hz])]
end Go.Proofs.Ytdafakcccjjpiaa
namespace Go.Proofs.Ytdafakcccjjpiaa
open Go Go.RowKit Go.Proofs Ab
set_option linter.unusedSimpArgs false
set_option linter.unusedVariables false
set_option maxHeartbeats 10000000
set_option maxHeartbeats 4000000
set_option maxRecDepth 2000000
theorem na_sub {a : Act} {w : World} {R : Exit → Act → World → Prop} {x y z : Value} {A : List Nat} (hz : a.tmps.size = 264) (h8 : a.tmps.getD 8 undef = x) (h9 : a.tmps.getD 9 undef = y)
    (c1 : Calls Try.prog 8 #[x, y] w (RowT w A z))
    (kk : ∀ (a' : Act) (w1 : World) (u1 : Value) (n1 : Nat), a'.tmps.size = 264 → (∀ t, t < 39 → t ≠ 17 → t ≠ 18 → a'.tmps.getD t undef = a.tmps.getD t undef) → a'.tmps.getD 17 undef = u1 → a'.tmps.getD 18 undef = z → a'.defers = a.defers → Below w.heap.size w w1 → w1.ownsRow w.heap.size 45 1 u1 n1 (Wv A) → n1 ≤ maxLen → R .normal a' w1) : (naN 3 Try.f3).wp Try.prog R a w := by
  have g8 := gI hz h8 (by decide)
  have g9 := gI hz h9 (by decide)
  have kkA := PLift.up kk
  clear kk
  refine wp_region_lit ?_
  go_wp2_with (go_at_call 8; refine c1.mono ?_; rintro e w1 ⟨u1, n1, rfl, b1, o1, m1⟩; obtain ⟨ua, uc, rfl⟩ := ow_shape o1)
  refine kkA.down _ w1 _ n1 (by simp [hz]) (fun t ht h1 h2 => ?_) ?_ ?_ rfl b1 o1 m1
  · dsimp only
    rw [gset_ne (by omega), gset_ne (by omega), gset_ne (by omega), gset_ne (by omega), gset_ne (by omega), gset_ne (by omega), gset_ne (by omega), gset_ne (by omega)]
  · dsimp only
    rw [gset_ne (by decide), gset_eq (by simp [hz])]
  · dsimp only
    rw [gset_eq (by simp [hz])]
theorem na_shr {a : Act} {w : World} {R : Exit → Act → World → Prop} {x z : Value} {j : Int} {A : List Nat} (hz : a.tmps.size = 264) (h8 : a.tmps.getD 8 undef = x) (h2 : a.tmps.getD 2 undef = .int .i64 j)
    (c1 : Calls Try.prog 10 #[x, .int .i64 j] w (RowT w A z))
    (kk : ∀ (a' : Act) (w1 : World) (u1 : Value) (n1 : Nat), a'.tmps.size = 264 → (∀ t, t < 39 → t ≠ 22 → t ≠ 23 → a'.tmps.getD t undef = a.tmps.getD t undef) → a'.tmps.getD 22 undef = u1 → a'.tmps.getD 23 undef = z → a'.defers = a.defers → Below w.heap.size w w1 → w1.ownsRow w.heap.size 45 1 u1 n1 (Wv A) → n1 ≤ maxLen → R .normal a' w1) : (naN 5 Try.f3).wp Try.prog R a w := by
  have g8 := gI hz h8 (by decide)
  have g2 := gI hz h2 (by decide)
  have kkA := PLift.up kk
  clear kk
  refine wp_region_lit ?_
  go_wp2_with (go_at_call 10; refine c1.mono ?_; rintro e w1 ⟨u1, n1, rfl, b1, o1, m1⟩; obtain ⟨ua, uc, rfl⟩ := ow_shape o1)
  refine kkA.down _ w1 _ n1 (by simp [hz]) (fun t ht h1 h2 => ?_) ?_ ?_ rfl b1 o1 m1
  · dsimp only
    rw [gset_ne (by omega), gset_ne (by omega), gset_ne (by omega), gset_ne (by omega), gset_ne (by omega), gset_ne (by omega), gset_ne (by omega), gset_ne (by omega)]
  · dsimp only
    rw [gset_ne (by decide), gset_eq (by simp [hz])]
  · dsimp only
    rw [gset_eq (by simp [hz])]
theorem na_shl {a : Act} {w : World} {R : Exit → Act → World → Prop} {x z : Value} {j : Int} {A : List Nat} (hz : a.tmps.size = 264) (h8 : a.tmps.getD 8 undef = x) (h2 : a.tmps.getD 2 undef = .int .i64 j)
    (c1 : Calls Try.prog 11 #[x, .int .i64 (bits .and .i64 j 127)] w (RowT w A z))
    (kk : ∀ (a' : Act) (w1 : World) (u1 : Value) (n1 : Nat), a'.tmps.size = 264 → (∀ t, t < 39 → t ≠ 24 → t ≠ 25 → a'.tmps.getD t undef = a.tmps.getD t undef) → a'.tmps.getD 24 undef = u1 → a'.tmps.getD 25 undef = z → a'.defers = a.defers → Below w.heap.size w w1 → w1.ownsRow w.heap.size 45 1 u1 n1 (Wv A) → n1 ≤ maxLen → R .normal a' w1) : (naN 6 Try.f3).wp Try.prog R a w := by
  have g8 := gI hz h8 (by decide)
  have g2 := gI hz h2 (by decide)
  have kkA := PLift.up kk
  clear kk
  refine wp_region_lit ?_
  go_wp2_with (go_at_call 11; refine c1.mono ?_; rintro e w1 ⟨u1, n1, rfl, b1, o1, m1⟩; obtain ⟨ua, uc, rfl⟩ := ow_shape o1)
  refine kkA.down _ w1 _ n1 (by simp [hz]) (fun t ht h1 h2 => ?_) ?_ ?_ rfl b1 o1 m1
  · dsimp only
    rw [gset_ne (by omega), gset_ne (by omega), gset_ne (by omega), gset_ne (by omega), gset_ne (by omega), gset_ne (by omega), gset_ne (by omega), gset_ne (by omega), gset_ne (by omega)]
  · dsimp only
    rw [gset_ne (by decide), gset_eq (by simp [hz])]
  · dsimp only
    rw [gset_eq (by simp [hz])]
theorem na_norm {a : Act} {w : World} {R : Exit → Act → World → Prop} {x : Value} {A : List Nat} (hz : a.tmps.size = 264) (h8 : a.tmps.getD 8 undef = x)
    (c1 : Calls Try.prog 12 #[x] w (RowR w A))
    (kk : ∀ (a' : Act) (w1 : World) (u1 : Value) (n1 : Nat), a'.tmps.size = 264 → (∀ t, t < 39 → t ≠ 26 → a'.tmps.getD t undef = a.tmps.getD t undef) → a'.tmps.getD 26 undef = u1 → a'.defers = a.defers → Below w.heap.size w w1 → w1.ownsRow w.heap.size 45 1 u1 n1 (Wv A) → n1 ≤ maxLen → R .normal a' w1) : (naN 7 Try.f3).wp Try.prog R a w := by
  have g8 := gI hz h8 (by decide)
  have kkA := PLift.up kk
  clear kk
  refine wp_region_lit ?_
  go_wp2_with (go_at_call 12; refine c1.mono ?_; rintro e w1 ⟨u1, n1, rfl, b1, o1, m1⟩; obtain ⟨ua, uc, rfl⟩ := ow_shape o1)
  refine kkA.down _ w1 _ n1 (by simp [hz]) (fun t ht h1 => ?_) ?_ rfl b1 o1 m1
  · dsimp only
    rw [gset_ne (by omega), gset_ne (by omega), gset_ne (by omega)]
  · dsimp only
    rw [gset_eq (by simp [hz])]
theorem na_cut {a : Act} {w : World} {R : Exit → Act → World → Prop} {x : Value} {j f : Int} {A1 A2 : List Nat} (hz : a.tmps.size = 264) (h8 : a.tmps.getD 8 undef = x) (h2 : a.tmps.getD 2 undef = .int .i64 j)
    (c1 : Calls Try.prog 9 #[x, .int .i64 j] w (CutR w A1 A2 f))
    (kk : ∀ (a' : Act) (w1 : World) (u1 u2 : Value) (n1 n2 : Nat), a'.tmps.size = 264 → (∀ t, t < 39 → t ≠ 19 → t ≠ 20 → t ≠ 21 → a'.tmps.getD t undef = a.tmps.getD t undef) → a'.tmps.getD 19 undef = u1 → a'.tmps.getD 20 undef = u2 → a'.tmps.getD 21 undef = .int .i64 f → a'.defers = a.defers → Below w.heap.size w w1 → w1.ownsRow w.heap.size 45 1 u1 n1 (Wv A1) → w1.ownsRow w.heap.size 45 1 u2 n2 (Wv A2) → (∀ q, u1.ownBlock = some q → u2.ownBlock ≠ some q) → R .normal a' w1) : (naN 4 Try.f3).wp Try.prog R a w := by
  have g8 := gI hz h8 (by decide)
  have g2 := gI hz h2 (by decide)
  have kkA := PLift.up kk
  clear kk
  refine wp_region_lit ?_
  go_wp2_with (go_at_call 9; refine c1.mono ?_; rintro e w1 ⟨u1, u2, n1, n2, rfl, b1, o1, o2, s12⟩; obtain ⟨ua, uc, rfl⟩ := ow_shape o1; obtain ⟨va, vc, rfl⟩ := ow_shape o2)
  refine kkA.down _ w1 _ _ n1 n2 (by simp [hz]) (fun t ht h1 h2 h3 => ?_) ?_ ?_ ?_ rfl b1 o1 o2 s12
  · dsimp only
    rw [gset_ne (by omega), gset_ne (by omega), gset_ne (by omega), gset_ne (by omega), gset_ne (by omega), gset_ne (by omega), gset_ne (by omega), gset_ne (by omega), gset_ne (by omega), gset_ne (by omega)]
  · dsimp only
    rw [gset_ne (by decide), gset_ne (by decide), gset_eq (by simp [hz])]
  · dsimp only
    rw [gset_ne (by decide), gset_eq (by simp [hz])]
  · dsimp only
    rw [gset_eq (by simp [hz])]
end Go.Proofs.Ytdafakcccjjpiaa
namespace Go.Proofs.Ytdafakcccjjpiaa
open Go Go.RowKit Go.Proofs Ab
set_option linter.unusedSimpArgs false
set_option linter.unusedVariables false
set_option maxHeartbeats 10000000
set_option maxHeartbeats 4000000
set_option maxRecDepth 2000000
theorem na_sum {a : Act} {w : World} {R : Exit → Act → World → Prop} {xa ya : Option Addr} {xn xc yn yc : Nat} {A : List Nat} (hz : a.tmps.size = 264) (h8 : a.tmps.getD 8 undef = .slice xa xn xc) (h9 : a.tmps.getD 9 undef = .slice ya yn yc) 
    (c1 : Calls Try.prog 14 #[.slice (some ⟨w.heap.size, 0, none⟩) 2 2] (w.alloc (.cells #[.slice xa xn xc, .slice ya yn yc] 23)) (RowR (w.alloc (.cells #[.slice xa xn xc, .slice ya yn yc] 23)) A))
    (kk : ∀ (a' : Act) (w1 : World) (u1 : Value), a'.tmps.size = 264 → (∀ t, t < 39 → t ≠ 28 → a'.tmps.getD t undef = a.tmps.getD t undef) → a'.tmps.getD 28 undef = u1 → a'.defers = a.defers → RowR (w.alloc (.cells #[.slice xa xn xc, .slice ya yn yc] 23)) A (.returned u1) w1 → R .normal a' w1) : (naN 9 Try.f3).wp Try.prog R a w := by
  have g8 := gI hz h8 (by decide)
  have g9 := gI hz h9 (by decide)
  have kkA := PLift.up kk
  clear kk
  refine wp_region_lit ?_
  go_wp2_with (go_at_call 14; refine c1.mono ?_; rintro e w1 ⟨u1, n1, rfl, b1, o1, m1⟩; obtain ⟨ua, uc, rfl⟩ := ow_shape o1)
  refine kkA.down _ w1 _ (by simp [hz]) (fun t ht h1 => ?_) ?_ rfl ⟨_, n1, rfl, b1, o1, m1⟩
  · dsimp only
    rw [gset_ne (by omega), gset_ne (by omega), gset_ne (by omega), gset_ne (by omega), gset_ne (by omega)]
  · dsimp only
    rw [gset_eq (by simp [hz])]
theorem na_one {a : Act} {w : World} {R : Exit → Act → World → Prop} {xa : Option Addr} {xn xc : Nat} {A : List Nat} (hz : a.tmps.size = 264) (h8 : a.tmps.getD 8 undef = .slice xa xn xc) 
    (c1 : Calls Try.prog 14 #[.slice (some ⟨w.heap.size, 0, none⟩) 1 1] (w.alloc (.cells #[.slice xa xn xc] 23)) (RowR (w.alloc (.cells #[.slice xa xn xc] 23)) A))
    (kk : ∀ (a' : Act) (w1 : World) (u1 : Value), a'.tmps.size = 264 → (∀ t, t < 39 → t ≠ 29 → a'.tmps.getD t undef = a.tmps.getD t undef) → a'.tmps.getD 29 undef = u1 → a'.defers = a.defers → RowR (w.alloc (.cells #[.slice xa xn xc] 23)) A (.returned u1) w1 → R .normal a' w1) : (naN 10 Try.f3).wp Try.prog R a w := by
  have g8 := gI hz h8 (by decide)
  have kkA := PLift.up kk
  clear kk
  refine wp_region_lit ?_
  go_wp2_with (go_at_call 14; refine c1.mono ?_; rintro e w1 ⟨u1, n1, rfl, b1, o1, m1⟩; obtain ⟨ua, uc, rfl⟩ := ow_shape o1)
  refine kkA.down _ w1 _ (by simp [hz]) (fun t ht h1 => ?_) ?_ rfl ⟨_, n1, rfl, b1, o1, m1⟩
  · dsimp only
    rw [gset_ne (by omega), gset_ne (by omega), gset_ne (by omega), gset_ne (by omega)]
  · dsimp only
    rw [gset_eq (by simp [hz])]
theorem na_sorted {a : Act} {w : World} {R : Exit → Act → World → Prop} {xa ya : Option Addr} {xn xc yn yc : Nat} (hz : a.tmps.size = 264) (h8 : a.tmps.getD 8 undef = .slice xa xn xc) (h9 : a.tmps.getD 9 undef = .slice ya yn yc) 
    (c1 : Calls Try.prog 13 #[.slice (some ⟨w.heap.size, 0, none⟩) 3 3] (w.alloc (.cells #[.slice xa xn xc, .slice ya yn yc, .slice xa xn xc] 23)) (SortedR (w.alloc (.cells #[.slice xa xn xc, .slice ya yn yc, .slice xa xn xc] 23)) 3))
    (kk : ∀ (a' : Act) (w1 : World) (u1 : Value), a'.tmps.size = 264 → (∀ t, t < 39 → t ≠ 27 → a'.tmps.getD t undef = a.tmps.getD t undef) → a'.tmps.getD 27 undef = u1 → a'.defers = a.defers → SortedR (w.alloc (.cells #[.slice xa xn xc, .slice ya yn yc, .slice xa xn xc] 23)) 3 (.returned u1) w1 → R .normal a' w1) : (naN 8 Try.f3).wp Try.prog R a w := by
  have g8 := gI hz h8 (by decide)
  have g9 := gI hz h9 (by decide)
  have kkA := PLift.up kk
  clear kk
  refine wp_region_lit ?_
  go_wp2_with (go_at_call 13; refine c1.mono ?_; rintro e w1 ⟨v1, L1, rfl, b1, l1, m1, k1, o1⟩; obtain ⟨ua, uc, rfl⟩ := ow_shape o1)
  refine kkA.down _ w1 _ (by simp [hz]) (fun t ht h1 => ?_) ?_ rfl ⟨_, L1, rfl, b1, l1, m1, k1, o1⟩
  · dsimp only
    rw [gset_ne (by omega), gset_ne (by omega), gset_ne (by omega), gset_ne (by omega), gset_ne (by omega), gset_ne (by omega)]
  · dsimp only
    rw [gset_eq (by simp [hz])]
end Go.Proofs.Ytdafakcccjjpiaa
namespace Go.Proofs.Ytdafakcccjjpiaa
open Go Go.RowKit Go.Proofs Ab
set_option linter.unusedSimpArgs false
set_option linter.unusedVariables false
set_option maxHeartbeats 10000000
set_option maxHeartbeats 4000000
set_option maxRecDepth 2000000
theorem na_was {a : Act} {w : World} {R : Exit → Act → World → Prop} {p1 p2 n1 n2 k1 k2 : Nat} {A1 A2 : List Nat} (hz : a.tmps.size = 264) (h8 : a.tmps.getD 8 undef = .slice (some ⟨p1, 0, none⟩) n1 k1) (h9 : a.tmps.getD 9 undef = .slice (some ⟨p2, 0, none⟩) n2 k2)
    (l1 : (Wv A1).length = n1) (l2 : (Wv A2).length = n2) (b1 : n1 ≤ 1000000000) (b2 : n2 ≤ 1000000000) (q1 : p1 < w.heap.size) (q2 : p2 < w.heap.size) (c1 : ∀ (j : Nat) (u : Value), (Wv A1)[j]? = some u → w.cell? ⟨p1, j, none⟩ = some u) (c2 : ∀ (j : Nat) (u : Value), (Wv A2)[j]? = some u → w.cell? ⟨p2, j, none⟩ = some u)
    (kk : ∀ (a' : Act) (w' : World) (v1 v2 : Value), a'.tmps.size = 264 → (∀ t, t < 39 → t ≠ 11 → t ≠ 12 → a'.tmps.getD t undef = a.tmps.getD t undef) → a'.tmps.getD 11 undef = v1 → a'.tmps.getD 12 undef = v2 → a'.defers = a.defers → Below w.heap.size w w' → w'.ownsRow w.heap.size 45 1 v1 n1 (Wv A1) → w'.ownsRow w.heap.size 45 1 v2 n2 (Wv A2) → R .normal a' w') : (naN 0 Try.f3).wp Try.prog R a w := by
  have g8 := gI hz h8 (by decide)
  have g9 := gI hz h9 (by decide)
  obtain ⟨i0, hi0, hi1, hi2, hi3⟩ := info_parts info_u64
  have wc : ∀ (A : List Nat) (u : Value), u ∈ Wv A → u.oneCell' = true := fun A u hu => by
    obtain ⟨n, _, rfl⟩ := List.mem_map.1 hu; rfl
  have hA := PLift.up (And.intro l1 (And.intro l2 (And.intro c1 c2)))
  clear l1 l2 c1 c2
  generalize hV1 : Wv A1 = V1 at *
  generalize hV2 : Wv A2 = V2 at *
  have w1c : ∀ u, u ∈ V1 → u.oneCell' = true := fun u hu => wc A1 u (hV1 ▸ hu)
  have w2c : ∀ u, u ∈ V2 → u.oneCell' = true := fun u hu => wc A2 u (hV2 ▸ hu)
  clear hV1 hV2 wc
  have kkA := PLift.up kk
  clear kk
  refine wp_region_lit ?_
  go_wp2_with (first | (at_builtin; refine wpList_append_own _ rfl (.tmp 53) (.tmp 54) 23 rfl w.heap.size 45 i0 (.int .u64 0) 1 8 Try.underlying23 hi0 hi1 hi2 hi3 rfl (by decide) (.slice (some ⟨w.heap.size, 0, none⟩) 0 0) 0 [] ?hs ?own ⟨p1, 0, none⟩ n1 k1 V1 ?hx ?hn ?c3 ?c4 ?mx ?bys ?hb ?fin))
  case hs => rw [eval_tmp]; dsimp only; rw [gset_ne (by decide), gset_eq (by simp [hz])]
  case own => exact World.ownsRow_lit w #[] 0 (Nat.le_refl _) (Nat.zero_le _) rfl
  case hx => rw [eval_tmp]; dsimp only; rw [gset_eq (by simp [hz])]
  case hn => rw [hA.down.1, Nat.mul_one]
  case c3 =>
    intro j u hj
    rw [Addr.add_lit, Nat.zero_add]
    exact (cell_heap (heap_alloc_old w _ q1)).trans (hA.down.2.2.1 j u hj)
  case c4 => exact w1c
  case mx => unfold maxLen; omega
  case bys => omega
  case hb => simp
  case fin =>
    intro v1 w1 ho1 hg1 _
    have hB1 : Below w.heap.size w w1 := by
      have hs := hg1.size
      rw [World.size_alloc] at hs
      exact ⟨hg1.os, hg1.tape, hg1.output, by omega, fun q hq => (hg1.block q (by rw [World.size_alloc]; omega) (fun e => by have e2 : q = w.heap.size := Option.some.inj e; omega)).trans (heap_alloc_old w _ hq)⟩
    have hs1 := hB1.size
    have hP := PLift.up (And.intro hB1 ho1)
    clear hB1 ho1 hg1
    go_wp2_with (first | (at_builtin; refine wpList_append_own _ rfl (.tmp 56) (.tmp 57) 23 rfl w.heap.size 45 i0 (.int .u64 0) 1 8 Try.underlying23 hi0 hi1 hi2 hi3 rfl (by decide) (.slice (some ⟨w1.heap.size, 0, none⟩) 0 0) 0 [] ?hs ?own ⟨p2, 0, none⟩ n2 k2 V2 ?hx ?hn ?c3 ?c4 ?mx ?bys ?hb ?fin))
    case hs => rw [eval_tmp]; dsimp only [Act.put]; rw [gset_ne (by decide), gset_eq (by simp [hz])]
    case own => exact World.ownsRow_lit w1 #[] 0 hs1 (Nat.zero_le _) rfl
    case hx => rw [eval_tmp]; dsimp only [Act.put]; rw [gset_eq (by simp [hz])]
    case hn => rw [hA.down.2.1, Nat.mul_one]
    case c3 =>
      intro j u hj
      rw [Addr.add_lit, Nat.zero_add]
      exact (cell_heap (heap_alloc_old w1 _ (by omega))).trans ((cell_heap (hP.down.1.block p2 q2)).trans (hA.down.2.2.2 j u hj))
    case c4 => exact w2c
    case mx => unfold maxLen; omega
    case bys => omega
    case hb => rw [World.size_alloc]; omega
    case fin =>
      intro v2 w2 ho2 hg2 _
      have hs2 := hg2.size
      rw [World.size_alloc] at hs2
      have hold : ∀ q, q < w1.heap.size → w2.heap[q]? = w1.heap[q]? := fun q hq => (hg2.block q (by rw [World.size_alloc]; omega) (fun e => by have e2 : q = w1.heap.size := Option.some.inj e; omega)).trans (heap_alloc_old w1 _ hq)
      have hB2 : Below w.heap.size w w2 := ⟨hg2.os.trans hP.down.1.os, hg2.tape.trans hP.down.1.tape, hg2.output.trans hP.down.1.output, by omega, fun q hq => (hold q (by omega)).trans (hP.down.1.block q hq)⟩
      have ho1' := ow_below hP.down.2 fun q hq => hold q (hP.down.2.lt q hq).2
      have hF := PLift.up (And.intro hB2 (And.intro ho1' ho2))
      clear hB2 ho1' ho2 hold hg2
      go_wp2
      refine kkA.down _ w2 v1 v2 (by simp [Act.put, hz]) (fun t ht h1 h2 => ?_) ?_ ?_ rfl hF.down.1 hF.down.2.1 hF.down.2.2
      · dsimp only [Act.put]
        rw [gset_ne (by omega), gset_ne (by omega), gset_ne (by omega), gset_ne (by omega), gset_ne (by omega), gset_ne (by omega), gset_ne (by omega), gset_ne (by omega)]
      · dsimp only [Act.put]
        rw [gset_ne (by decide), gset_eq (by simp [hz])]
      · dsimp only [Act.put]
        rw [gset_eq (by simp [hz])]
end Go.Proofs.Ytdafakcccjjpiaa
namespace Go.Proofs.Ytdafakcccjjpiaa
open Go Go.RowKit Ab
set_option linter.unusedSimpArgs false
set_option linter.unusedVariables false
set_option maxHeartbeats 10000000
def a3 : AC := .seq (.reg [qr 6 (.mv (.k (.b false)))])
 (.seq (.seq (.reg [qr 39 (.call 4 []),
 qr 40 (.un .not (.t 39))])
 (.cond (.t 40)
 (.seq (.reg [qr 6 (.mv (.k (.b false)))])
 (.ret))
 (.skip)))
 (.seq (.reg [qr 41 (.bld [(.l 1 []), (.l 1 []), (.l 1 [])] []),
 qr 42 (.bx 28 (.t 41)),
 qm 7 42])
 (.seq (.reg [qm 43 7,
 qm 44 0,
 qr 45 (.call 5 [(1, (.t 43)), (1, (.t 44))]),
 qm 46 7,
 qm 47 1,
 qr 48 (.call 5 [(1, (.t 46)), (1, (.t 47))]),
 qm 8 45,
 qm 9 48])
 (.seq (.seq (.reg [qr 10 (.mv (.k (.i .i64 0)))])
 (.blk 0
 (.loop
 (.seq (.seq (.reg [qm 49 10,
 qr 50 (.bin .lss (.t 49) (.k (.i .i64 2)))])
 (.cond (.t 50)
 (.skip)
 (.exit 0)))
 (.seq (.blk 1
 (.seq (.reg [qr 53 (.bsl 45 1 0 [] []),
 qm 54 8,
 qr 55 (.app 45 1 8 (.t 53) (.t 54)),
 qr 56 (.bsl 45 1 0 [] []),
 qm 57 9,
 qr 58 (.app 45 1 8 (.t 56) (.t 57)),
 qm 11 55,
 qm 12 58])
 (.seq (.reg [qm 59 8,
 qm 60 9,
 qr 61 (.call 6 [(1, (.t 59)), (1, (.t 60))]),
 qm 62 8,
 qm 63 9,
 qr 64 (.call 6 [(1, (.t 62)), (1, (.t 63))]),
 qm 13 61,
 qm 14 64])
 (.seq (.reg [qm 66 8,
 qm 67 9,
 qr 68 (.call 7 [(1, (.t 66)), (1, (.t 67))]),
 qm 65 68,
 qr 69 (.ext (.t 65) 0),
 qr 70 (.ext (.t 65) 1),
 qm 15 69,
 qm 16 70])
 (.seq (.reg [qm 72 8,
 qm 73 9,
 qr 74 (.call 8 [(1, (.t 72)), (1, (.t 73))]),
 qm 71 74,
 qr 75 (.ext (.t 71) 0),
 qr 76 (.ext (.t 71) 1),
 qm 17 75,
 qm 18 76])
 (.seq (.reg [qm 78 8,
 qm 79 2,
 qr 80 (.call 9 [(1, (.t 78)), (1, (.t 79))]),
 qm 77 80,
 qr 81 (.ext (.t 77) 0),
 qr 82 (.ext (.t 77) 1),
 qr 83 (.ext (.t 77) 2),
 qm 19 81,
 qm 20 82,
 qm 21 83])
 (.seq (.reg [qm 85 8,
 qm 86 2,
 qr 87 (.call 10 [(1, (.t 85)), (1, (.t 86))]),
 qm 84 87,
 qr 88 (.ext (.t 84) 0),
 qr 89 (.ext (.t 84) 1),
 qm 22 88,
 qm 23 89])
 (.seq (.reg [qm 91 8,
 qm 92 2,
 qr 93 (.bin .and (.t 92) (.k (.i .i64 127))),
 qr 94 (.call 11 [(1, (.t 91)), (1, (.t 93))]),
 qm 90 94,
 qr 95 (.ext (.t 90) 0),
 qr 96 (.ext (.t 90) 1),
 qm 24 95,
 qm 25 96])
 (.seq (.reg [qm 97 8,
 qr 98 (.call 12 [(1, (.t 97))]),
 qm 26 98])
 (.seq (.reg [qm 99 8,
 qm 100 9,
 qm 101 8,
 qr 102 (.bsl 23 1 3 [(.l 1 []), (.l 1 []), (.l 1 [])] [(0, (.t 99)), (1, (.t 100)), (2, (.t 101))]),
 qr 103 (.call 13 [(1, (.t 102))]),
 qm 27 103])
 (.seq (.reg [qm 104 8,
 qm 105 9,
 qr 106 (.bsl 23 1 2 [(.l 1 []), (.l 1 [])] [(0, (.t 104)), (1, (.t 105))]),
 qr 107 (.call 14 [(1, (.t 106))]),
 qm 28 107])
 (.seq (.reg [qm 108 8,
 qr 109 (.bsl 23 1 1 [(.l 1 [])] [(0, (.t 108))]),
 qr 110 (.call 14 [(1, (.t 109))]),
 qm 29 110])
 (.seq (.seq (.reg [qm 111 10,
 qr 112 (.bin .eql (.t 111) (.k (.i .i64 0))),
 qm 113 112,
 ⟨some 114, some (113, true), .mv (.t 7)⟩,
 ⟨some 115, some (113, true), .call 15 [(1, (.t 114))]⟩,
 ⟨some 116, some (113, true), .un .not (.t 115)⟩,
 qr 117 (.pick (.t 113) (.t 116) (.k (.b false))),
 qm 118 117,
 ⟨some 119, some (118, false), .mv (.t 27)⟩,
 ⟨some 120, some (118, false), .len (.t 119)⟩,
 ⟨some 121, some (118, false), .bin .neq (.t 120) (.k (.i .i64 3))⟩,
 qr 122 (.pick (.t 118) (.k (.b true)) (.t 121))])
 (.cond (.t 122)
 (.seq (.reg [qr 6 (.mv (.k (.b false)))])
 (.ret))
 (.skip)))
 (.seq (.reg [qm 124 11,
 qm 125 12,
 qr 126 (.call 16 [(1, (.t 124)), (1, (.t 125))]),
 qm 123 126,
 qr 127 (.ext (.t 123) 0),
 qr 128 (.ext (.t 123) 1),
 qm 30 127,
 qm 31 128])
 (.seq (.reg [qm 130 11,
 qm 131 12,
 qr 132 (.call 17 [(1, (.t 130)), (1, (.t 131))]),
 qm 129 132,
 qr 133 (.ext (.t 129) 0),
 qr 134 (.ext (.t 129) 1),
 qm 32 133,
 qm 33 134])
 (.seq (.reg [qm 136 11,
 qm 137 2,
 qr 138 (.call 18 [(1, (.t 136)), (1, (.t 137))]),
 qm 135 138,
 qr 139 (.ext (.t 135) 0),
 qr 140 (.ext (.t 135) 1),
 qr 141 (.ext (.t 135) 2),
 qm 34 139,
 qm 35 140,
 qm 36 141])
 (.seq (.reg [qm 143 11,
 qm 144 2,
 qr 145 (.bin .and (.t 144) (.k (.i .i64 127))),
 qr 146 (.call 19 [(1, (.t 143)), (1, (.t 145))]),
 qm 142 146,
 qr 147 (.ext (.t 142) 0),
 qr 148 (.ext (.t 142) 1),
 qm 37 147,
 qm 38 148])
 (.seq (.seq (.reg [qm 149 13,
 qm 150 11,
 qm 151 12,
 qr 152 (.call 21 [(1, (.t 150)), (1, (.t 151))]),
 qr 153 (.call 20 [(1, (.t 149)), (1, (.t 152))]),
 qr 154 (.un .not (.t 153)),
 qm 155 154,
 ⟨some 156, some (155, false), .mv (.t 14)⟩,
 ⟨some 157, some (155, false), .mv (.t 13)⟩,
 ⟨some 158, some (155, false), .call 20 [(1, (.t 156)), (1, (.t 157))]⟩,
 ⟨some 159, some (155, false), .un .not (.t 158)⟩,
 qr 160 (.pick (.t 155) (.k (.b true)) (.t 159)),
 qm 161 160,
 ⟨some 162, some (161, false), .mv (.t 15)⟩,
 ⟨some 163, some (161, false), .mv (.t 30)⟩,
 ⟨some 164, some (161, false), .call 20 [(1, (.t 162)), (1, (.t 163))]⟩,
 ⟨some 165, some (161, false), .un .not (.t 164)⟩,
 qr 166 (.pick (.t 161) (.k (.b true)) (.t 165)),
 qm 167 166,
 ⟨some 168, some (167, false), .mv (.t 17)⟩,
 ⟨some 169, some (167, false), .mv (.t 32)⟩,
 ⟨some 170, some (167, false), .call 20 [(1, (.t 168)), (1, (.t 169))]⟩,
 ⟨some 171, some (167, false), .un .not (.t 170)⟩,
 qr 172 (.pick (.t 167) (.k (.b true)) (.t 171)),
 qm 173 172,
 ⟨some 174, some (173, false), .mv (.t 18)⟩,
 ⟨some 175, some (173, false), .mv (.t 33)⟩,
 ⟨some 176, some (173, false), .bin .neq (.t 174) (.t 175)⟩,
 qr 177 (.pick (.t 173) (.k (.b true)) (.t 176)),
 qm 178 177,
 ⟨some 179, some (178, false), .mv (.t 19)⟩,
 ⟨some 180, some (178, false), .mv (.t 34)⟩,
 ⟨some 181, some (178, false), .call 20 [(1, (.t 179)), (1, (.t 180))]⟩,
 ⟨some 182, some (178, false), .un .not (.t 181)⟩,
 qr 183 (.pick (.t 178) (.k (.b true)) (.t 182)),
 qm 184 183,
 ⟨some 185, some (184, false), .mv (.t 20)⟩,
 ⟨some 186, some (184, false), .mv (.t 35)⟩,
 ⟨some 187, some (184, false), .call 20 [(1, (.t 185)), (1, (.t 186))]⟩,
 ⟨some 188, some (184, false), .un .not (.t 187)⟩,
 qr 189 (.pick (.t 184) (.k (.b true)) (.t 188)),
 qm 190 189,
 ⟨some 191, some (190, false), .mv (.t 21)⟩,
 ⟨some 192, some (190, false), .mv (.t 36)⟩,
 ⟨some 193, some (190, false), .bin .neq (.t 191) (.t 192)⟩,
 qr 194 (.pick (.t 190) (.k (.b true)) (.t 193)),
 qm 195 194,
 ⟨some 196, some (195, false), .mv (.t 22)⟩,
 ⟨some 197, some (195, false), .mv (.t 34)⟩,
 ⟨some 198, some (195, false), .call 20 [(1, (.t 196)), (1, (.t 197))]⟩,
 ⟨some 199, some (195, false), .un .not (.t 198)⟩,
 qr 200 (.pick (.t 195) (.k (.b true)) (.t 199)),
 qm 201 200,
 ⟨some 202, some (201, false), .mv (.t 23)⟩,
 ⟨some 203, some (201, false), .mv (.t 21)⟩,
 ⟨some 204, some (201, false), .bin .neq (.t 202) (.t 203)⟩,
 qr 205 (.pick (.t 201) (.k (.b true)) (.t 204)),
 qm 206 205,
 ⟨some 207, some (206, false), .mv (.t 24)⟩,
 ⟨some 208, some (206, false), .mv (.t 37)⟩,
 ⟨some 209, some (206, false), .call 20 [(1, (.t 207)), (1, (.t 208))]⟩,
 ⟨some 210, some (206, false), .un .not (.t 209)⟩,
 qr 211 (.pick (.t 206) (.k (.b true)) (.t 210)),
 qm 212 211,
 ⟨some 213, some (212, false), .mv (.t 25)⟩,
 ⟨some 214, some (212, false), .bin .neq (.t 213) (.k (.i .i64 0))⟩,
 qr 215 (.pick (.t 212) (.k (.b true)) (.t 214)),
 qm 216 215,
 ⟨some 217, some (216, false), .mv (.t 26)⟩,
 ⟨some 218, some (216, false), .mv (.t 11)⟩,
 ⟨some 219, some (216, false), .call 22 [(1, (.t 218))]⟩,
 ⟨some 220, some (216, false), .call 20 [(1, (.t 217)), (1, (.t 219))]⟩,
 ⟨some 221, some (216, false), .un .not (.t 220)⟩,
 qr 222 (.pick (.t 216) (.k (.b true)) (.t 221)),
 qm 223 222,
 ⟨some 224, some (223, false), .mv (.t 28)⟩,
 ⟨some 225, some (223, false), .mv (.t 13)⟩,
 ⟨some 226, some (223, false), .call 20 [(1, (.t 224)), (1, (.t 225))]⟩,
 ⟨some 227, some (223, false), .un .not (.t 226)⟩,
 qr 228 (.pick (.t 223) (.k (.b true)) (.t 227)),
 qm 229 228,
 ⟨some 230, some (229, false), .mv (.t 29)⟩,
 ⟨some 231, some (229, false), .mv (.t 26)⟩,
 ⟨some 232, some (229, false), .call 20 [(1, (.t 230)), (1, (.t 231))]⟩,
 ⟨some 233, some (229, false), .un .not (.t 232)⟩,
 qr 234 (.pick (.t 229) (.k (.b true)) (.t 233))])
 (.cond (.t 234)
 (.seq (.reg [qr 6 (.mv (.k (.b false)))])
 (.ret))
 (.skip)))
 (.seq (.dreg [qm 235 7,
 qm 236 13,
 qm 237 14,
 qm 238 15,
 qm 239 17,
 qm 240 19,
 qm 241 20,
 qm 242 22,
 qm 243 24,
 qm 244 26,
 qm 245 27,
 qr 246 (.idx 1 (.t 245) (.k (.i .i64 0))),
 qr 247 (.ld false 1 (.t 246)),
 qm 248 27,
 qr 249 (.idx 1 (.t 248) (.k (.i .i64 1))),
 qr 250 (.ld false 1 (.t 249)),
 qm 251 27,
 qr 252 (.idx 1 (.t 251) (.k (.i .i64 2))),
 qr 253 (.ld false 1 (.t 252)),
 qm 254 28,
 qm 255 29,
 qr 256 (.bsl 23 1 14 [(.l 1 []), (.l 1 []), (.l 1 []), (.l 1 []), (.l 1 []), (.l 1 []), (.l 1 []), (.l 1 []), (.l 1 []), (.l 1 []), (.l 1 []), (.l 1 []), (.l 1 []), (.l 1 [])] [(0, (.t 236)), (1, (.t 237)), (2, (.t 238)), (3, (.t 239)), (4, (.t 240)), (5, (.t 241)), (6, (.t 242)), (7, (.t 243)), (8, (.t 244)), (9, (.t 247)), (10, (.t 250)), (11, (.t 253)), (12, (.t 254)), (13, (.t 255))]),
 qr 257 (.call 23 [(1, (.t 235)), (1, (.t 256))])])
 (.seq (.reg [qm 258 10,
 qr 259 (.bin .eql (.t 258) (.k (.i .i64 0)))])
 (.cond (.t 259)
 (.reg [qm 260 7,
 qr 261 (.call 24 [(1, (.t 260))])])
 (.skip))))))))))))))))))))))
 (.reg [qm 51 10,
 qr 52 (.bin .add (.t 51) (.k (.i .i64 1))),
 qm 10 52]))))))
 (.seq (.reg [qm 262 7,
 qr 263 (.call 25 [(1, (.t 262))]),
 qm 6 263])
 (.ret))))))
theorem sameT (a b : List Nat) (la : a.length ≤ 9223372036854775807) (e : a = b) : AFun Try.prog J0 20 [.l 1 (W a), .l 1 (W b)] (.b true) := by
  subst e
  have := same_spec a a la la
  simpa using this
def aD (A : AC) : AC := abk (alp (abk ((drp 4 A).p1.p2))).p2.p1
end Go.Proofs.Ytdafakcccjjpiaa
namespace Go.Proofs.Ytdafakcccjjpiaa
open Go Go.RowKit Ab
set_option linter.unusedSimpArgs false
set_option linter.unusedVariables false
set_option maxHeartbeats 10000000
theorem bz_AP34 : type_of% (And.intro @W_len (And.intro @Nat.div_one (And.intro @Nat.mul_one (And.intro @tn_nat (And.intro @W_nf (And.intro @W_nil (And.intro @wi (And.intro @nf_g (And.intro @Bool.false_and (@W_cell)))))))))) := And.intro @W_len (And.intro @Nat.div_one (And.intro @Nat.mul_one (And.intro @tn_nat (And.intro @W_nf (And.intro @W_nil (And.intro @wi (And.intro @nf_g (And.intro @Bool.false_and (@W_cell)))))))))
theorem chk_walk (a b S D U Hi Lo Up M : List Nat) (n e f h : Int) (z : Bool) (lS : S.length ≤ 9223372036854775807) (lD : D.length ≤ 9223372036854775807) (lU : U.length ≤ 9223372036854775807) (lH : Hi.length ≤ 9223372036854775807) (lL : Lo.length ≤ 9223372036854775807) (lP : Up.length ≤ 9223372036854775807) (lM : M.length ≤ 9223372036854775807)
    (c1 : AFun Try.prog J0 16 [.l 1 (W a), .l 1 (W b)] (.t [.l 1 (W D), .b z])) (c2 : AFun Try.prog J0 17 [.l 1 (W a), .l 1 (W b)] (.t [.l 1 (W U), .i .i64 e])) (c3 : AFun Try.prog J0 18 [.l 1 (W a), .i .i64 n] (.t [.l 1 (W Hi), .l 1 (W Lo), .i .i64 f])) (c4 : AFun Try.prog J0 19 [.l 1 (W a), .i .i64 (bits .and .i64 n 127)] (.t [.l 1 (W Up), .i .i64 h]))
    (c5 : AFun Try.prog J0 21 [.l 1 (W a), .l 1 (W b)] (.o 45 1 (W S))) (c6 : AFun Try.prog J0 22 [.l 1 (W a)] (.o 45 1 (W M))) :
    avc (AFun Try.prog J0) (XFun Try.prog) ((drp 12 (aD a3)).p1.seq ((drp 13 (aD a3)).p1.seq ((drp 14 (aD a3)).p1.seq ((drp 15 (aD a3)).p1.seq (drp 16 (aD a3)).p1)))) (fun ex s => ex = .normal ∧ True)
      ⟨[(2, .i .i64 n), (11, .l 1 (W a)), (12, .l 1 (W b)), (13, .l 1 (W S)), (14, .l 1 (W S)), (15, .l 1 (W D)), (17, .l 1 (W U)), (18, .i .i64 e), (19, .l 1 (W Hi)), (20, .l 1 (W Lo)), (21, .i .i64 f), (22, .l 1 (W Hi)), (23, .i .i64 f), (24, .l 1 (W Up)), (25, .i .i64 0), (26, .l 1 (W M)), (28, .l 1 (W S)), (29, .l 1 (W M))], [], 0⟩ := by
  have sS := sameT S S lS rfl
  have sD := sameT D D lD rfl
  have sU := sameT U U lU rfl
  have sH := sameT Hi Hi lH rfl
  have sL := sameT Lo Lo lL rfl
  have sP := sameT Up Up lP rfl
  have sM := sameT M M lM rfl
  apply vm_start
  unfold aD a3
  simp only [init_eq, initE, qm, qr, qn, AC.p1, AC.p2, drp, abk, alp]
  have zc1 := c1
  have zc2 := c2
  have zc3 := c3
  have zc4 := c4
  have zc5 := c5
  have zc6 := c6
  refine wkQ @bz_AP34 ?_
  exact ⟨trivial, trivial⟩
end Go.Proofs.Ytdafakcccjjpiaa
namespace Go.Proofs.Ytdafakcccjjpiaa
open Go Go.RowKit Ab
set_option linter.unusedSimpArgs false
set_option linter.unusedVariables false
set_option maxHeartbeats 10000000
theorem bz_AP35 : type_of% (And.intro @W_len (And.intro @Nat.div_one (And.intro @Nat.mul_one (And.intro @tn_nat (And.intro @W_nf (And.intro @W_nil (And.intro @wi (And.intro @nf_g (And.intro @Bool.false_and (@W_cell)))))))))) := And.intro @W_len (And.intro @Nat.div_one (And.intro @Nat.mul_one (And.intro @tn_nat (And.intro @W_nf (And.intro @W_nil (And.intro @wi (And.intro @nf_g (And.intro @Bool.false_and (@W_cell)))))))))
theorem unt_walk (x0 : V) (L : List (List Nat)) (cs : List V) (k : Nat) (lc : cs.length = 3) (c1 : k = 0 → AFun Try.prog J0 15 [.ip [x0, .l 1 (LA L), .l 1 (LA L)] 0] (.b true)) :
    avc (AFun Try.prog J0) (XFun Try.prog) (drp 11 (aD a3)).p1 (fun ex s => ex = .normal ∧ True) ⟨[(7, .ip [x0, .l 1 (LA L), .l 1 (LA L)] 0), (10, .i .i64 (k : Int)), (27, .l 1 cs)], [], 0⟩ := by
  have l3 : ((cs.length : Nat) : Int) = 3 := by omega
  apply vm_start
  unfold aD a3
  simp only [init_eq, initE, qm, qr, qn, AC.p1, AC.p2, drp, abk, alp]
  by_cases h : k = 0
  · subst h
    have c := c1 rfl
    refine wkQ (ai @lc (ai @l3 @bz_AP35)) ?_
    exact ⟨trivial, trivial⟩
  · have h' : ¬ (k : Int) = 0 := by omega
    refine spQ (ai @lc (ai @l3 (ai @h' @bz_AP35))) ?_
    exact ⟨trivial, trivial⟩
theorem unt_walk1 (cs : List V) (k : Nat) (lc : cs.length = 3) (hk : k ≠ 0) :
    avc (AFun Try.prog J0) (XFun Try.prog) (drp 11 (aD a3)).p1 (fun ex s => ex = .normal ∧ True) ⟨[(10, .i .i64 (k : Int)), (27, .l 1 cs)], [], 0⟩ := by
  have l3 : ((cs.length : Nat) : Int) = 3 := by omega
  have h' : ¬ (k : Int) = 0 := by omega
  apply vm_start
  unfold aD a3
  simp only [init_eq, initE, qm, qr, qn, AC.p1, AC.p2, drp, abk, alp]
  refine spQ (ai @lc (ai @l3 (ai @h' @bz_AP35))) ?_
  exact ⟨trivial, trivial⟩
end Go.Proofs.Ytdafakcccjjpiaa
namespace Go.Proofs.Ytdafakcccjjpiaa
open Go Go.RowKit Go.Proofs Ab
set_option linter.unusedSimpArgs false
set_option linter.unusedVariables false
set_option maxHeartbeats 10000000
set_option maxHeartbeats 4000000
set_option maxRecDepth 2000000
theorem nodk_of {h e : Nat → Prop} {l : List Nat} {g : Nat → Value} {A : AC} (hl : (l.all fun t => nod t A) = true) : nodk ⟨h, e, l.map fun t => (t, g t)⟩ A := fun m v hm => by
  obtain ⟨t, ht, he⟩ := List.mem_map.1 hm
  have e1 : t = m := congrArg Prod.fst he
  exact e1 ▸ List.all_eq_true.1 hl t ht
def kpL : List Nat := [0, 1, 2, 7, 8, 9, 10, 11, 12, 13, 14, 15, 16, 17, 18, 19, 20, 21, 22, 23, 24, 25, 26, 27, 28, 29]
theorem na_chk {a : Act} {w : World} {R : Exit → Act → World → Prop} {H : Nat → Prop} {x y S D U Hi Lo Up M : List Nat} {n e f h : Int} {z : Bool} (hz : a.tmps.size = 264) (hd : a.defers = []) (hH : ∀ q, H q → q < w.heap.size)
    (lS : S.length ≤ 9223372036854775807) (lD : D.length ≤ 9223372036854775807) (lU : U.length ≤ 9223372036854775807) (lH : Hi.length ≤ 9223372036854775807) (lL : Lo.length ≤ 9223372036854775807) (lP : Up.length ≤ 9223372036854775807) (lM : M.length ≤ 9223372036854775807)
    (c1 : AFun Try.prog J0 16 [.l 1 (W x), .l 1 (W y)] (.t [.l 1 (W D), .b z])) (c2 : AFun Try.prog J0 17 [.l 1 (W x), .l 1 (W y)] (.t [.l 1 (W U), .i .i64 e])) (c3 : AFun Try.prog J0 18 [.l 1 (W x), .i .i64 n] (.t [.l 1 (W Hi), .l 1 (W Lo), .i .i64 f])) (c4 : AFun Try.prog J0 19 [.l 1 (W x), .i .i64 (bits .and .i64 n 127)] (.t [.l 1 (W Up), .i .i64 h]))
    (c5 : AFun Try.prog J0 21 [.l 1 (W x), .l 1 (W y)] (.o 45 1 (W S))) (c6 : AFun Try.prog J0 22 [.l 1 (W x)] (.o 45 1 (W M)))
    (henv : ∀ p, p ∈ ([(2, .i .i64 n), (11, .l 1 (W x)), (12, .l 1 (W y)), (13, .l 1 (W S)), (14, .l 1 (W S)), (15, .l 1 (W D)), (17, .l 1 (W U)), (18, .i .i64 e), (19, .l 1 (W Hi)), (20, .l 1 (W Lo)), (21, .i .i64 f), (22, .l 1 (W Hi)), (23, .i .i64 f), (24, .l 1 (W Up)), (25, .i .i64 0), (26, .l 1 (W M)), (28, .l 1 (W S)), (29, .l 1 (W M))] : List (Nat × V)) → Rep w H (fun _ => none) (a.tmps.getD p.1 undef) p.2)
    (kk : ∀ (a' : Act) (w' : World), a'.tmps.size = 264 → (∀ t, t ∈ kpL → a'.tmps.getD t undef = a.tmps.getD t undef) → a'.defers = [] → Below w.heap.size w w' → (qd 17 (naD Try.f3)).wp Try.prog R a' w') : (qd 12 (naD Try.f3)).wp Try.prog R a w := by
  have hconc : Conc w ⟨H, fun _ => False, kpL.map fun t => (t, a.tmps.getD t undef)⟩ w H (fun _ => none) 264 a ⟨[(2, .i .i64 n), (11, .l 1 (W x)), (12, .l 1 (W y)), (13, .l 1 (W S)), (14, .l 1 (W S)), (15, .l 1 (W D)), (17, .l 1 (W U)), (18, .i .i64 e), (19, .l 1 (W Hi)), (20, .l 1 (W Lo)), (21, .i .i64 f), (22, .l 1 (W Hi)), (23, .i .i64 f), (24, .l 1 (W Up)), (25, .i .i64 0), (26, .l 1 (W M)), (28, .l 1 (W S)), (29, .l 1 (W M))], [], 0⟩ := by
    refine ⟨⟨BelE.refl _ _, tj0 _ _, hH, fun b h _ => .inl h, fun id o h => (by cases h), fun i j oi oj vi vj q _ h => (by cases h)⟩, hz, hd, fun m v hm => ?_, ?_, fun _ _ => rfl⟩
    · obtain ⟨t, _, he⟩ := List.mem_map.1 hm
      cases he; rfl
    · exact env_lk (fun t => a.tmps.getD t undef) _ henv
  have hw := chk_walk x y S D U Hi Lo Up M n e f h z lS lD lU lH lL lP lM c1 c2 c3 c4 c5 c6
  refine seq_go fol (by kernel_rfl) (nodk_of (by decide)) hconc hw ?_
  intro a1 w1 H1 ov1 s1 hv1 hc1
  refine seq_go fol (by kernel_rfl) (nodk_of (by decide)) hc1 hv1 ?_
  intro a2 w2 H2 ov2 s2 hv2 hc2
  refine seq_go fol (by kernel_rfl) (nodk_of (by decide)) hc2 hv2 ?_
  intro a3 w3 H3 ov3 s3 hv3 hc3
  refine seq_go fol (by kernel_rfl) (nodk_of (by decide)) hc3 hv3 ?_
  intro a4 w4 H4 ov4 s4 hv4 hc4
  refine last_go fol (by kernel_rfl) (nodk_of (by decide)) hc4 hv4 ?_
  intro a5 w5 H5 ov5 s5 _ hc5
  exact kk a5 w5 hc5.siz (fun t ht => hc5.kp t _ (List.mem_map.2 ⟨t, ht, rfl⟩)) hc5.dfr (hc5.mem.bel.below (fun _ h => h))
end Go.Proofs.Ytdafakcccjjpiaa
namespace Go.Proofs.Ytdafakcccjjpiaa
open Go Go.RowKit Go.Proofs Ab
set_option linter.unusedSimpArgs false
set_option linter.unusedVariables false
set_option maxHeartbeats 10000000
set_option maxHeartbeats 4000000
set_option maxRecDepth 2000000
theorem na_unt {a : Act} {w : World} {R : Exit → Act → World → Prop} {H : Nat → Prop} {x0 : V} {L : List (List Nat)} {cs : List V} {k : Nat} (hz : a.tmps.size = 264) (hd : a.defers = []) (hH : ∀ q, H q → q < w.heap.size) (lc : cs.length = 3)
    (c1 : k = 0 → AFun Try.prog J0 15 [.ip [x0, .l 1 (LA L), .l 1 (LA L)] 0] (.b true))
    (h7 : Rep w H (fun _ => none) (a.tmps.getD 7 undef) (.ip [x0, .l 1 (LA L), .l 1 (LA L)] 0)) (h10 : a.tmps.getD 10 undef = .int .i64 (k : Int)) (h27 : Rep w H (fun _ => none) (a.tmps.getD 27 undef) (.l 1 cs))
    (kk : ∀ (a' : Act) (w' : World), a'.tmps.size = 264 → (∀ t, t ∈ kpL → a'.tmps.getD t undef = a.tmps.getD t undef) → a'.defers = [] → Below w.heap.size w w' → (qd 12 (naD Try.f3)).wp Try.prog R a' w') : (qd 11 (naD Try.f3)).wp Try.prog R a w := by
  have hconc : Conc w ⟨H, fun _ => False, kpL.map fun t => (t, a.tmps.getD t undef)⟩ w H (fun _ => none) 264 a ⟨[(7, .ip [x0, .l 1 (LA L), .l 1 (LA L)] 0), (10, .i .i64 (k : Int)), (27, .l 1 cs)], [], 0⟩ := by
    refine ⟨⟨BelE.refl _ _, tj0 _ _, hH, fun b h _ => .inl h, fun id o h => (by cases h), fun i j oi oj vi vj q _ h => (by cases h)⟩, hz, hd, fun m v hm => ?_, ?_, fun _ _ => rfl⟩
    · obtain ⟨t, _, he⟩ := List.mem_map.1 hm
      cases he; rfl
    · refine env_lk (fun t => a.tmps.getD t undef) _ fun p hp => ?_
      simp only [List.mem_cons, List.not_mem_nil, or_false] at hp
      rcases hp with rfl | rfl | rfl
      · exact h7
      · show Rep _ _ _ (a.tmps.getD 10 undef) _
        rw [h10]; exact .i _ _
      · exact h27
  refine last_go fol (by kernel_rfl) (nodk_of (by decide)) hconc (unt_walk x0 L cs k lc c1) ?_
  intro a5 w5 H5 ov5 s5 _ hc5
  exact kk a5 w5 hc5.siz (fun t ht => hc5.kp t _ (List.mem_map.2 ⟨t, ht, rfl⟩)) hc5.dfr (hc5.mem.bel.below (fun _ h => h))
theorem na_unt1 {a : Act} {w : World} {R : Exit → Act → World → Prop} {H : Nat → Prop} {cs : List V} {k : Nat} (hz : a.tmps.size = 264) (hd : a.defers = []) (hH : ∀ q, H q → q < w.heap.size) (lc : cs.length = 3)
    (hk : k ≠ 0) (h10 : a.tmps.getD 10 undef = .int .i64 (k : Int)) (h27 : Rep w H (fun _ => none) (a.tmps.getD 27 undef) (.l 1 cs))
    (kk : ∀ (a' : Act) (w' : World), a'.tmps.size = 264 → (∀ t, t ∈ kpL → a'.tmps.getD t undef = a.tmps.getD t undef) → a'.defers = [] → Below w.heap.size w w' → (qd 12 (naD Try.f3)).wp Try.prog R a' w') : (qd 11 (naD Try.f3)).wp Try.prog R a w := by
  have hconc : Conc w ⟨H, fun _ => False, kpL.map fun t => (t, a.tmps.getD t undef)⟩ w H (fun _ => none) 264 a ⟨[(10, .i .i64 (k : Int)), (27, .l 1 cs)], [], 0⟩ := by
    refine ⟨⟨BelE.refl _ _, tj0 _ _, hH, fun b h _ => .inl h, fun id o h => (by cases h), fun i j oi oj vi vj q _ h => (by cases h)⟩, hz, hd, fun m v hm => ?_, ?_, fun _ _ => rfl⟩
    · obtain ⟨t, _, he⟩ := List.mem_map.1 hm
      cases he; rfl
    · refine env_lk (fun t => a.tmps.getD t undef) _ fun p hp => ?_
      simp only [List.mem_cons, List.not_mem_nil, or_false] at hp
      rcases hp with rfl | rfl
      · show Rep _ _ _ (a.tmps.getD 10 undef) _
        rw [h10]; exact .i _ _
      · exact h27
  refine last_go fol (by kernel_rfl) (nodk_of (by decide)) hconc (unt_walk1 cs k lc hk) ?_
  intro a5 w5 H5 ov5 s5 _ hc5
  exact kk a5 w5 hc5.siz (fun t ht => hc5.kp t _ (List.mem_map.2 ⟨t, ht, rfl⟩)) hc5.dfr (hc5.mem.bel.below (fun _ h => h))
end Go.Proofs.Ytdafakcccjjpiaa
