/-
  slices.Grow at nil.
-/
import Derived.Test.YtngohbpgdeiodaaM5
import Derived.WalkKit
import Derived.Lib.Walk
import Derived.Lib.SliceRun
import Derived.Lib.AppendZerosOnto
namespace Go.Proofs.Ytngohbpgdeiodaa
open Go Go.RowKit Ab
set_option linter.unusedSimpArgs false
set_option linter.unusedVariables false
set_option maxHeartbeats 10000000

set_option maxHeartbeats 4000000 in
set_option maxRecDepth 100000 in
theorem grow_nil (n : Nat) (h0 : 0 < n) (hn : n ≤ 1000000000000) (w : World) :
    Calls Try.prog 98 #[.slice none 0 0, .int .i64 n] w fun e w' =>
      e = .returned (.slice (some ⟨w.heap.size, 0, none⟩) 0 (grownCap w n 0 29)) ∧
      w' = (w.alloc (.cells (Builtin.zeroCells #[.int .u64 0] n ++ Builtin.zeroCells #[.int .u64 0] (grownCap w n 0 29 - n)) 29)).drew := by
  have h1 : ¬ ((n : Int) < 0) := by omega
  have h2 : wrap64 ((n : Int) - 0) = (n : Int) := by unfold wrap64; omega
  have h4 : (n : Int) > 0 := by omega
  have hfit : Builtin.nextslicecap n 0 * 8 ≤ 281474976710656 := growslice_fits (need := n) (old := 0) (bytes := 8) h0 (by omega)
  go_enter Try.func98, Try.ntmps98
  go_wp2
  all_goals first | (exfalso; omega) | (exfalso; simp only [show Try.t29.bytes = 8 from rfl] at *; omega) | (go_ret; exact ⟨rfl, rfl⟩)

theorem grow_zero (w : World) : Calls Try.prog 98 #[.slice none 0 0, .int .i64 0] w fun e w' => e = .returned (.slice none 0 0) ∧ w' = w := by
  go_enter Try.func98, Try.ntmps98
  go_wp2
  all_goals (go_ret; exact ⟨rfl, rfl⟩)

theorem grow_spec (n : Nat) (hn : n ≤ 1000000000000) : AFun Try.prog J0 98 [.nl, .i .i64 (n : Int)] (.o 29 1 []) := by
  intro w H vs hJ hH hr
  match vs, hr with
  | [a, b], hr =>
    have e1 := Rep.inv_nl (ov := fun _ => none) (.up (hr.2 0 a _ rfl rfl))
    have e2 := Rep.inv_i (ov := fun _ => none) (.up (hr.2 1 b _ rfl rfl))
    subst e1 e2
    rcases Nat.eq_zero_or_pos n with h | h
    · subst h
      refine (grow_zero w).mono ?_
      rintro e w' ⟨rfl, rfl⟩
      exact ⟨_, rfl, Below.refl _ _, fun _ => False, fun b hb => hb.elim, .inr (.inl ⟨_, _, [], 0, [], rfl, by decide, World.ownsRow_nil _ _ _ _, ⟨rfl, fun j v x h => by simp at h⟩, fun x hx => by (cases hx), Nat.zero_le _, fun b hb => by cases hb⟩)⟩
    · refine (grow_nil n h hn w).mono ?_
      rintro e w' ⟨rfl, rfl⟩
      have hG := grownCap_ge w n 0 29
      have hG2 := grownCap_le_maxLen w n 0 29 (by unfold maxLen; omega)
      generalize grownCap w n 0 29 = G at *
      refine ⟨_, rfl, ((Below.refl _ _).alloc (Nat.le_refl _) _).drew, fun _ => False, fun b hb => hb.elim, .inr (.inl ⟨29, 1, [], 0, [], rfl, by decide, ⟨rfl, .inr ⟨w.heap.size, G, _, rfl, Nat.le_refl _, heap_alloc_new w _, Nat.zero_le _, hG2, ?_, by simp⟩⟩, ⟨rfl, fun j v x h => by simp at h⟩, fun x hx => by (cases hx), Nat.zero_le _, fun b hb h => h⟩)⟩
      simp [Builtin.zeroCells]; omega
end Go.Proofs.Ytngohbpgdeiodaa
