/-
  The library's two helpers of Undigits: does a list hold a word that is no digit; a list from its end.
-/
import Derived.Test.YtgejbndgakgfnaaGreatDoorGD
import Derived.RangeFuncNested
import Derived.RangeFuncBound
import Derived.RangeFuncCalls
import Derived.RangeFuncLeaves
import Derived.RangeFuncBox
import Derived.RangeFuncFrom
import Derived.Shelf.Abstract
import Derived.Shelf.RegionOpen
import Derived.WalkKit
import Derived.OwnWalkIn
import Derived.TacticsInMore
import Derived.LoopNIn
import Derived.LoopIn
import Derived.Maps.AppendAt
import Derived.Handy
namespace Go.Proofs.YtgejbndgakgfnaaGreatDoor
open Go Go.RowKit Go.Shelf Go.Proofs Ab
set_option linter.unusedSimpArgs false
set_option linter.unusedVariables false
set_option maxHeartbeats 10000000
set_option maxHeartbeats 4000000
set_option maxRecDepth 2000000
theorem und_pred (C : Nat) (base d : Nat) (W : World) (hc : W.cell? ⟨C, 0, none⟩ = some (.int .u64 base)) :
    Calls Tryz.prog 130 #[.int .u64 d, .pointer (some ⟨C, 0, none⟩)] W fun e w' => e = .returned (.bool (decide (base ≤ d))) ∧ w' = W := by
  go_enter Tryz.func130, Tryz.ntmps130
  go_wp2
  go_ret
  exact ⟨rfl, rfl⟩
theorem und_index (C base : Nat) (a : Option Addr) (b off c : Nat) (l : List Nat) (w : World) (hc : w.cell? ⟨C, 0, none⟩ = some (.int .u64 base)) (ha : 0 < l.length → a = some ⟨b, off, none⟩) (hn : l.length ≤ 1000000000)
    (hl : ∀ j, j < l.length → w.cell? ⟨b, off + j, none⟩ = some (.int .u64 ((l[j]?.getD 0 : Nat) : Int))) :
    Calls Tryz.prog 134 #[.slice a l.length c, .func (.func 130) #[] #[.pointer (some ⟨C, 0, none⟩)]] w fun e w' =>
      (∃ r : Int, e = .returned (.int .i64 r) ∧ (0 ≤ r ↔ ∃ j, j < l.length ∧ base ≤ l[j]?.getD 0)) ∧ w' = w := by
  have hp := fun d => und_pred C base d w hc
  have eg : ∀ args w, (callFunc 130 args).run Tryz.prog w = .ok (.enter 130 args) w := enters_of Tryz.func130 (by kernel_rfl) rfl
  go_enter Tryz.func134, Tryz.ntmps134
  go_wp2
  go_loopw [5, 8] (fun _ s8 wr => ∃ k : Nat, k ≤ l.length ∧ s8 = .int .i64 k ∧ wr = w ∧ ∀ j, j < k → l[j]?.getD 0 < base) (fun _ s8 _ => l.length - (intOf s8).toNat)
  case atStart => exact ⟨0, Nat.zero_le _, rfl, rfl, fun j hj => absurd hj (Nat.not_lt_zero _)⟩
  case round =>
    obtain ⟨k, hk, rfl, rfl, hlt⟩ := hrel
    by_cases h : k < l.length
    · obtain rfl := ha (by omega)
      have hcell := hl k h
      have hI : (k : Int) < (l.length : Int) := by omega
      have hcall := hp (l[k]?.getD 0)
      clear hl
      by_cases hq : base ≤ l[k]?.getD 0
      · rw [show decide (base ≤ l[k]?.getD 0) = true from decide_eq_true (by omega)] at hcall
        generalize hd : l[k]?.getD 0 = d at *
        go_wp2_with (go_at_fn 130; refine hcall.mono ?_; rintro e w' ⟨rfl, rfl⟩)
        go_ret
        exact ⟨⟨_, rfl, ⟨fun _ => ⟨k, h, by rw [hd]; exact hq⟩, fun _ => by omega⟩⟩, rfl⟩
      · rw [show decide (base ≤ l[k]?.getD 0) = false from decide_eq_false (by omega)] at hcall
        generalize hd : l[k]?.getD 0 = d at *
        go_wp2_with (go_at_fn 130; refine hcall.mono ?_; rintro e w' ⟨rfl, rfl⟩)
        go_roundw
        case rel =>
          refine ⟨k + 1, by omega, by go_num, trivial, fun j hj => ?_⟩
          rcases Nat.lt_or_ge j k with h9 | h9
          · exact hlt j h9
          · rw [show j = k from by omega, hd]; omega
        case measure => simp [intOf]; omega
    · have hI : ¬ (k : Int) < (l.length : Int) := by omega
      go_wp2
      go_ret
      refine ⟨⟨_, rfl, ⟨fun h => by omega, fun ⟨j, h1, h2⟩ => ?_⟩⟩, rfl⟩
      have := hlt j (by omega); omega
theorem und_contains (C base : Nat) (a : Option Addr) (b off c : Nat) (l : List Nat) (w : World) (hc : w.cell? ⟨C, 0, none⟩ = some (.int .u64 base)) (ha : 0 < l.length → a = some ⟨b, off, none⟩) (hn : l.length ≤ 1000000000)
    (hl : ∀ j, j < l.length → w.cell? ⟨b, off + j, none⟩ = some (.int .u64 ((l[j]?.getD 0 : Nat) : Int))) :
    Calls Tryz.prog 129 #[.slice a l.length c, .func (.func 130) #[] #[.pointer (some ⟨C, 0, none⟩)]] w fun e w' =>
      (∃ r : Bool, e = .returned (.bool r) ∧ (r = true ↔ ∃ j, j < l.length ∧ base ≤ l[j]?.getD 0)) ∧ w' = w := by
  have hi := und_index C base a b off c l w hc ha hn hl
  go_enter Tryz.func129, Tryz.ntmps129
  go_wp2_with (go_at_call 134; refine hi.mono ?_; rintro e w' ⟨⟨r, rfl, hr⟩, rfl⟩)
  go_ret
  exact ⟨⟨_, rfl, by first | exact hr | exact Iff.rfl | simp⟩, rfl⟩
end Go.Proofs.YtgejbndgakgfnaaGreatDoor
