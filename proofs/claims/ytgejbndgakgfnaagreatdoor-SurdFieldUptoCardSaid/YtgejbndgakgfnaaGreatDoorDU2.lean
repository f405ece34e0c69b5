/-
  slices.Backward over a list of words; rows in a box.
-/
import Derived.Test.YtgejbndgakgfnaaGreatDoorDU1
namespace Go.Proofs.YtgejbndgakgfnaaGreatDoor
open Go Go.RowKit Go.Shelf Go.Proofs Ab
set_option linter.unusedSimpArgs false
set_option linter.unusedVariables false
set_option maxHeartbeats 10000000
set_option maxHeartbeats 4000000
set_option maxRecDepth 2000000
attribute [local go_sem] Oper.semAt_some
abbrev Dg := { d : Nat // d < 18446744073709551616 }
def bkD (l : List Nat) (hl : Wd l) (k : Nat) : Nat × Dg := (l.length - 1 - k, ⟨l[l.length - 1 - k]?.getD 0, by have := Wd_get hl (l.length - 1 - k); rwa [List.getD_eq_getElem?_getD] at this⟩)
def upU {α : Type} (f : Nat → α) (k : Nat) : List α := (List.range k).map f
theorem upU_succ {α : Type} (f : Nat → α) (k : Nat) : upU f (k + 1) = upU f k ++ [f k] := by simp [upU, List.range_succ]
theorem upU_len {α : Type} (f : Nat → α) (k : Nat) : (upU f k).length = k := by simp [upU]
def KpU (n₀ Bs : Nat) (w w' : World) : Prop := Below n₀ w w' ∧ w'.heap[Bs]? = w.heap[Bs]?
theorem KpU.t {n₀ Bs : Nat} {A B C : World} (h : KpU n₀ Bs A B) (k : KpU n₀ Bs B C) : KpU n₀ Bs A C := ⟨h.1.trans k.1, k.2.trans h.2⟩
theorem KpU.b {n₀ Bs : Nat} {w : World} (hn : n₀ ≤ w.heap.size) (hB : Bs < w.heap.size) (W : World) (y : Nat) (o o' : Obj) (hy : w.heap.size ≤ y) (h : W.heap[y]? = some o) (h1 : o.isCells = false) (h2 : o.isWalk = false) : KpU n₀ Bs W (W.putObj y o') :=
  ⟨belowK_b hn W y o o' hy h h1 h2, World.putObj_heap_other (by omega)⟩
theorem KpU.refl (n₀ Bs : Nat) (w : World) : KpU n₀ Bs w w := ⟨Below.refl _ _, rfl⟩
theorem bk_in (F : Fence) (n : Nat) (hf : F.fn 131) (hro : F.round = none) (a : Option Addr) (len cap : Nat) (w : World) :
    CallsIn F n Tryz.prog 131 #[.slice a len cap] w fun e w' => e = .returned (.func (.func 135) #[] #[.pointer (some ⟨w.heap.size, 0, none⟩)]) ∧ w' = w.alloc (.cells #[.slice a len cap] 22) := by
  refine callsIn_of_wp Tryz.func131 rfl hf ?_ hro
  simp only [Tryz.ntmps131, List.size_toArray, List.length_cons, List.length_nil, Nat.reduceAdd, Nat.reduceSub, Array.replicate_succ, Array.replicate_zero, List.push_toArray, List.append_toArray, List.nil_append, List.cons_append]
  gi_wp2
  go_ret
  exact ⟨rfl, rfl⟩
theorem bk1_in (F : Fence) (n : Nat) (hf : F.fn 135) (hro : F.round = none) (hn : 1 ≤ n) (y Bs n₀ b off cap : Nat) (a : Option Addr) (l : List Nat) (hl : Wd l) (hreach : l.length ≤ 1000000000) (hb : 0 < l.length → b < n₀) (ha : 0 < l.length → a = some ⟨b, off, none⟩) (J Jx : List (Nat × Dg) → World → Prop)
    (hY : ∀ pre x W, J pre W → pre.length < l.length → YieldAt F (n - 1) Tryz.prog y #[.int .i64 (x.1 : Int), .int .u64 (x.2.1 : Int)] W fun e W' =>
      (e = .returned (.bool true) ∧ J (pre ++ [x]) W' ∧ KpU n₀ Bs W W') ∨ (e = .returned (.bool false) ∧ Jx (pre ++ [x]) W'))
    (W : World) (hBs : W.cell? ⟨Bs, 0, none⟩ = some (.slice a l.length cap)) (hc : ∀ j, j < l.length → W.cell? ⟨b, off + j, none⟩ = some (.int .u64 ((l[j]?.getD 0 : Nat) : Int))) (h0 : J [] W) :
    CallsIn F n Tryz.prog 135 #[.func (.yield y) #[] #[], .pointer (some ⟨Bs, 0, none⟩)] W fun e W' => (∃ v, e = .returned v) ∧
      ((∃ ys, ys = upU (bkD l hl) l.length ∧ J ys W') ∨ (∃ pre, (∃ k, k ≤ l.length ∧ pre = upU (bkD l hl) k) ∧ Jx pre W')) := by
  refine callsIn_of_wp Tryz.func135 rfl hf ?_ hro
  simp only [Tryz.ntmps135, List.size_toArray, List.length_cons, List.length_nil, Nat.reduceAdd, Nat.reduceSub, Array.replicate_succ, Array.replicate_zero, List.push_toArray, List.append_toArray, List.nil_append, List.cons_append]
  gi_wp2
  gi_loopw [3] (fun i wr => ∃ m : Nat, m ≤ l.length ∧ i = .int .i64 ((m : Int) - 1) ∧ J (upU (bkD l hl) (l.length - m)) wr ∧ KpU n₀ Bs W wr)
    (fun i _ => (intOf i + 1).toNat)
  case atStart => exact ⟨l.length, Nat.le_refl _, by go_num, by rw [Nat.sub_self]; exact h0, KpU.refl _ _ _⟩
  case round =>
    obtain ⟨m, hm, rfl, hJs, hnx⟩ := hrel
    have hBx : wr.cell? ⟨Bs, 0, none⟩ = some (.slice a l.length cap) := (World.cell?_of_block (a := ⟨Bs, 0, none⟩) hnx.2).trans hBs
    cases m with
    | zero =>
      have e : (((0 : Nat) : Int) - 1) = -1 := by omega
      rw [e]
      gi_wp2
      go_end0
      rw [Nat.sub_zero] at hJs
      exact ⟨⟨_, rfl⟩, .inl ⟨_, rfl, hJs⟩⟩
    | succ j =>
      have e : (((j + 1 : Nat) : Int) - 1) = (j : Int) := by omega
      rw [e]
      obtain rfl := ha (by omega)
      have hcx : wr.cell? ⟨b, off + j, none⟩ = some (.int .u64 ((l[j]?.getD 0 : Nat) : Int)) := (hnx.1.cell (p := ⟨b, off + j, none⟩) (hb (by omega))).trans (hc j (by omega))
      have hx : bkD l hl (l.length - (j + 1)) = (j, ⟨l[j]?.getD 0, by have := Wd_get hl j; rwa [List.getD_eq_getElem?_getD] at this⟩) := by
        have hj : l.length - 1 - (l.length - (j + 1)) = j := by omega
        unfold bkD
        simp only [hj]
      have hup : upU (bkD l hl) (l.length - j) = upU (bkD l hl) (l.length - (j + 1)) ++ [(j, ⟨l[j]?.getD 0, by have := Wd_get hl j; rwa [List.getD_eq_getElem?_getD] at this⟩)] := by
        rw [show l.length - j = l.length - (j + 1) + 1 from by omega, upU_succ, hx]
      obtain ⟨fn, tmps, assign, body, hy, hR⟩ := hY _ (j, ⟨l[j]?.getD 0, by have := Wd_get hl j; rwa [List.getD_eq_getElem?_getD] at this⟩) wr hJs (by rw [upU_len]; omega)
      dsimp only at hy
      rw [← hup] at hR
      gi_wp2
      refine hR.mono ?_
      rintro e W3 (⟨rfl, hJ3, hk3⟩ | ⟨rfl, hJx3⟩)
      · gi_wp2
        go_roundw
        case rel => exact ⟨j, by omega, by go_num, hJ3, hnx.t hk3⟩
        case measure => simp [intOf]
      · gi_wp2
        refine bodyPost_ret (results_none rfl _ _ _) rfl ?_
        exact ⟨⟨_, rfl⟩, .inr ⟨_, ⟨l.length - j, by omega, rfl⟩, hJx3⟩⟩
theorem bk_stops (F : Fence) (n : Nat) (hf : F.fn 135) (hro : F.round = none) (hn : 1 ≤ n) (Bs n₀ b off cap : Nat) (a : Option Addr) (l : List Nat) (hl : Wd l) (hreach : l.length ≤ 1000000000) (hb : 0 < l.length → b < n₀) (ha : 0 < l.length → a = some ⟨b, off, none⟩)
    (w : World) (hBs : Bs < w.heap.size) (hn₀ : n₀ ≤ w.heap.size) (hcB : w.cell? ⟨Bs, 0, none⟩ = some (.slice a l.length cap)) (hc : ∀ j, j < l.length → w.cell? ⟨b, off + j, none⟩ = some (.int .u64 ((l[j]?.getD 0 : Nat) : Int))) :
    SeqStopsK F n Tryz.prog 135 #[.pointer (some ⟨Bs, 0, none⟩)] (fun x : Nat × Dg => #[Value.int .i64 (x.1 : Int), Value.int .u64 (x.2.1 : Int)]) (KpU n₀ Bs) (fun ys => ys = upU (bkD l hl) l.length)
      (fun pre => ∃ k, k ≤ l.length ∧ pre = upU (bkD l hl) k) l.length w := fun y J Jx W hW _ _ hY h0 =>
  bk1_in F n hf hro hn y Bs n₀ b off cap a l hl hreach hb ha J Jx hY W ((hW.cell (p := ⟨Bs, 0, none⟩) hBs).trans hcB) (fun j hj => (hW.cell (p := ⟨b, off + j, none⟩) (Nat.lt_of_lt_of_le (hb (by omega)) hn₀)).trans (hc j hj)) h0
end Go.Proofs.YtgejbndgakgfnaaGreatDoor
