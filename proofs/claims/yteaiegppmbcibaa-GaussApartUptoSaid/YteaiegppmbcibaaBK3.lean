/-
  The book: an integer to be handed in.
-/
import Derived.Test.YteaiegppmbcibaaBK2
import Derived.RangeFuncNested
import Derived.RangeFuncCalls
import Derived.Shelf.Abstract
import Derived.Shelf.RegionOpen
import Derived.WalkKit
import Derived.OwnWalkIn
import Derived.TacticsInMore
import Derived.LoopNIn
import Derived.LoopIn
import Derived.Handy
import Derived.Deep.RegionWith
namespace Go.Proofs.Yteaiegppmbcibaa
open Go Go.RowKit Go.Shelf Go.Proofs Ab
set_option linter.unusedSimpArgs false
set_option linter.unusedVariables false
set_option maxHeartbeats 10000000
set_option maxHeartbeats 4000000
set_option maxRecDepth 2000000
attribute [local go_sem] Oper.semAt_some
theorem Bk.grown {w w' : World} {H E : Nat → Prop} {b n : Nat} {ls fs us : List V} {rest : List V} (h : Bk w H E b n ls fs us rest) (hs : w.heap.size ≤ w'.heap.size) (hk : ∀ q, q < w.heap.size → w'.heap[q]? = w.heap[q]?) : Bk w' H E b n ls fs us rest := by
  obtain ⟨ov, hm, h0, hn, hE⟩ := h
  refine ⟨ov, ⟨BelE.refl _ _, hm.tj.mono (fun _ h => h) (fun q hq => hk q (hm.Hlt q hq)), fun q hq => Nat.lt_of_lt_of_le (hm.Hlt q hq) hs, fun q hq _ => .inl hq, fun id o ho => ?_, hm.sep⟩, h0, hn, fun q hq => ⟨(hE q hq).1, Nat.lt_of_lt_of_le (hE q hq).2 hs⟩⟩
  obtain ⟨v, hv, hor⟩ := hm.obj id o ho
  have h1 := hor.mono (w' := w') (fun _ _ h => h) (fun _ h => h) (fun q hq => hk q (hm.Hlt q hq)) (fun q hq => hk q (hor.lt hq).2) (fun _ _ h => h)
  exact ⟨v, hv, h1.clr, fun q hq => (hor.ow q hq).elim (fun h => absurd (hor.lt hq).2 (Nat.not_lt.2 h)) .inr, h1.fz, h1.bd⟩
theorem Bk.keep {w w' : World} {H E : Nat → Prop} {b n : Nat} {ls fs us : List V} {rest : List V} (h : Bk w H E b n ls fs us rest) (k : Nat) (hH : ¬ H k) (hE : ¬ E k) (hs : w.heap.size ≤ w'.heap.size) (hk : ∀ q, q < w.heap.size → q ≠ k → w'.heap[q]? = w.heap[q]?) : Bk w' H E b n ls fs us rest := by
  obtain ⟨ov, hm, h0, hn, hE2⟩ := h
  have eH : ∀ q, H q → w'.heap[q]? = w.heap[q]? := fun q hq => hk q (hm.Hlt q hq) (fun e => hH (e ▸ hq))
  refine ⟨ov, ⟨BelE.refl _ _, hm.tj.mono (fun _ h => h) eH, fun q hq => Nat.lt_of_lt_of_le (hm.Hlt q hq) hs, fun q hq _ => .inl hq, fun id o ho => ?_, hm.sep⟩, h0, hn, fun q hq => ⟨(hE2 q hq).1, Nat.lt_of_lt_of_le (hE2 q hq).2 hs⟩⟩
  obtain ⟨v, hv, hor⟩ := hm.obj id o ho
  have hw : ∀ q, blk v = some q → E q := fun q hq => (hor.ow q hq).elim (fun h => absurd (hor.lt hq).2 (Nat.not_lt.2 h)) fun h => h
  have h1 := hor.mono (w' := w') (fun _ _ h => h) (fun _ h => h) eH (fun q hq => hk q (hor.lt hq).2 (fun e => hE (e ▸ hw q hq))) (fun _ _ h => h)
  exact ⟨v, hv, h1.clr, fun q hq => .inr (hw q hq), h1.fz, h1.bd⟩
def inP (w : World) (H E : Nat → Prop) (b n : Nat) (ls fs us : List V) (rest : List V) (a : List Nat) (r : Value) (w' : World) : Prop :=
  ∃ H' E', BelE w E w' ∧ (∀ q, H q → H' q) ∧ (∀ q, H' q → H q ∨ E q ∨ w.heap.size ≤ q) ∧ (∀ q, E' q → E q ∨ w.heap.size ≤ q) ∧
    Bk w' H' E' b (n + 1) (ls ++ [.l 1 (W a)]) (fs ++ [.l 1 (W (a ++ List.replicate 5 0))]) (us ++ [.l 1 (W (a ++ List.replicate 5 0))]) rest ∧ Rep0 w' H' r (.l 1 (W a))
theorem intIn_end {w Z X : World} {H E H' E' : Nat → Prop} {b n : Nat} {ls fs us : List V} {rest : List V} {a : List Nat} {s : Bool} {r : Value} (hB : Below w.heap.size w Z) (hs : Z.heap.size = w.heap.size + 2) (hEl : ∀ q, E q → q < w.heap.size) (hHlt : ∀ q, H q → q < w.heap.size)
    (hbel : BelE Z.drew E X) (hH1 : ∀ q, H q → H' q) (hH2 : ∀ q, H' q → H q ∨ E q ∨ Z.drew.heap.size ≤ q) (hE' : ∀ q, E' q → E q ∨ Z.drew.heap.size ≤ q)
    (hBk : Bk X H' E' b (n + 1) (ls ++ [.l 1 (W a)]) (fs ++ [.l 1 (W (a ++ List.replicate 5 0))]) (us ++ [.l 1 (W (a ++ List.replicate 5 0))]) rest) (hr : Rep0 X H' r (.l 1 (W a)))
    (hk1 : X.heap[w.heap.size + 1]? = some (.cells #[.bool false, .slice none 0 0] 58 (0, 0))) (tmps : Array Value) (h4 : tmps.getD 4 undef = .pointer (some ⟨w.heap.size + 1, 0, none⟩)) :
    bodyPost Try.prog Try.f17 (fun e w' => ∃ v, e = .returned (.agg #[.bool s, v]) ∧ inP w H E b n ls fs us rest a v w') Exit.ret ⟨tmps, []⟩ ((X.setCell ⟨w.heap.size + 1, 0, none⟩ (.bool s)).setCell ⟨w.heap.size + 1, 1, none⟩ r) := by
  have hsd : Z.drew.heap.size = Z.heap.size := rfl
  have g1 := heap_setCell_same X (w.heap.size + 1) 0 _ _ (.bool s) hk1
  have g2 := heap_setCell_same _ (w.heap.size + 1) 1 _ _ r g1
  have oth : ∀ q, q ≠ w.heap.size + 1 → ((X.setCell ⟨w.heap.size + 1, 0, none⟩ (.bool s)).setCell ⟨w.heap.size + 1, 1, none⟩ r).heap[q]? = X.heap[q]? := fun q hq => (heap_setCell_other _ _ _ _ hq).trans (heap_setCell_other _ _ _ _ hq)
  have sz : ((X.setCell ⟨w.heap.size + 1, 0, none⟩ (.bool s)).setCell ⟨w.heap.size + 1, 1, none⟩ r).heap.size = X.heap.size := by simp [World.setCell]
  have nH : ¬ H' (w.heap.size + 1) := fun h => by
    rcases hH2 _ h with h | h | h
    · have := hHlt _ h; omega
    · have := hEl _ h; omega
    · omega
  have nE : ¬ E' (w.heap.size + 1) := fun h => by
    rcases hE' _ h with h | h
    · have := hEl _ h; omega
    · omega
  have hXs := hbel.size
  refine ⟨rfl, _, results_cell_row (p := 4) (ty := 58) rfl _ _ (w.heap.size + 1) _ _ _ _ h4 g2 Try.underlying58 rfl (by kernel_rfl), r, rfl, H', E', ⟨hbel.os.trans hB.os, hbel.tape.trans hB.tape, hbel.output.trans hB.output, by omega, fun q hq hqe => ?_⟩, hH1, fun q hq => ?_, fun q hq => ?_, hBk.keep (w.heap.size + 1) nH nE (by omega) (fun q _ hq => oth q hq), hr.mono (fun _ h => h) (fun q hq => oth q (fun e => nH (e ▸ hq)))⟩
  · exact (oth q (by omega)).trans ((hbel.block q (by omega) hqe).trans (hB.block q hq))
  · rcases hH2 q hq with h | h | h
    · exact .inl h
    · exact .inr (.inl h)
    · exact .inr (.inr (by omega))
  · rcases hE' q hq with h | h
    · exact .inl h
    · exact .inr (by omega)
theorem intIn_raw {w : World} {H E : Nat → Prop} {b n : Nat} {ls fs us : List V} {v3 v4 v5 v6 : V} {va : Value} {a : List Nat} {s : Bool} (hb : Bk w H E b n ls fs us [v3, v4, v5, v6]) (hva : Rep0 w H va (.l 1 (W a))) (hrest : ∀ x, x ∈ [v3, v4, v5, v6] → x.cell = true ∨ x = .nl) (hn : n ≤ 1000000) (la : a.length ≤ 1000000000) (l1 : ls.length = n) (l2 : fs.length = n) (l3 : us.length = n) :
    Calls Try.prog 17 #[.pointer (some ⟨b, 0, none⟩), .agg #[.bool s, va]] w fun e w' => ∃ v, e = .returned (.agg #[.bool s, v]) ∧ inP w H E b n ls fs us [v3, v4, v5, v6] a v w' := by
  obtain ⟨ba, m, cap, rfl⟩ : ∃ ba m cap, va = .slice ba m cap := by
    obtain ⟨a', n', cap', _, _, _, rfl, _⟩ := (Rep.up (ov := fun _ => none) hva).inv_l
    exact ⟨_, _, _, rfl⟩
  have hEl : ∀ q, E q → q < w.heap.size := by obtain ⟨_, _, _, _, h⟩ := hb; exact fun q hq => (h q hq).2
  obtain ⟨Z, hZ⟩ : ∃ Z, Z = ((w.alloc (.cells #[.bool s, .slice ba m cap] 58)).alloc (.cells #[.bool false, .slice none 0 0] 58)) := ⟨_, rfl⟩
  have hB : Below w.heap.size w Z := by rw [hZ]; exact ((Below.refl _ _).alloc (Nat.le_refl _) _).alloc (by simp) _
  have hs : Z.heap.size = w.heap.size + 2 := by rw [hZ]; simp
  go_enter Try.func17, Try.ntmps17
  go_wp2
  rw [← hZ]
  have hh0 : Z.drew.heap[w.heap.size]? = some (.cells #[.bool s, .slice ba m cap] 58 (0, 0)) := by
    show Z.heap[w.heap.size]? = _
    rw [hZ, heap_alloc_old _ _ (by simp)]; exact heap_alloc_new w _
  have hh1 : Z.drew.heap[w.heap.size + 1]? = some (.cells #[.bool false, .slice none 0 0] 58 (0, 0)) := by
    show Z.heap[w.heap.size + 1]? = _
    rw [hZ]; have := heap_alloc_new (w.alloc (.cells #[.bool s, .slice ba m cap] 58)) (.cells #[.bool false, .slice none 0 0] 58); simpa using this
  have hHlt : ∀ q, H q → q < w.heap.size := by obtain ⟨_, hm, _⟩ := hb; exact hm.Hlt
  have hin := in_raw (w := Z.drew) (hb.grown (w' := Z.drew) hB.size (fun q hq => hB.block q hq)) (hva.mono (w' := Z.drew) (fun _ h => h) (fun q hq => hB.block q (hHlt q hq))) hrest hn la l1 l2 l3
  have hc0 : Z.drew.cell? ⟨w.heap.size, 0, none⟩ = some (.bool s) := cell_of_row _ _ _ _ _ _ hh0
  have hc1 : Z.drew.cell? ⟨w.heap.size, 1, none⟩ = some (.slice ba m cap) := cell_of_row _ _ _ _ _ _ hh0
  clear hZ
  go_region_with (go_at_call 38; refine hin.mono ?_; rintro e X ⟨r, H', E', rfl, hbel, hH1, hH2, hE', hBk, hr⟩; obtain ⟨ra, rn, rc, _, _, _, rfl, _⟩ := (Rep.up (ov := fun _ => none) hr).inv_l; have hk0 : X.heap[w.heap.size]? = _ := (hbel.block _ (by show _ < Z.heap.size; omega) (fun h => by have := hEl _ h; omega)).trans hh0; have hk1 : X.heap[w.heap.size + 1]? = _ := (hbel.block _ (by show _ < Z.heap.size; omega) (fun h => by have := hEl _ h; omega)).trans hh1; have hd0 := cell_of_row _ _ 0 _ _ _ hk0; have hd1 := cell_of_row _ _ 0 _ _ _ hk1; have hd2 := cell_of_row _ _ 1 _ _ _ hk1; have hf1 := frozen_of_row _ _ 0 _ _ hk1; have hf2 := frozen_of_row _ _ 1 _ _ hk1)
  all_goals
    go_wp2
    exact intIn_end hB hs hEl hHlt hbel hH1 hH2 hE' hBk hr hk1 _ rfl
end Go.Proofs.Yteaiegppmbcibaa
