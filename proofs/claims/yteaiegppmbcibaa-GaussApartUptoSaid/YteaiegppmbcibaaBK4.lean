/-
  The book: a polynomial to be handed in: the loop.
-/
import Derived.Test.YteaiegppmbcibaaBK3
import Derived.Test.YteaiegppmbcibaaZC
namespace Go.Proofs.Yteaiegppmbcibaa
open Go Go.RowKit Go.Shelf Go.Proofs Ab
set_option linter.unusedSimpArgs false
set_option linter.unusedVariables false
set_option maxHeartbeats 10000000
set_option maxHeartbeats 4000000
set_option maxRecDepth 2000000
attribute [local go_sem] Oper.semAt_some
abbrev Zl := List (Bool × List Nat)
def lsF (l : Zl) (k : Nat) : List V := (l.take k).map fun p => V.l 1 (W p.2)
def fsF (l : Zl) (k : Nat) : List V := (l.take k).map fun p => V.l 1 (W (p.2 ++ List.replicate 5 0))
def fuF (l : Zl) (k : Nat) : Zl := l.take k ++ List.replicate (l.length + 5 - k) (false, [])
theorem take_snz (l : Zl) (k : Nat) (h : k < l.length) : l.take (k + 1) = l.take k ++ [l.getD k (false, [])] := by
  rw [List.take_succ_eq_append_getElem h, List.getD_eq_getElem?_getD, List.getElem?_eq_getElem h]; rfl
theorem lsF_succ (l : Zl) (k : Nat) (h : k < l.length) : lsF l (k + 1) = lsF l k ++ [.l 1 (W (l.getD k (false, [])).2)] := by unfold lsF; rw [take_snz l k h, List.map_append]; rfl
theorem fsF_succ (l : Zl) (k : Nat) (h : k < l.length) : fsF l (k + 1) = fsF l k ++ [.l 1 (W ((l.getD k (false, [])).2 ++ List.replicate 5 0))] := by unfold fsF; rw [take_snz l k h, List.map_append]; rfl
theorem lsF_len (l : Zl) (k : Nat) (h : k ≤ l.length) : (lsF l k).length = k := by simp [lsF]; omega
theorem fsF_len (l : Zl) (k : Nat) (h : k ≤ l.length) : (fsF l k).length = k := by simp [fsF]; omega
theorem ZCz_set : ∀ (l : Zl) (i : Nat) (s : Bool) (a : List Nat), ((ZC l).set (i * 2) (.b s)).set (i * 2 + 1) (.l 1 (W a)) = ZC (l.set i (s, a))
  | [], i, s, a => by simp [ZC]
  | p :: r, 0, s, a => rfl
  | p :: r, i + 1, s, a => by
    have := ZCz_set r i s a
    rw [show (i + 1) * 2 = i * 2 + 1 + 1 from by omega]
    simp only [ZC, List.set_cons_succ, this]
theorem fuF_succ (l : Zl) (k : Nat) (h : k < l.length) : (fuF l k).set k (l.getD k (false, [])) = fuF l (k + 1) := by
  unfold fuF
  have hl : (l.take k).length = k := by simp; omega
  rw [List.set_append, if_neg (by omega), hl, Nat.sub_self, show l.length + 5 - k = (l.length + 5 - (k + 1)) + 1 from by omega, List.replicate_succ, List.set_cons_zero, take_snz l k h, List.append_assoc]; rfl
theorem repAll_set {w : World} {H : Nat → Prop} {xs : List Value} {cs : List V} (h : RepAll w H xs cs) (i : Nat) {v : Value} {x : V} (hv : Rep0 w H v x) : RepAll w H (xs.set i v) (cs.set i x) := by
  refine ⟨by simpa using h.1, fun j u y h1 h2 => ?_⟩
  rw [List.getElem?_set] at h1 h2
  by_cases e : i = j
  · rw [if_pos e] at h1 h2
    split at h1
    · split at h2
      · cases h1; cases h2; exact hv
      · cases h2
    · cases h1
  · rw [if_neg e] at h1 h2; exact h.2 j u y h1 h2
def ZI (w : World) (H E : Nat → Prop) (b q : Nat) (l : Zl) (k : Nat) (wr : World) : Prop :=
  ∃ Hk Ek cur, Bk wr Hk Ek b k (lsF l k) (fsF l k) (fsF l k) [.nl, .nl, .nl, .nl] ∧ (∀ x, H x → Hk x) ∧ (∀ x, Hk x → H x ∨ E x ∨ q < x) ∧ (∀ x, Ek x → E x ∨ q < x) ∧ BelE w E wr ∧ q < wr.heap.size ∧
    wr.heap[q]? = some (.cells cur 58 (0, 0)) ∧ cur.size = (l.length + 5) * 2 ∧ RepAll wr Hk cur.toList (ZC (fuF l k))
theorem ZI.step {w wr X : World} {H E Hk Ek : Nat → Prop} {b q : Nat} {l : Zl} {k : Nat} {cur : Array Value} {r : Value} (hqw : w.heap.size ≤ q) (hEq : ¬ E q) (hHq : ¬ H q) (hH1 : ∀ x, H x → Hk x) (hH2 : ∀ x, Hk x → H x ∨ E x ∨ q < x) (hE : ∀ x, Ek x → E x ∨ q < x) (hbel : BelE w E wr) (hq : q < wr.heap.size)
    (hcur : wr.heap[q]? = some (.cells cur 58 (0, 0))) (hsz : cur.size = (l.length + 5) * 2) (hra : RepAll wr Hk cur.toList (ZC (fuF l k))) (hk : k < l.length) (hlt : ∀ x, Hk x → x < wr.heap.size) (hEH : ∀ x, Ek x → ¬ Hk x)
    (hin : inP wr Hk Ek b k (lsF l k) (fsF l k) (fsF l k) [.nl, .nl, .nl, .nl] (l.getD k (false, [])).2 r X) :
    X.heap[q]? = some (.cells cur 58 (0, 0)) ∧ ZI w H E b q l (k + 1) ((X.setCell ⟨q, k * 2, none⟩ (.bool (l.getD k (false, [])).1)).setCell ⟨q, k * 2 + 1, none⟩ r) := by
  obtain ⟨H', E', i1, i2, i3, i4, i5, i6⟩ := hin
  have nEk : ¬ Ek q := fun h => by
    rcases hE q h with h | h
    · exact hEq h
    · omega
  have nH : ¬ H' q := fun h => by
    rcases i3 q h with h | h | h
    · rcases hH2 q h with h | h | h
      · exact hHq h
      · exact hEq h
      · omega
    · exact nEk h
    · omega
  have nE : ¬ E' q := fun h => by
    rcases i4 q h with h | h
    · exact nEk h
    · omega
  have hX : X.heap[q]? = some (.cells cur 58 (0, 0)) := (i1.block q hq nEk).trans hcur
  have g1 := heap_setCell_same X q (k * 2) _ _ (.bool (l.getD k (false, [])).1) hX
  have g2 := heap_setCell_same _ q (k * 2 + 1) _ _ r g1
  have oth : ∀ x, x ≠ q → ((X.setCell ⟨q, k * 2, none⟩ (.bool (l.getD k (false, [])).1)).setCell ⟨q, k * 2 + 1, none⟩ r).heap[x]? = X.heap[x]? := fun x hx => (heap_setCell_other _ _ _ _ hx).trans (heap_setCell_other _ _ _ _ hx)
  have sz : ((X.setCell ⟨q, k * 2, none⟩ (.bool (l.getD k (false, [])).1)).setCell ⟨q, k * 2 + 1, none⟩ r).heap.size = X.heap.size := by simp [World.setCell]
  have hXs := i1.size
  refine ⟨hX, H', E', _, ?_, fun x h => i2 x (hH1 x h), fun x h => ?_, fun x h => ?_, ⟨i1.os.trans hbel.os, i1.tape.trans hbel.tape, i1.output.trans hbel.output, by have := hbel.size; omega, fun x hx hxe => ?_⟩, by omega, g2, by simp [hsz], ?_⟩
  · rw [lsF_succ l k hk, fsF_succ l k hk]
    exact i5.keep q nH nE (by omega) (fun x _ hx => oth x hx)
  · rcases i3 x h with h | h | h
    · exact hH2 x h
    · rcases hE x h with h | h
      · exact .inr (.inl h)
      · exact .inr (.inr h)
    · exact .inr (.inr (by omega))
  · rcases i4 x h with h | h
    · exact hE x h
    · exact .inr (by omega)
  · have hws := hbel.size
    refine (oth x (by omega)).trans ((i1.block x (by omega) (fun h => ?_)).trans (hbel.block x hx hxe))
    rcases hE x h with h | h
    · exact hxe h
    · omega
  · have eH : ∀ x, Hk x → X.heap[x]? = wr.heap[x]? := fun x hx => i1.block x (hlt x hx) (fun h => hEH x h hx)
    have hra2 : RepAll X H' cur.toList (ZC (fuF l k)) := hra.mono i2 eH
    have hr3 := repAll_set (repAll_set hra2 (k * 2) (.b (l.getD k (false, [])).1)) (k * 2 + 1) i6
    rw [ZCz_set, fuF_succ l k hk] at hr3
    have := hr3.mono (w' := ((X.setCell ⟨q, k * 2, none⟩ (.bool (l.getD k (false, [])).1)).setCell ⟨q, k * 2 + 1, none⟩ r)) (fun _ h => h) (fun x hx => oth x (fun e => nH (e ▸ hx)))
    simpa using this
end Go.Proofs.Yteaiegppmbcibaa
