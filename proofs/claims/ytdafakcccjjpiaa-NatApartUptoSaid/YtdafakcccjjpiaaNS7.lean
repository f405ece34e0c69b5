/-
  nat: sorted lists; the document's.
-/
import Derived.Test.YtdafakcccjjpiaaNS6
namespace Go.Proofs.Ytdafakcccjjpiaa
open Go Go.RowKit Ab
set_option linter.unusedSimpArgs false
set_option linter.unusedVariables false
set_option maxHeartbeats 10000000
def Sel (V O L : List Nat) : Prop := (O ++ L).Perm V ∧ SoB O 0 O.length ∧ ∀ x y, x ∈ O → y ∈ L → x ≤ y
theorem SoB_app {O : List Nat} {x : Nat} (h : SoB O 0 O.length) (k : ∀ y, y ∈ O → y ≤ x) : SoB (O ++ [x]) 0 (O ++ [x]).length := fun p q hp hpq hq => by
  rw [List.length_append, List.length_singleton] at hq
  rw [getD_app', getD_app', if_pos (by omega)]
  by_cases c : q < O.length
  · rw [if_pos c]; exact h p q hp hpq c
  · rw [if_neg c, show q - O.length = 0 from by omega]
    rw [List.getD_eq_getElem?_getD, List.getElem?_eq_getElem (by omega)]
    exact k _ (List.getElem_mem _)
theorem Sel.step {V O L : List Nat} (h : Sel V O L) {k : Nat} (hk : k < L.length) (hm : ∀ y, y < L.length → L.getD k 0 ≤ L.getD y 0) : Sel V (O ++ [L.getD k 0]) (L.take k ++ L.drop (k + 1)) := by
  obtain ⟨h1, h2, h3⟩ := h
  have e : L.getD k 0 = L[k] := by rw [List.getD_eq_getElem?_getD, List.getElem?_eq_getElem hk]; rfl
  have hp : (L[k] :: (L.take k ++ L.drop (k + 1))).Perm L := by
    have h5 : L.take k ++ L[k] :: L.drop (k + 1) = L := by rw [← List.drop_eq_getElem_cons hk, List.take_append_drop]
    have h6 := (List.perm_middle (a := L[k]) (l₁ := L.take k) (l₂ := L.drop (k + 1))).symm
    rw [h5] at h6
    exact h6
  rw [e] at hm ⊢
  have hmem : L[k] ∈ L := List.getElem_mem hk
  refine ⟨?_, SoB_app h2 fun y hy => h3 y _ hy hmem, fun x y hx hy => ?_⟩
  · rw [List.append_assoc]
    exact ((List.perm_append_left_iff O).2 hp).trans h1
  · have hyL : y ∈ L := hp.mem_iff.1 (List.mem_cons_of_mem _ hy)
    rcases List.mem_append.1 hx with hx | hx
    · exact h3 x y hx hyL
    · rw [List.mem_singleton.1 hx]
      obtain ⟨i, hi, rfl⟩ := List.mem_iff_getElem.1 hyL
      have := hm i hi
      rw [List.getD_eq_getElem?_getD, List.getElem?_eq_getElem hi] at this
      exact this
theorem Sel.done {V O : List Nat} (h : Sel V O []) : O = srt V 0 V.length := by
  obtain ⟨h1, h2, _⟩ := h
  rw [List.append_nil] at h1
  have hl := h1.length_eq
  refine srt_of ⟨hl, h1, fun p hp => ?_⟩ (by rw [← hl]; exact h2) (Nat.zero_le _) (Nat.le_refl _)
  rw [List.getD_eq_getElem?_getD, List.getD_eq_getElem?_getD, List.getElem?_eq_none (by omega), List.getElem?_eq_none (by omega)]
theorem Sel.sm {V O L : List Nat} (h : Sel V O L) (hs : SmL V) : SmL L := fun x hx => hs x (h.1.mem_iff.1 (List.mem_append_right _ hx))
theorem Sel.len {V O L : List Nat} (h : Sel V O L) : O.length + L.length = V.length := by rw [← List.length_append]; exact h.1.length_eq
end Go.Proofs.Ytdafakcccjjpiaa
