/-
  surdlaw23.GaussApart: the law's head.
-/
import Derived.Test.YteaiegppmbcibaaBG2
import Derived.Test.YteaiegppmbcibaaBK5
namespace Go.Proofs.Yteaiegppmbcibaa
open Go Go.RowKit Go.Shelf Go.Proofs Ab
set_option linter.unusedSimpArgs false
set_option linter.unusedVariables false
set_option maxHeartbeats 10000000
set_option maxHeartbeats 4000000
set_option maxRecDepth 2000000
attribute [local go_sem] Oper.semAt_some
theorem res_b {w w' : World} {H : Nat → Prop} {v : Value} {t : Bool} (h : Res w w' H v (.b t)) : v = .bool t := by
  obtain ⟨N, _, h | ⟨e, sz, cs, n, xs, h, _⟩ | ⟨r, h, _⟩⟩ := h
  · cases h; rfl
  · cases h
  · cases h
theorem res_l {w w' : World} {H : Nat → Prop} {v : Value} {sz : Nat} {cs : List V} (h : Res w w' H v (.l sz cs)) : ∃ N : Nat → Prop, (∀ b, N b → w.heap.size ≤ b ∧ b < w'.heap.size) ∧ Rep0 w' (fun b => H b ∨ N b) v (.l sz cs) := by
  obtain ⟨N, hN, h | ⟨e, sz, cs, n, xs, h, _⟩ | ⟨r, h, _⟩⟩ := h
  · exact ⟨N, hN, h⟩
  · cases h
  · cases h
theorem Bk.new {w : World} {H : Nat → Prop} {b : Nat} (hT : TJ w H) (hH : ∀ q, H q → q < w.heap.size) (hb : w.heap[b]? = some (.cells #[.slice none 0 0, .slice none 0 0, .slice none 0 0, .slice none 0 0, .slice none 0 0, .slice none 0 0, .slice none 0 0] 33 (0, 0))) (hHb : ¬ H b) :
    Bk w H (fun q => q = b) b 0 [] [] [] [.nl, .nl, .nl, .nl] := by
  have hlt : b < w.heap.size := (Array.getElem?_eq_some_iff.1 hb).1
  refine ⟨fun i => match i with | 0 => some (.pointer (some ⟨b, 0, none⟩)) | 1 => some (.slice none 0 0) | 2 => some (.slice none 0 0) | 3 => some (.slice none 0 0) | _ => none, ⟨BelE.refl _ _, hT, hH, fun q hq _ => .inl hq, fun id o ho => ?_, fun i j oi oj vi vj q hij hi hj hvi hvj hq hq2 => ?_⟩, ⟨_, rfl, rfl⟩, fun id hid => ?_, fun q hq => by subst hq; exact ⟨hHb, hlt⟩⟩
  · have hi := (bkO_mu ho).2
    have row : ∀ {o : Ob}, o = ⟨55, 1, [], true, false⟩ → ObRep w H (Ow w ⟨H, fun q => q = b, []⟩) (fun i => match i with | 0 => some (.pointer (some ⟨b, 0, none⟩)) | 1 => some (.slice none 0 0) | 2 => some (.slice none 0 0) | 3 => some (.slice none 0 0) | _ => none) (.slice none 0 0) o := fun e => by
      subst e
      exact ⟨fun x hx => (by cases hx), fun q hq => (by cases hq), fun q hq => (by cases hq), .inr ⟨rfl, Nat.one_pos, 0, [], ⟨rfl, .inl ⟨rfl, rfl⟩⟩, ⟨rfl, fun j v x h => by simp at h⟩, Nat.zero_le _⟩⟩
    match id, hi with
    | 0, _ =>
      cases ho
      refine ⟨_, rfl, fun x hx => .inr ⟨by decide, ?_⟩, fun q hq => by cases hq; exact .inr rfl, fun q hq => by cases hq; exact ⟨fun h => absurd h hHb, fun h => by cases h⟩, .inl ⟨rfl, .inl ⟨b, _, rfl, Nat.zero_le _, hb, rfl, fun j v x h1 h2 => ?_⟩⟩⟩
      · simp only [List.mem_cons, List.not_mem_nil, or_false] at hx
        rcases hx with rfl | rfl | rfl | rfl | rfl | rfl | rfl <;> rfl
      · match j, h1, h2 with
        | 0, h1, h2 => cases h1; cases h2; exact .ow 1 1 0 0 none (Nat.zero_le _) (Nat.le_refl _) (.inl rfl) rfl
        | 1, h1, h2 => cases h1; cases h2; exact .ow 1 2 0 0 none (Nat.zero_le _) (Nat.le_refl _) (.inl rfl) rfl
        | 2, h1, h2 => cases h1; cases h2; exact .ow 1 3 0 0 none (Nat.zero_le _) (Nat.le_refl _) (.inl rfl) rfl
        | 3, h1, h2 => cases h1; cases h2; exact .nl
        | 4, h1, h2 => cases h1; cases h2; exact .nl
        | 5, h1, h2 => cases h1; cases h2; exact .nl
        | 6, h1, h2 => cases h1; cases h2; exact .nl
    | 1, _ => cases ho; exact ⟨_, rfl, row rfl⟩
    | 2, _ => cases ho; exact ⟨_, rfl, row rfl⟩
    | 3, _ => cases ho; exact ⟨_, rfl, row rfl⟩
  · have h1 := (bkO_mu hi).2
    have h2 := (bkO_mu hj).2
    match i, j, h1, h2 with
    | 0, 0, _, _ => exact hij rfl
    | 0, 1, _, _ => cases hvj; cases hq2
    | 0, 2, _, _ => cases hvj; cases hq2
    | 0, 3, _, _ => cases hvj; cases hq2
    | 1, _, _, _ => cases hvi; cases hq
    | 2, _, _, _ => cases hvi; cases hq
    | 3, _, _, _ => cases hvi; cases hq
  · match id, hid with
    | n + 4, _ => rfl
end Go.Proofs.Yteaiegppmbcibaa
