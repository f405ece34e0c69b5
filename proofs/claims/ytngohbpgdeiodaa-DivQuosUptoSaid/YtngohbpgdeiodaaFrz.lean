/-
  A result that is a row of new memory is a list all the same.
-/
import Derived.Test.YtngohbpgdeiodaaAb15
namespace Go.Proofs.Ytngohbpgdeiodaa.Ab
open Go Go.RowKit
set_option linter.unusedSimpArgs false
set_option linter.unusedVariables false
set_option maxHeartbeats 10000000
theorem ownsRow_l {w : World} {B e sz n : Nat} {v : Value} {xs : List Value} {cs : List V} {H : Nat → Prop} (hsz : 0 < sz) (ho : w.ownsRow B e sz v n xs) (hr : RepAll w H xs cs) (hm : n ≤ maxLen) (hH : ∀ b, blk v = some b → H b) : Rep0 w H v (.l sz cs) := by
  have ho' := ho
  rcases ho.2 with ⟨rfl, rfl⟩ | ⟨g, cap, cur, rfl, hb, hh, hnc, hcm, hcs, htake⟩
  · have h0 : cs.length = 0 := by rw [← hr.1, ho.1, Nat.zero_mul]
    exact .l none 0 0 sz cs (fun _ => undef) 0 0 hsz (by rw [h0, Nat.zero_mul]) (Nat.zero_le _) (Nat.le_refl _) (.inl (List.eq_nil_of_length_eq_zero h0)) (fun j hj => by omega) (fun j x hx => by
      have := (List.getElem?_eq_some_iff.1 hx).1; omega)
  · refine .l _ n cap sz cs (fun j => xs.getD j undef) g 0 hsz (by rw [← hr.1, ho.1]) hm hnc (.inr ⟨rfl, hH g rfl⟩) (fun j hj => ?_) (fun j x hx => ?_)
    · have hj' : j < xs.length := by rw [hr.1]; exact hj
      rw [Nat.zero_add, ho'.cellAt j (by rw [← ho.1]; exact hj'), List.getElem?_eq_getElem hj', List.getD_eq_getElem?_getD, List.getElem?_eq_getElem hj']; rfl
    · have hj : j < cs.length := (List.getElem?_eq_some_iff.1 hx).1
      have hj' : j < xs.length := by rw [hr.1]; exact hj
      have := hr.2 j xs[j] x (List.getElem?_eq_getElem hj') hx
      rw [List.getD_eq_getElem?_getD, List.getElem?_eq_getElem hj']; exact this
theorem AFun.frozen {P : Program} {J : World → Prop} {f : FuncId} {args : List V} {e sz : Nat} {cs : List V} (h : AFun P J f args (.o e sz cs)) : AFun P J f args (.l sz cs) := fun w H vs hJ hH hr => by
  refine (h w H vs hJ hH hr).mono ?_
  rintro x w' ⟨v, rfl, hb, N, hN, hres⟩
  rcases hres with hres | ⟨e', sz', cs', n, xs, h1, hsz, ho, hra, _, hm, hno⟩ | ⟨r', h, _⟩
  · cases hres
  · cases h1
    refine ⟨v, rfl, hb, fun b => N b ∨ blk v = some b, fun b hb' => ?_, .inl ?_⟩
    · rcases hb' with h2 | h2
      · exact hN b h2
      · rcases ho.2 with ⟨rfl, _⟩ | ⟨g, cap, cur, rfl, hbg, hh, _⟩
        · cases h2
        · cases h2
          exact ⟨hbg, (Array.getElem?_eq_some_iff.1 hh).1⟩
    · exact ownsRow_l hsz ho (hra.mono (fun b h => h.elim .inl fun h => .inr (.inl h)) (fun _ _ => rfl)) hm (fun b h => .inr (.inr h))
  · cases h
end Go.Proofs.Ytngohbpgdeiodaa.Ab
