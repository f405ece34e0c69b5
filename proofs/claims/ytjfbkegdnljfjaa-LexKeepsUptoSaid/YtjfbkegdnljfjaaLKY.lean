/-
  LexKeeps: the two calls of lex.Split in the law's code, outside the layer.
-/
import Derived.Test.YtjfbkegdnljfjaaLKX
namespace Go.Proofs.Ytjfbkegdnljfjaa
open Go Go.RowKit Go.Shelf Go.Proofs Ab
set_option linter.unusedSimpArgs false
set_option linter.unusedVariables false
set_option maxHeartbeats 10000000
set_option maxHeartbeats 4000000
set_option maxRecDepth 2000000
theorem call_reg1 {a : Act} {w : World} {R : Exit → Act → World → Prop} {ba : Option Addr} {n c : Nat} {Q : Value → Int → World → Prop} (hz : a.tmps.size = 232) (h6 : a.tmps.getD 6 undef = .slice ba n c)
    (hcall : Calls Try.prog 9 #[.slice ba n c, .string ⟨#[43]⟩] w fun e w' => ∃ sa sn sc x, e = .returned (.tuple #[.slice sa sn sc, .int .i64 x]) ∧ Q (.slice sa sn sc) x w')
    (kk : ∀ (a' : Act) (w' : World) (vs : Value) (x : Int), Q vs x w' → a'.tmps.size = 232 → (∀ t, t < 15 → a'.tmps.getD t undef = a.tmps.getD t undef) → a'.tmps.getD 15 undef = vs → a'.defers = a.defers → R .normal a' w') : (lkC Try.f3 8).wp Try.prog R a w := by
  have g6 : a.tmps[6]'(by omega) = .slice ba n c := by rw [← h6]; simp [hz]
  have kkA : Hid (∀ (a' : Act) (w' : World) (vs : Value) (x : Int), Q vs x w' → a'.tmps.size = 232 → (∀ t, t < 15 → a'.tmps.getD t undef = a.tmps.getD t undef) → a'.tmps.getD 15 undef = vs → a'.defers = a.defers → R .normal a' w') := kk
  clear kk
  refine wp_region_lit ?_
  go_wp2_with (go_at_call 9; refine hcall.mono ?_; rintro e w1 ⟨sa, sn, sc, x, rfl, hq⟩)
  refine kkA.out _ _ _ _ hq (by simp [hz]) (fun t ht => ?_) ?_ rfl
  · dsimp only
    rw [gset_ne (by omega), gset_ne (by omega), gset_ne (by omega), gset_ne (by omega), gset_ne (by omega), gset_ne (by omega), gset_ne (by omega)]
  · dsimp only
    rw [gset_ne (by decide), gset_eq (by simp [hz])]
theorem call_reg2 {a : Act} {w : World} {R : Exit → Act → World → Prop} {ba : Option Addr} {n c : Nat} {Q : Value → Int → World → Prop} (hz : a.tmps.size = 232) (h6 : a.tmps.getD 6 undef = .slice ba n c)
    (hcall : Calls Try.prog 9 #[.slice ba n c, .string ⟨#[43]⟩] w fun e w' => ∃ sa sn sc x, e = .returned (.tuple #[.slice sa sn sc, .int .i64 x]) ∧ Q (.slice sa sn sc) x w')
    (kk : ∀ (a' : Act) (w' : World) (vs : Value) (x : Int), Q vs x w' → a'.tmps.size = 232 → (∀ t, t < 16 → a'.tmps.getD t undef = a.tmps.getD t undef) → a'.tmps.getD 17 undef = vs → a'.defers = a.defers → R .normal a' w') : (lkC Try.f3 9).wp Try.prog R a w := by
  have g6 : a.tmps[6]'(by omega) = .slice ba n c := by rw [← h6]; simp [hz]
  have kkA : Hid (∀ (a' : Act) (w' : World) (vs : Value) (x : Int), Q vs x w' → a'.tmps.size = 232 → (∀ t, t < 16 → a'.tmps.getD t undef = a.tmps.getD t undef) → a'.tmps.getD 17 undef = vs → a'.defers = a.defers → R .normal a' w') := kk
  clear kk
  refine wp_region_lit ?_
  go_wp2_with (go_at_call 9; refine hcall.mono ?_; rintro e w1 ⟨sa, sn, sc, x, rfl, hq⟩)
  refine kkA.out _ _ _ _ hq (by simp [hz]) (fun t ht => ?_) ?_ rfl
  · dsimp only
    rw [gset_ne (by omega), gset_ne (by omega), gset_ne (by omega), gset_ne (by omega), gset_ne (by omega), gset_ne (by omega), gset_ne (by omega)]
  · dsimp only
    rw [gset_ne (by decide), gset_eq (by simp [hz])]
theorem split_all (ts : List Tk) (hl : ts.length ≤ 10000000) {w : World} {H : Nat → Prop} {va : Value} (hH : ∀ b, H b → b < w.heap.size) (hva : Rep0 w H va (.l 3 (T ts))) :
    Calls Try.prog 9 #[va, .string ⟨#[43]⟩] w fun e w' => ∃ sa sn sc x, e = .returned (.tuple #[.slice sa sn sc, .int .i64 x]) ∧ Below w.heap.size w w' ∧ ∃ vl, Rwl w.heap.size w' (.slice sa sn sc) vl (splitR ts [43]).1 := by
  have hk : kind [43] = 5 := (kind5 _).2 ⟨43, rfl, by decide⟩
  rcases nest_code ts 0 0 with hn | hn
  · have e : splitR ts [43] = (splitG [43] ts 0 [], 0) := by unfold splitR; rw [if_pos ⟨hk, by decide, by decide⟩, if_pos hn]
    rw [e]
    refine (split_raw ts hl hn hH hva).mono ?_
    rintro e w' ⟨vs, vl, rfl, h1, h2⟩
    obtain ⟨sa, sn, sc, rfl⟩ := ow_shape h2.row
    exact ⟨sa, sn, sc, 0, rfl, h1, vl, h2⟩
  · have e : splitR ts [43] = ([], 5) := by unfold splitR; rw [if_pos ⟨hk, by decide, by decide⟩, hn, if_neg (by decide)]
    rw [e]
    have ht := splitO_err ts hl hn
    refine (ht.2 w H [va, .string ⟨#[43]⟩] trivial (tj0 _ _) hH ⟨rfl, fun j v x h1 h2 => ?_⟩).mono ?_
    · match j, h1, h2 with
      | 0, h1, h2 => cases h1; cases h2; exact hva
      | 1, h1, h2 => cases h1; cases h2; exact .s [43]
    · rintro e w' ⟨u, us, n, xs, N, rfl, hb, ho, _, _, hr, _, _, hu⟩
      have h1 := ho.1
      have h2 := hr.1
      obtain rfl : n = 0 := by simp at h2; rw [h2] at h1; simpa using h1.symm
      obtain ⟨sa, sn, sc, rfl⟩ := ow_shape ho
      obtain ⟨u1, rfl⟩ : ∃ u1, us = [u1] := by
        match us, hu.1 with
        | [u1], _ => exact ⟨u1, rfl⟩
      have h3 := hu.2 0 u1 _ rfl rfl
      cases h3
      obtain rfl : xs = [] := List.eq_nil_of_length_eq_zero (by omega)
      exact ⟨sa, sn, sc, 5, rfl, hb, [], ho, fun j v p h => by simp at h, fun i j u v b _ h => by simp at h⟩
end Go.Proofs.Ytjfbkegdnljfjaa
