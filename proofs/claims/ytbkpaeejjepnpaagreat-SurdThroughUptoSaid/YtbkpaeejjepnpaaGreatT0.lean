/-
  Plain laws of polynomials: coefficients of products, derivatives, contents (Gauss).
-/
import Derived.Test.YtbkpaeejjepnpaaGreatH0
namespace Go.Proofs.YtbkpaeejjepnpaaGreat
set_option linter.unusedSimpArgs false
set_option linter.unusedVariables false
set_option maxHeartbeats 10000000
def sm (f : Nat → Int) : Nat → Int
  | 0 => 0
  | n + 1 => sm f n + f n
theorem sm_congr {f g : Nat → Int} : ∀ {n : Nat}, (∀ i, i < n → f i = g i) → sm f n = sm g n
  | 0, _ => rfl
  | n + 1, h => by simp only [sm, sm_congr fun i hi => h i (Nat.lt_succ_of_lt hi), h n (Nat.lt_succ_self n)]
theorem sm_zero {f : Nat → Int} : ∀ {n : Nat}, (∀ i, i < n → f i = 0) → sm f n = 0
  | 0, _ => rfl
  | n + 1, h => by simp only [sm, sm_zero fun i hi => h i (Nat.lt_succ_of_lt hi), h n (Nat.lt_succ_self n), Int.add_zero]
theorem sm_ext {f : Nat → Int} {n : Nat} : ∀ d, (∀ i, n ≤ i → f i = 0) → sm f (n + d) = sm f n
  | 0, _ => rfl
  | d + 1, h => by rw [← Nat.add_assoc, sm, sm_ext d h, h (n + d) (by omega), Int.add_zero]
def conv (f g : Nat → Int) (k : Nat) : Int := sm (fun i => f i * g (k - i)) (k + 1)
theorem conv_congr {f g f' g' : Nat → Int} (hf : ∀ i, f i = f' i) (hg : ∀ i, g i = g' i) (k : Nat) : conv f g k = conv f' g' k := sm_congr fun i _ => by rw [hf, hg]
theorem mrow_cf (O b : List Int) (i : Nat) (x : Int) (k : Nat) (hk : i + b.length ≤ O.length) : ∀ j, j ≤ b.length → (mrow O i x b j).getD k 0 = O.getD k 0 + (if i ≤ k ∧ k < i + j then x * b.getD (k - i) 0 else 0)
  | 0, _ => by rw [mrow, if_neg (by omega), Int.add_zero]
  | j + 1, hj => by
    have ih := mrow_cf O b i x k hk j (by omega)
    rw [mrow, getD_set5, mrow_len]
    by_cases h : i + j = k
    · subst h
      rw [if_neg (by omega), Int.add_zero] at ih
      rw [if_pos rfl, if_pos (by omega), if_pos (by omega), ih, Nat.add_sub_cancel_left]
    · rw [if_neg h, ih]
      by_cases h2 : i ≤ k ∧ k < i + j
      · rw [if_pos h2, if_pos (by omega)]
      · rw [if_neg h2, if_neg (by omega)]
theorem gD0 {l : List Int} {k : Nat} (h : l.length ≤ k) : l.getD k 0 = 0 := by rw [List.getD_eq_getElem?_getD, List.getElem?_eq_none h]; rfl
theorem mulF_cf (a b : List Int) (n k : Nat) (hn : a.length + b.length ≤ n + 1) : ∀ i, i ≤ a.length → (mulF a b n i).getD k 0 = sm (fun u => if u ≤ k then a.getD u 0 * b.getD (k - u) 0 else 0) i
  | 0, _ => by
    rw [mulF, sm]
    by_cases h : k < n
    · rw [List.getD_eq_getElem?_getD, List.getElem?_replicate, if_pos h]; rfl
    · exact gD0 (by simp; omega)
  | i + 1, hi => by
    rw [mulF, mrow_cf _ _ _ _ _ (by rw [mulF_len]; omega) _ (Nat.le_refl _), mulF_cf a b n k hn i (by omega), sm]
    congr 1
    by_cases h : i ≤ k
    · rw [if_pos h]
      by_cases h2 : k < i + b.length
      · rw [if_pos ⟨h, h2⟩]
      · rw [if_neg (by omega), gD0 (l := b) (by omega), Int.mul_zero]
    · rw [if_neg h, if_neg (by omega)]
theorem mulF_conv (a b : List Int) (n k : Nat) (hn : a.length + b.length ≤ n + 1) : (mulF a b n a.length).getD k 0 = conv (fun i => a.getD i 0) (fun i => b.getD i 0) k := by
  rw [mulF_cf a b n k hn _ (Nat.le_refl _)]
  unfold conv
  have e : sm (fun i => a.getD i 0 * b.getD (k - i) 0) (k + 1) = sm (fun u => if u ≤ k then a.getD u 0 * b.getD (k - u) 0 else 0) (k + 1) := sm_congr fun i hi => by rw [if_pos (by omega)]
  rw [e]
  by_cases h : a.length ≤ k + 1
  · rw [show k + 1 = a.length + (k + 1 - a.length) from by omega, sm_ext]
    intro i hi
    split
    · rw [gD0 hi, Int.zero_mul]
    · rfl
  · rw [show a.length = k + 1 + (a.length - (k + 1)) from by omega, sm_ext]
    intro i hi
    rw [if_neg (by omega)]
theorem tzi_cf (l : List Int) (k : Nat) : (tzi l).getD k 0 = l.getD k 0 := by
  obtain ⟨n, h⟩ := tzi_split l
  conv => rhs; rw [h]
  by_cases hk : k < (tzi l).length
  · rw [List.getD_eq_getElem?_getD, List.getD_eq_getElem?_getD, List.getElem?_append_left hk]
  · rw [gD0 (by omega), List.getD_eq_getElem?_getD, List.getElem?_append_right (by omega), List.getElem?_replicate]
    split <;> rfl
theorem mull_cf (a b : List Int) (k : Nat) : (mull a b).getD k 0 = conv (fun i => a.getD i 0) (fun i => b.getD i 0) k := by
  unfold mull
  split
  · rename_i h
    rw [show ([] : List Int).getD k 0 = 0 from by simp]
    unfold conv
    refine (sm_zero fun i hi => ?_).symm
    show a.getD i 0 * b.getD (k - i) 0 = 0
    rcases h with h | h
    · rw [gD0 (l := a) (by omega), Int.zero_mul]
    · rw [gD0 (l := b) (by omega), Int.mul_zero]
  · rw [tzi_cf]; exact mulF_conv a b _ k (by omega)
end Go.Proofs.YtbkpaeejjepnpaaGreat
