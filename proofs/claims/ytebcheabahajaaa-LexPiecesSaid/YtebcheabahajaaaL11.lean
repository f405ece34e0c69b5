/-
  Plain lists: the pieces are the row, each is balanced; what lies between two parentheses is balanced.
-/
import Derived.Test.YtebcheabahajaaaL10
namespace Go.Proofs.Ytebcheabahajaaa
open Go Go.RowKit Ab
set_option linter.unusedSimpArgs false
set_option linter.unusedVariables false
set_option maxHeartbeats 10000000

/-- from d to e, never below 0, never over M -/
def walk : List Tk → Int → Int → Int → Prop
  | [], d, e, _ => d = e
  | t :: r, d, e, M => 0 ≤ d + way t ∧ d + way t ≤ M ∧ walk r (d + way t) e M
theorem nest_walk : ∀ (ts : List Tk) (d m : Int), (nestG ts d m).2 = 0 → walk ts d 0 (nestG ts d m).1 ∧ m ≤ (nestG ts d m).1
  | [], d, m, h => by
    simp only [nestG] at h ⊢
    split at h
    · rename_i h0; rw [if_pos h0]; exact ⟨h0, Int.le_refl _⟩
    · simp at h
  | t :: r, d, m, h => by
    simp only [nestG] at h ⊢
    split at h
    · simp at h
    · rename_i h0
      rw [if_neg h0]
      have := nest_walk r _ _ h
      exact ⟨⟨by omega, by omega, this.1⟩, by omega⟩
theorem walk_nest : ∀ (ts : List Tk) (d m M : Int), walk ts d 0 M → m ≤ M → (nestG ts d m).2 = 0 ∧ (nestG ts d m).1 ≤ M
  | [], d, m, M, h, hm => by
    simp only [walk] at h
    simp only [nestG, if_pos h]
    exact ⟨trivial, hm⟩
  | t :: r, d, m, M, h, hm => by
    simp only [walk] at h
    simp only [nestG, if_neg (show ¬ d + way t < 0 by omega)]
    exact walk_nest r _ _ M h.2.2 (by omega)
theorem walk_app : ∀ (a b : List Tk) (d e M : Int), walk (a ++ b) d e M ↔ ∃ f, walk a d f M ∧ walk b f e M
  | [], b, d, e, M => by simp [walk]
  | t :: r, b, d, e, M => by
    simp only [List.cons_append, walk, walk_app r b]
    constructor
    · rintro ⟨h1, h2, f, h3, h4⟩; exact ⟨f, ⟨h1, h2, h3⟩, h4⟩
    · rintro ⟨f, ⟨h1, h2, h3⟩, h4⟩; exact ⟨h1, h2, f, h3, h4⟩
theorem nest_len : ∀ (ts : List Tk) (d m : Int), d ≤ m → (nestG ts d m).1 ≤ (if 0 ≤ m then m else 0) + ts.length
  | [], d, m, h => by simp only [nestG]; split <;> (split <;> simp <;> omega)
  | t :: r, d, m, h => by
    have hw := way_le t
    simp only [nestG, List.length_cons]
    split
    · split <;> simp only [] <;> omega
    · have := nest_len r (d + way t) (max m (d + way t)) (by omega)
      split at this <;> split <;> omega

/-- what the symbol and the pieces behind it make -/
def Rem (s : List UInt8) : List (List Tk) → List Tk → Prop
  | [], row => row = []
  | p :: ps, row => ∃ t row', row = t :: (p ++ row') ∧ isS t s = true ∧ Rem s ps row'
theorem split_rem (s : List UInt8) : ∀ (ts : List Tk) (d : Int) (p : List Tk), ∃ q qs row, splitG s ts d p = q :: qs ∧ p ++ ts = q ++ row ∧ Rem s qs row
  | [], d, p => ⟨p, [], [], rfl, rfl, rfl⟩
  | t :: r, d, p => by
    simp only [splitG]
    split
    · rename_i h
      obtain ⟨q, qs, row, h1, h2, h3⟩ := split_rem s r (d + way t) []
      refine ⟨p, _, t :: r, rfl, rfl, ?_⟩
      rw [h1]
      exact ⟨t, row, by rw [← h2]; rfl, h.2, h3⟩
    · obtain ⟨q, qs, row, h1, h2, h3⟩ := split_rem s r (d + way t) (p ++ [t])
      exact ⟨q, qs, row, h1, by rw [← h2, List.append_assoc]; rfl, h3⟩
theorem way_sym {t : Tk} {s : List UInt8} (h1 : isS t s = true) (h2 : s ≠ [40]) (h3 : s ≠ [41]) : way t = 0 := by
  unfold isS at h1; rw [decide_eq_true_eq] at h1
  unfold way
  rw [if_pos h1.1, h1.2, if_neg h2, if_neg h3]
theorem pieces (s : List UInt8) (M : Int) (h40 : s ≠ [40]) (h41 : s ≠ [41]) : ∀ (ts : List Tk) (d : Int) (p : List Tk), (∀ x, splitG s (p ++ x) 0 [] = splitG s x d p) → walk p 0 d M → walk ts d 0 M →
    ∀ q, q ∈ splitG s ts d p → walk q 0 0 M ∧ splitG s q 0 [] = [q]
  | [], d, p, hs, hp, ht, q, hq => by
    simp only [walk] at ht
    simp only [splitG, List.mem_singleton] at hq
    subst hq ht
    exact ⟨hp, by have := hs []; rwa [List.append_nil] at this⟩
  | t :: r, d, p, hs, hp, ht, q, hq => by
    simp only [walk] at ht
    simp only [splitG] at hq
    split at hq
    · rename_i h
      have hw := way_sym h.2 h40 h41
      obtain rfl : d = 0 := by omega
      rcases List.mem_cons.1 hq with rfl | hq
      · exact ⟨hp, by have := hs []; rwa [List.append_nil] at this⟩
      · rw [hw] at hq ht
        exact pieces s M h40 h41 r 0 [] (fun x => rfl) rfl ht.2.2 q hq
    · rename_i h
      refine pieces s M h40 h41 r (d + way t) (p ++ [t]) (fun x => ?_) ((walk_app _ _ _ _ _).2 ⟨d, hp, ht.1, ht.2.1, rfl⟩) ht.2.2 q hq
      rw [List.append_assoc, hs, List.singleton_append, splitG, if_neg h]
theorem matchM : ∀ (r : List Tk) (k : Nat) (D c M : Int), 0 ≤ D → 1 ≤ c → walk r (D + c) 0 M →
    ∃ j : Nat, matchG r k c = (((k + j : Nat) : Int), 0) ∧ j < r.length ∧ way (r.getD j default) = -1 ∧ walk (r.take j) (c - 1) 0 M
  | [], k, D, c, M, hD, hc, h => by simp only [walk] at h; omega
  | t :: r, k, D, c, M, hD, hc, h => by
    have hw := way_le t
    simp only [walk] at h
    by_cases hz : c + way t = 0
    · refine ⟨0, ?_, by simp, ?_, ?_⟩
      · simp only [matchG, if_pos hz]; rfl
      · show way t = -1; omega
      · show c - 1 = 0; omega
    · obtain ⟨j, h1, h2, h3, h4⟩ := matchM r (k + 1) D (c + way t) M hD (by omega) (by rw [show D + (c + way t) = D + c + way t from by omega]; exact h.2.2)
      refine ⟨j + 1, ?_, by simp; omega, h3, ?_⟩
      · simp only [matchG, if_neg hz]; rw [h1, show k + 1 + j = k + (j + 1) from by omega]
      · rw [List.take_succ_cons]
        refine ⟨by omega, by omega, ?_⟩
        rw [show c - 1 + way t = c + way t - 1 from by omega]; exact h4
theorem way_m1 {t : Tk} (h : way t = -1) : t.t = [41] := by
  unfold way at h
  split at h
  · split at h
    · omega
    · split at h
      · assumption
      · omega
  · omega
theorem nest_ok (ts : List Tk) (h : (nestG ts 0 0).2 = 0) : walk ts 0 0 (nestG ts 0 0).1 ∧ 0 ≤ (nestG ts 0 0).1 ∧ (nestG ts 0 0).1 ≤ ts.length := by
  have h1 := nest_walk ts 0 0 h
  have h2 := nest_len ts 0 0 (Int.le_refl _)
  exact ⟨h1.1, h1.2, by simpa using h2⟩
/-- the match of an opening parenthesis in a balanced row -/
theorem match_ok (ts : List Tk) (i : Nat) (hi : i < ts.length) (h : (nestG ts 0 0).2 = 0) (ho : isS (ts.getD i default) [40] = true) :
    ∃ j : Nat, matchR ts i = ((j : Int), 0) ∧ i < j ∧ j < ts.length ∧ (ts.getD j default).t = [41] ∧ (nestG ((ts.drop (i + 1)).take (j - (i + 1))) 0 0).2 = 0 ∧ (nestG ((ts.drop (i + 1)).take (j - (i + 1))) 0 0).1 ≤ (nestG ts 0 0).1 := by
  obtain ⟨hw, h0, _⟩ := nest_ok ts h
  generalize (nestG ts 0 0).1 = M at *
  have hone := (way_one _).2 ho
  rw [← List.take_append_drop i ts, walk_app] at hw
  obtain ⟨f, h1, h2⟩ := hw
  have hf : 0 ≤ f := by
    revert h1
    have : ∀ (a : List Tk) (d : Int), 0 ≤ d → walk a d f M → 0 ≤ f := by
      intro a
      induction a with
      | nil => intro d hd h; simp only [walk] at h; omega
      | cons t r ih => intro d hd h; exact ih _ h.1 h.2.2
    exact this _ _ (Int.le_refl _)
  rw [tk_drop hi] at h2
  simp only [walk, hone] at h2
  obtain ⟨j, g1, g2, g3, g4⟩ := matchM (ts.drop (i + 1)) (i + 1) f 1 M hf (Int.le_refl _) h2.2.2
  rw [List.length_drop] at g2
  have gj : (ts.drop (i + 1)).getD j default = ts.getD (i + 1 + j) default := by simp [List.getD_eq_getElem?_getD, List.getElem?_drop]
  rw [gj] at g3
  refine ⟨i + 1 + j, ?_, by omega, by omega, way_m1 g3, ?_⟩
  · unfold matchR
    rw [if_pos ⟨by omega, by omega, ho⟩, show ((i : Nat) : Int).toNat = i from rfl, tk_drop hi, matchG, hone, if_neg (by omega), show (0 : Int) + 1 = 1 from rfl, g1]
  · rw [show i + 1 + j - (i + 1) = j from by omega]
    exact walk_nest _ _ _ _ g4 h0
theorem match_no (ts : List Tk) (i : Nat) (ho : isS (ts.getD i default) [40] = false) : matchR ts i = (0, 3) := by
  unfold matchR
  rw [if_neg fun h => by rw [show ((i : Nat) : Int).toNat = i from rfl, ho] at h; cases h.2.2]
theorem split_ok {ts : List Tk} {s : List UInt8} (h : (splitR ts s).2 = 0) : (nestG ts 0 0).2 = 0 ∧ kind s = 5 ∧ s ≠ [40] ∧ s ≠ [41] ∧ (splitR ts s).1 = splitG s ts 0 [] := by
  unfold splitR at h ⊢
  split at h
  · rename_i h1
    split at h
    · rename_i h2; rw [if_pos h1, if_pos h2]; exact ⟨h2, h1.1, h1.2.1, h1.2.2, rfl⟩
    · rename_i h2; exact absurd h h2
  · simp at h
theorem split_bad {ts : List Tk} {s : List UInt8} (h : (nestG ts 0 0).2 ≠ 0 ∨ (splitR ts s).2 ≠ 0) : (splitR ts s).1 = [] := by
  unfold splitR at h ⊢
  split
  · split
    · rename_i h1 h2; rw [if_pos h1, if_pos h2] at h; simp [h2] at h
    · rfl
  · rfl
/-- a piece is balanced and is its own only piece -/
theorem split_piece {ts : List Tk} {s : List UInt8} (h : (splitR ts s).2 = 0) (i : Nat) (hi : i < (splitR ts s).1.length) :
    (nestG ((splitR ts s).1.getD i []) 0 0).2 = 0 ∧ (nestG ((splitR ts s).1.getD i []) 0 0).1 ≤ (nestG ts 0 0).1 ∧ splitR ((splitR ts s).1.getD i []) s = ([(splitR ts s).1.getD i []], 0) := by
  obtain ⟨h1, h2, h3, h4, h5⟩ := split_ok h
  obtain ⟨w1, w2, _⟩ := nest_ok ts h1
  have hm : (splitR ts s).1.getD i [] ∈ splitG s ts 0 [] := by
    rw [← h5, List.getD_eq_getElem?_getD, List.getElem?_eq_getElem hi]; exact List.getElem_mem hi
  generalize (splitR ts s).1.getD i [] = q at *
  obtain ⟨g1, g2⟩ := pieces s _ h3 h4 ts 0 [] (fun x => rfl) rfl w1 q hm
  obtain ⟨g3, g4⟩ := walk_nest q 0 0 _ g1 w2
  refine ⟨g3, g4, ?_⟩
  unfold splitR
  rw [if_pos ⟨h2, h3, h4⟩, if_pos g3, g2]
theorem split_first {ts : List Tk} {s : List UInt8} (h : (splitR ts s).2 = 0) : 0 < (splitR ts s).1.length ∧ ∃ row, ts = (splitR ts s).1.getD 0 [] ++ row ∧ Rem s ((splitR ts s).1.drop 1) row := by
  obtain ⟨_, _, _, _, h5⟩ := split_ok h
  obtain ⟨q, qs, row, g1, g2, g3⟩ := split_rem s ts 0 []
  rw [h5, g1]
  exact ⟨by simp, row, g2, g3⟩
end Go.Proofs.Ytebcheabahajaaa
