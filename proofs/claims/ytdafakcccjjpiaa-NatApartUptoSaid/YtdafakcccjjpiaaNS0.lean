/-
  Sorting, without a program in sight.
-/
import Derived.Test.YtdafakcccjjpiaaGD
namespace Go.Proofs.Ytdafakcccjjpiaa
set_option linter.unusedSimpArgs false
set_option linter.unusedVariables false
set_option maxHeartbeats 10000000
def SoB (L : List Nat) (a b : Nat) : Prop := ∀ p q, a ≤ p → p < q → q < b → L.getD p 0 ≤ L.getD q 0
def AlO (L M : List Nat) (a b : Nat) : Prop := M.length = L.length ∧ M.Perm L ∧ ∀ p, p < a ∨ b ≤ p → M.getD p 0 = L.getD p 0
theorem AlO.rfl {L : List Nat} {a b : Nat} : AlO L L a b := ⟨Eq.refl _, List.Perm.refl _, fun _ _ => Eq.refl _⟩
theorem AlO.trans {L M N : List Nat} {a b c d : Nat} (h : AlO L M a b) (k : AlO M N c d) (hc : a ≤ c) (hd : d ≤ b) : AlO L N a b :=
  ⟨k.1.trans h.1, k.2.1.trans h.2.1, fun p hp => (k.2.2 p (by omega)).trans (h.2.2 p hp)⟩
theorem lst_eq {L M : List Nat} (h : M.length = L.length) (k : ∀ p, p < L.length → M.getD p 0 = L.getD p 0) : M = L := by
  refine List.ext_getElem h fun i h1 h2 => ?_
  have := k i h2
  rw [List.getD_eq_getElem?_getD, List.getD_eq_getElem?_getD, List.getElem?_eq_getElem h1, List.getElem?_eq_getElem h2] at this
  exact this
theorem getD_take' (L : List Nat) (n p : Nat) (h : p < n) : (L.take n).getD p 0 = L.getD p 0 := by
  rw [List.getD_eq_getElem?_getD, List.getD_eq_getElem?_getD, List.getElem?_take_of_lt h]
theorem getD_drop' (L : List Nat) (n p : Nat) : (L.drop n).getD p 0 = L.getD (n + p) 0 := by
  rw [List.getD_eq_getElem?_getD, List.getD_eq_getElem?_getD, List.getElem?_drop]
theorem cut3 (L : List Nat) (a b : Nat) (h : a ≤ b) : L = L.take a ++ ((L.drop a).take (b - a) ++ L.drop b) := by
  have h1 : L.drop b = (L.drop a).drop (b - a) := by rw [List.drop_drop]; congr 1; omega
  rw [h1, List.take_append_drop, List.take_append_drop]
theorem AlO.parts {L M : List Nat} {a b : Nat} (h : AlO L M a b) (hab : a ≤ b) : M.take a = L.take a ∧ M.drop b = L.drop b ∧ ((M.drop a).take (b - a)).Perm ((L.drop a).take (b - a)) := by
  obtain ⟨h1, h2, h3⟩ := h
  have e1 : M.take a = L.take a := lst_eq (by simp [h1]) fun p hp => by
    have : p < a := by simp at hp; omega
    rw [getD_take' _ _ _ this, getD_take' _ _ _ this]; exact h3 p (.inl this)
  have e2 : M.drop b = L.drop b := lst_eq (by simp [h1]) fun p hp => by
    rw [getD_drop', getD_drop']; exact h3 _ (.inr (by omega))
  refine ⟨e1, e2, ?_⟩
  rw [cut3 M a b hab, cut3 L a b hab, e1, e2] at h2
  exact (List.perm_append_right_iff _).1 ((List.perm_append_left_iff _).1 h2)
theorem SoB.pw {L : List Nat} {a b : Nat} (h : SoB L a b) : ((L.drop a).take (b - a)).Pairwise (· ≤ ·) := by
  rw [List.pairwise_iff_getElem]
  intro i j hi hj hij
  simp at hi hj
  have := h (a + i) (a + j) (by omega) (by omega) (by omega)
  simpa [List.getD_eq_getElem?_getD, List.getElem?_eq_getElem (show a + i < L.length by omega), List.getElem?_eq_getElem (show a + j < L.length by omega)] using this
theorem srt_uniq {L M N : List Nat} {a b : Nat} (h1 : AlO L M a b) (h2 : AlO L N a b) (s1 : SoB M a b) (s2 : SoB N a b) (hab : a ≤ b) : M = N := by
  obtain ⟨p1, p2, p3⟩ := h1.parts hab
  obtain ⟨q1, q2, q3⟩ := h2.parts hab
  have e := List.Perm.eq_of_pairwise (le := (· ≤ ·)) (fun x y _ _ h k => Nat.le_antisymm h k) s1.pw s2.pw (p3.trans q3.symm)
  rw [cut3 M a b hab, cut3 N a b hab, p1, p2, q1, q2, e]
def srt (L : List Nat) (a b : Nat) : List Nat := L.take a ++ (((L.drop a).take (b - a)).mergeSort (fun x y => decide (x ≤ y)) ++ L.drop b)
theorem srt_spec (L : List Nat) {a b : Nat} (hab : a ≤ b) (hb : b ≤ L.length) : AlO L (srt L a b) a b ∧ SoB (srt L a b) a b := by
  have hm : (((L.drop a).take (b - a)).mergeSort (fun x y => decide (x ≤ y))).length = b - a := by
    rw [(List.mergeSort_perm _ _).length_eq]; simp; omega
  have ht : (L.take a).length = a := by simp; omega
  have g2 : ∀ p, a ≤ p → p < b → (srt L a b).getD p 0 = (((L.drop a).take (b - a)).mergeSort (fun x y => decide (x ≤ y))).getD (p - a) 0 := fun p h1 h2 => by
    unfold srt
    rw [List.getD_eq_getElem?_getD, List.getElem?_append_right (by omega), List.getElem?_append_left (by omega), ht, ← List.getD_eq_getElem?_getD]
  refine ⟨⟨?_, ?_, fun p hp => ?_⟩, fun p q h1 h2 h3 => ?_⟩
  · unfold srt; rw [List.length_append, List.length_append, hm, ht, List.length_drop]; omega
  · have := cut3 L a b hab
    unfold srt
    conv => rhs; rw [this]
    exact (List.perm_append_left_iff _).2 ((List.perm_append_right_iff _).2 (List.mergeSort_perm _ _))
  · unfold srt
    rcases hp with hp | hp
    · rw [List.getD_eq_getElem?_getD, List.getElem?_append_left (by omega), ← List.getD_eq_getElem?_getD, getD_take' _ _ _ hp]
    · rw [List.getD_eq_getElem?_getD, List.getElem?_append_right (by omega), List.getElem?_append_right (by omega), ht, hm, ← List.getD_eq_getElem?_getD, getD_drop']
      congr 1; omega
  · rw [g2 p h1 (by omega), g2 q (by omega) h3]
    have h4 := List.pairwise_iff_getElem.1 (List.pairwise_mergeSort (le := fun x y => decide (x ≤ y)) (fun x y z h k => by simp at *; omega) (fun x y => by simp; omega) ((L.drop a).take (b - a))) (p - a) (q - a) (by omega) (by omega) (by omega)
    rw [List.getD_eq_getElem?_getD, List.getD_eq_getElem?_getD, List.getElem?_eq_getElem (by omega), List.getElem?_eq_getElem (by omega)]
    simpa using h4
theorem srt_of {L M : List Nat} {a b : Nat} (h : AlO L M a b) (s : SoB M a b) (hab : a ≤ b) (hb : b ≤ L.length) : M = srt L a b :=
  srt_uniq h (srt_spec L hab hb).1 s (srt_spec L hab hb).2 hab
def swp (L : List Nat) (i j : Nat) : List Nat := (L.set i (L.getD j 0)).set j (L.getD i 0)
theorem swp_len (L : List Nat) (i j : Nat) : (swp L i j).length = L.length := by simp [swp]
theorem swp_perm {L : List Nat} {i j : Nat} (hi : i < L.length) (hj : j < L.length) : (swp L i j).Perm L := by
  have := List.set_set_perm hi hj
  unfold swp
  rw [List.getD_eq_getElem?_getD, List.getD_eq_getElem?_getD, List.getElem?_eq_getElem hi, List.getElem?_eq_getElem hj]
  exact this
theorem swp_get {L : List Nat} {i j : Nat} (hi : i < L.length) (hj : j < L.length) (p : Nat) : (swp L i j).getD p 0 = if p = j then L.getD i 0 else if p = i then L.getD j 0 else L.getD p 0 := by
  unfold swp
  rw [List.getD_eq_getElem?_getD, List.getElem?_set]
  split
  · rename_i h; subst h; rw [if_pos rfl]; simp [hj]
  · rename_i h
    rw [if_neg (fun e => h e.symm), List.getElem?_set]
    split
    · rename_i h2; subst h2; rw [if_pos rfl]; simp
    · rename_i h2; rw [if_neg (fun e => h2 e.symm), ← List.getD_eq_getElem?_getD]
theorem swp_AlO {L : List Nat} {i j a b : Nat} (hi : i < L.length) (hj : j < L.length) (h1 : a ≤ i) (h2 : i < b) (h3 : a ≤ j) (h4 : j < b) : AlO L (swp L i j) a b :=
  ⟨swp_len _ _ _, swp_perm hi hj, fun p hp => by rw [swp_get hi hj, if_neg (by omega), if_neg (by omega)]⟩
theorem AlO.mem {L M : List Nat} {a b : Nat} (h : AlO L M a b) {P : Nat → Prop} (hP : ∀ x, x ∈ L → P x) (p : Nat) (hp : p < L.length) : P (M.getD p 0) := by
  have hp' : p < M.length := by rw [h.1]; exact hp
  rw [List.getD_eq_getElem?_getD, List.getElem?_eq_getElem hp', Option.getD_some]
  exact hP _ (h.2.1.mem_iff.1 (List.getElem_mem hp'))
def InS (M : List Nat) (a i j : Nat) : Prop := ∀ p q, a ≤ p → p < q → q ≤ i → q ≠ j → M.getD p 0 ≤ M.getD q 0
theorem InS.step {M : List Nat} {a i j : Nat} (h : InS M a i j) (h1 : a < j) (h2 : j ≤ i) (h3 : i < M.length) (h4 : M.getD j 0 < M.getD (j - 1) 0) : InS (swp M j (j - 1)) a i (j - 1) := by
  intro p q hp hpq hq hqj
  rw [swp_get (by omega) (by omega), swp_get (by omega) (by omega)]
  have a1 := fun x y k1 k2 k3 k4 => h x y k1 k2 k3 k4
  by_cases e1 : q = j
  · subst e1
    rw [if_neg hqj, if_pos rfl]
    split
    · omega
    · rw [if_neg (by omega)]; exact a1 p (q - 1) hp (by omega) (by omega) (by omega)
  · rw [if_neg hqj, if_neg e1]
    split
    · rename_i e2; subst e2
      exact a1 j q (by omega) (by omega) hq e1
    · split
      · rename_i e2 e3; subst e3; exact a1 (p - 1) q (by omega) (by omega) hq e1
      · exact a1 p q hp hpq hq e1
theorem InS.done {M : List Nat} {a i j : Nat} (h : InS M a i j) (h1 : a ≤ j) (h2 : j ≤ i) (h4 : j = a ∨ M.getD (j - 1) 0 ≤ M.getD j 0) : SoB M a (i + 1) := by
  intro p q hp hpq hq
  by_cases e : q = j
  · subst e
    rcases h4 with h4 | h4
    · omega
    · by_cases e2 : p = q - 1
      · subst e2; exact h4
      · exact Nat.le_trans (h p (q - 1) hp (by omega) (by omega) (by omega)) h4
  · exact h p q hp hpq (by omega) e
theorem InS.start {M : List Nat} {a i : Nat} (h : SoB M a i) : InS M a i i := fun p q hp hpq hq hqi => h p q hp hpq (by omega)
def swr (L : List Nat) (a b : Nat) : Nat → List Nat
  | 0 => L
  | k + 1 => swp (swr L a b k) (a + k) (b + k)
theorem swr_len (L : List Nat) (a b : Nat) : ∀ k, (swr L a b k).length = L.length
  | 0 => rfl
  | k + 1 => by rw [swr, swp_len, swr_len]
theorem swr_get {L : List Nat} {a b : Nat} : ∀ (k : Nat), a + k ≤ b → b + k ≤ L.length → ∀ p, (swr L a b k).getD p 0 = if a ≤ p ∧ p < a + k then L.getD (b + (p - a)) 0 else if b ≤ p ∧ p < b + k then L.getD (a + (p - b)) 0 else L.getD p 0
  | 0, _, _, p => by rw [if_neg (by omega), if_neg (by omega)]; rfl
  | k + 1, h1, h2, p => by
    rw [swr, swp_get (by rw [swr_len]; omega) (by rw [swr_len]; omega)]
    have ih := swr_get (L := L) (a := a) (b := b) k (by omega) (by omega)
    split
    · rename_i e; subst e
      rw [ih, if_neg (by omega), if_neg (by omega), if_neg (by omega), if_pos (by omega)]
      congr 1; omega
    · split
      · rename_i e1 e2; subst e2
        rw [ih, if_neg (by omega), if_neg (by omega), if_pos (by omega)]
        congr 1; omega
      · rename_i e1 e2
        rw [ih]
        by_cases c1 : a ≤ p ∧ p < a + k
        · rw [if_pos c1, if_pos (show a ≤ p ∧ p < a + (k + 1) by omega)]
        · have d1 : ¬ (a ≤ p ∧ p < a + (k + 1)) := by omega
          by_cases c2 : b ≤ p ∧ p < b + k
          · rw [if_neg c1, if_pos c2, if_neg d1, if_pos (show b ≤ p ∧ p < b + (k + 1) by omega)]
          · rw [if_neg c1, if_neg c2, if_neg d1, if_neg (show ¬ (b ≤ p ∧ p < b + (k + 1)) by omega)]
def rtf (L : List Nat) (s m e p : Nat) : Nat := if p < s ∨ e ≤ p then L.getD p 0 else if p < s + (e - m) then L.getD (m + (p - s)) 0 else L.getD (s + (p - (s + (e - m)))) 0
def rot (L : List Nat) (s m e : Nat) : List Nat := (List.range L.length).map fun p => rtf L s m e p
theorem rot_len (L : List Nat) (s m e : Nat) : (rot L s m e).length = L.length := by simp [rot]
theorem rot_get (L : List Nat) (s m e p : Nat) (hp : p < L.length) : (rot L s m e).getD p 0 = rtf L s m e p := by
  unfold rot
  rw [List.getD_eq_getElem?_getD, List.getElem?_map, List.getElem?_range hp]; rfl
theorem rot_eq {L M : List Nat} {s m e : Nat} (h : M.length = L.length) (k : ∀ p, M.getD p 0 = rtf L s m e p) : M = rot L s m e :=
  lst_eq (by rw [h, rot_len]) fun p hp => by rw [rot_get _ _ _ _ _ (by rw [rot_len] at hp; exact hp)]; exact k p
theorem rtf_one {M : List Nat} {m i j : Nat} (h1 : i ≤ m) (h2 : m + j ≤ M.length) (h3 : j < i) (p : Nat) : rtf (swr M (m - i) m j) (m - (i - j)) m (m + j) p = rtf M (m - i) m (m + j) p := by
  have g := swr_get (L := M) (a := m - i) (b := m) j (by omega) h2
  unfold rtf
  simp only [g]
  by_cases c1 : p < m - i ∨ m + j ≤ p
  · rw [if_pos (show p < m - (i - j) ∨ m + j ≤ p by omega), if_neg (by omega), if_neg (by omega), if_pos c1]
  · by_cases c2 : p < m - i + j
    · rw [if_pos (show p < m - (i - j) ∨ m + j ≤ p by omega), if_pos (by omega), if_neg c1, if_pos (by omega)]
    · by_cases c3 : p < m - (i - j) + (m + j - m)
      · rw [if_neg (show ¬ (p < m - (i - j) ∨ m + j ≤ p) by omega), if_pos c3, if_neg (by omega), if_pos (by omega), if_neg c1, if_neg (by omega)]
        congr 1; omega
      · rw [if_neg (show ¬ (p < m - (i - j) ∨ m + j ≤ p) by omega), if_neg c3, if_neg (by omega), if_neg (by omega), if_neg c1, if_neg (by omega)]
        congr 1; omega
theorem rtf_two {M : List Nat} {m i j : Nat} (h1 : i ≤ m) (h2 : m + j ≤ M.length) (h3 : i < j) (p : Nat) : rtf (swr M (m - i) (m + j - i) i) (m - i) m (m + (j - i)) p = rtf M (m - i) m (m + j) p := by
  have g := swr_get (L := M) (a := m - i) (b := m + j - i) i (by omega) (by omega)
  unfold rtf
  simp only [g]
  by_cases c1 : p < m - i ∨ m + j ≤ p
  · rw [if_pos (show p < m - i ∨ m + (j - i) ≤ p by omega), if_pos c1, if_neg (by omega), if_neg (by omega)]
  · by_cases c2 : m + j - i ≤ p
    · rw [if_pos (show p < m - i ∨ m + (j - i) ≤ p by omega), if_neg (by omega), if_pos (by omega), if_neg c1, if_neg (by omega)]
      congr 1; omega
    · by_cases c3 : p < m - i + (j - i)
      · rw [if_neg (show ¬ (p < m - i ∨ m + (j - i) ≤ p) by omega), if_pos (by omega), if_neg (by omega), if_neg (by omega), if_neg c1, if_pos (by omega)]
      · rw [if_neg (show ¬ (p < m - i ∨ m + (j - i) ≤ p) by omega), if_neg (by omega), if_pos (by omega), if_neg c1, if_pos (by omega)]
        congr 1; omega
theorem rtf_end {M : List Nat} {m i : Nat} (h1 : i ≤ m) (h2 : m + i ≤ M.length) (p : Nat) : (swr M (m - i) m i).getD p 0 = rtf M (m - i) m (m + i) p := by
  rw [swr_get i (by omega) h2]
  unfold rtf
  by_cases c1 : p < m - i ∨ m + i ≤ p
  · rw [if_pos c1, if_neg (by omega), if_neg (by omega)]
  · by_cases c2 : p < m
    · rw [if_neg c1, if_pos (by omega), if_pos (by omega)]
    · rw [if_neg c1, if_neg (by omega), if_pos (by omega), if_neg (by omega)]
      congr 1; omega
theorem rtf_none {L : List Nat} {s m e : Nat} (h : s = m ∨ m = e) (h1 : s ≤ m) (h2 : m ≤ e) (p : Nat) : rtf L s m e p = L.getD p 0 := by
  unfold rtf
  by_cases c1 : p < s ∨ e ≤ p
  · rw [if_pos c1]
  · rw [if_neg c1]
    by_cases c2 : p < s + (e - m)
    · rw [if_pos c2]; congr 1; omega
    · rw [if_neg c2]; congr 1; omega
theorem rot_none {L : List Nat} {s m e : Nat} (h : s = m ∨ m = e) (h1 : s ≤ m) (h2 : m ≤ e) : rot L s m e = L := (rot_eq (M := L) rfl fun p => (rtf_none h h1 h2 p).symm).symm
theorem getD_app' (A B : List Nat) (p : Nat) : (A ++ B).getD p 0 = if p < A.length then A.getD p 0 else B.getD (p - A.length) 0 := by
  split
  · rename_i h; rw [List.getD_eq_getElem?_getD, List.getElem?_append_left h, ← List.getD_eq_getElem?_getD]
  · rename_i h; rw [List.getD_eq_getElem?_getD, List.getElem?_append_right (by omega), ← List.getD_eq_getElem?_getD]
theorem rot_perm {L : List Nat} {s m e : Nat} (h1 : s ≤ m) (h2 : m ≤ e) (h3 : e ≤ L.length) : (rot L s m e).Perm L := by
  have e1 : L.take s ++ ((L.drop m).take (e - m) ++ ((L.drop s).take (m - s) ++ L.drop e)) = rot L s m e := rot_eq (by simp; omega) fun p => by
    have l1 : (L.take s).length = s := by simp; omega
    have l2 : ((L.drop m).take (e - m)).length = e - m := by simp; omega
    have l3 : ((L.drop s).take (m - s)).length = m - s := by simp; omega
    rw [getD_app', getD_app', getD_app', l1, l2, l3]
    unfold rtf
    by_cases c1 : p < s
    · rw [if_pos c1, if_pos (by omega), getD_take' _ _ _ c1]
    · by_cases c2 : p - s < e - m
      · rw [if_neg c1, if_pos c2, if_neg (by omega), if_pos (by omega), getD_take' _ _ _ c2, getD_drop']
      · by_cases c3 : p - s - (e - m) < m - s
        · rw [if_neg c1, if_neg c2, if_pos c3, if_neg (by omega), if_neg (by omega), getD_take' _ _ _ c3, getD_drop']
          congr 1; omega
        · rw [if_neg c1, if_neg c2, if_neg c3, if_pos (by omega), getD_drop']
          congr 1; omega
  rw [← e1]
  conv => rhs; rw [cut3 L s m h1]
  refine (List.perm_append_left_iff _).2 ?_
  have e2 : L.drop m = (L.drop m).take (e - m) ++ L.drop e := by
    have := cut3 (L.drop m) 0 (e - m) (Nat.zero_le _)
    rw [List.drop_zero, List.drop_drop, show m + (e - m) = e from by omega] at this
    exact this
  conv => rhs; rw [e2]
  rw [← List.append_assoc, ← List.append_assoc]
  exact (List.perm_append_right_iff _).2 List.perm_append_comm
theorem AlO.back {L M : List Nat} {a b : Nat} (h : AlO L M a b) (hab : a ≤ b) (hb : b ≤ L.length) (p : Nat) (h1 : a ≤ p) (h2 : p < b) : ∃ q, a ≤ q ∧ q < b ∧ M.getD p 0 = L.getD q 0 := by
  obtain ⟨_, _, hp⟩ := h.parts hab
  have hl := h.1
  have hm : M.getD p 0 ∈ (M.drop a).take (b - a) := by
    rw [List.mem_iff_getElem]
    refine ⟨p - a, by simp; omega, ?_⟩
    simp [List.getD_eq_getElem?_getD, show a + (p - a) = p from by omega, List.getElem?_eq_getElem (show p < M.length by omega)]
  have hm2 := hp.mem_iff.1 hm
  obtain ⟨i, hi, he⟩ := List.mem_iff_getElem.1 hm2
  simp at hi
  refine ⟨a + i, by omega, by omega, ?_⟩
  rw [← he]
  simp [List.getD_eq_getElem?_getD, List.getElem?_eq_getElem (show a + i < L.length by omega)]
theorem SoB.sub {L : List Nat} {a b c d : Nat} (h : SoB L a b) (h1 : a ≤ c) (h2 : d ≤ b) : SoB L c d := fun p q hp hq hd => h p q (by omega) hq (by omega)
theorem SoB.out {L M : List Nat} {a b c d : Nat} (h : AlO L M a b) (s : SoB L c d) (ho : d ≤ a ∨ b ≤ c) : SoB M c d := fun p q hp hq hd => by
  rw [h.2.2 p (by omega), h.2.2 q (by omega)]; exact s p q hp hq hd
theorem SoB.le {L : List Nat} {a b : Nat} (h : SoB L a b) {p q : Nat} (hp : a ≤ p) (hq : p ≤ q) (hb : q < b) : L.getD p 0 ≤ L.getD q 0 := by
  rcases Nat.eq_or_lt_of_le hq with e | e
  · subst e; exact Nat.le_refl _
  · exact h p q hp e hb
def ins1 (L : List Nat) (a k : Nat) (M : List Nat) : Prop := ∀ p, M.getD p 0 = if a ≤ p ∧ p < k then L.getD (p + 1) 0 else if p = k then L.getD a 0 else L.getD p 0
theorem ins1_0 (L : List Nat) (a : Nat) : ins1 L a a L := fun p => by
  rw [if_neg (by omega)]; split
  · rename_i e; rw [e]
  · rfl
theorem ins1_s {L M : List Nat} {a k : Nat} (h : ins1 L a k M) (hl : k + 1 < M.length) (hk : a ≤ k) : ins1 L a (k + 1) (swp M k (k + 1)) := fun p => by
  rw [swp_get (by omega) hl, h k, h (k + 1), h p]
  rw [if_neg (show ¬ (a ≤ k ∧ k < k) by omega), if_pos (Eq.refl k), if_neg (show ¬ (a ≤ k + 1 ∧ k + 1 < k) by omega), if_neg (show ¬ k + 1 = k by omega)]
  by_cases c1 : p = k + 1
  · rw [if_pos c1, if_neg (by omega), if_pos c1]
  · by_cases c2 : p = k
    · rw [if_neg c1, if_pos c2, if_pos (by omega), c2]
    · by_cases c3 : a ≤ p ∧ p < k
      · rw [if_neg c1, if_neg c2, if_pos c3, if_pos (by omega)]
      · rw [if_neg c1, if_neg c2, if_neg c3, if_neg c2, if_neg (show ¬ (a ≤ p ∧ p < k + 1) by omega), if_neg c1]
theorem ins1_end {L M : List Nat} {a i b : Nat} (h : ins1 L a (i - 1) M) (s : SoB L (a + 1) b) (h1 : a + 1 ≤ i) (h2 : i ≤ b) (lo : ∀ x, a + 1 ≤ x → x < i → L.getD x 0 < L.getD a 0) (hi : ∀ x, i ≤ x → x < b → L.getD a 0 ≤ L.getD x 0) : SoB M a b := fun p q hp hpq hq => by
  rw [h p, h q]
  by_cases c1 : p < i - 1
  · rw [if_pos (by omega)]
    by_cases c2 : q < i - 1
    · rw [if_pos (by omega)]; exact s _ _ (by omega) (by omega) (by omega)
    · rw [if_neg (by omega)]
      by_cases c3 : q = i - 1
      · rw [if_pos c3]; exact Nat.le_of_lt (lo _ (by omega) (by omega))
      · rw [if_neg c3]; exact s.le (by omega) (by omega) (by omega)
  · rw [if_neg (by omega), if_neg (show ¬ (a ≤ q ∧ q < i - 1) by omega), if_neg (show ¬ q = i - 1 by omega)]
    by_cases c3 : p = i - 1
    · rw [if_pos c3]; exact hi _ (by omega) hq
    · rw [if_neg c3]; exact s _ _ (by omega) hpq hq
def ins2 (L : List Nat) (m k : Nat) (M : List Nat) : Prop := ∀ p, M.getD p 0 = if k < p ∧ p ≤ m then L.getD (p - 1) 0 else if p = k then L.getD m 0 else L.getD p 0
theorem ins2_0 (L : List Nat) (m : Nat) : ins2 L m m L := fun p => by
  rw [if_neg (by omega)]; split
  · rename_i e; rw [e]
  · rfl
theorem ins2_s {L M : List Nat} {m k : Nat} (h : ins2 L m k M) (hl : k < M.length) (hk : k ≤ m) (h0 : 0 < k) : ins2 L m (k - 1) (swp M k (k - 1)) := fun p => by
  rw [swp_get hl (by omega), h k, h (k - 1), h p]
  rw [if_neg (show ¬ (k < k ∧ k ≤ m) by omega), if_pos (Eq.refl k), if_neg (show ¬ (k < k - 1 ∧ k - 1 ≤ m) by omega), if_neg (show ¬ k - 1 = k by omega)]
  by_cases c1 : p = k - 1
  · rw [if_pos c1, if_neg (by omega), if_pos c1]
  · by_cases c2 : p = k
    · rw [if_neg c1, if_pos c2, if_pos (by omega), c2]
    · by_cases c3 : k < p ∧ p ≤ m
      · rw [if_neg c1, if_neg c2, if_pos c3, if_pos (by omega)]
      · rw [if_neg c1, if_neg c2, if_neg c3, if_neg c2, if_neg (show ¬ (k - 1 < p ∧ p ≤ m) by omega), if_neg c1]
theorem ins2_end {L M : List Nat} {a i m : Nat} (h : ins2 L m i M) (s : SoB L a m) (h1 : a ≤ i) (h2 : i ≤ m) (lo : ∀ x, a ≤ x → x < i → L.getD x 0 ≤ L.getD m 0) (hi : ∀ x, i ≤ x → x < m → L.getD m 0 < L.getD x 0) : SoB M a (m + 1) := fun p q hp hpq hq => by
  rw [h p, h q]
  by_cases c1 : i < q
  · rw [if_pos (show i < q ∧ q ≤ m by omega)]
    by_cases c2 : i < p
    · rw [if_pos (by omega)]; exact s _ _ (by omega) (by omega) (by omega)
    · rw [if_neg (by omega)]
      by_cases c3 : p = i
      · rw [if_pos c3]; exact Nat.le_of_lt (hi _ (by omega) (by omega))
      · rw [if_neg c3]; exact s.le (by omega) (by omega) (by omega)
  · rw [if_neg (show ¬ (i < p ∧ p ≤ m) by omega), if_neg (show ¬ p = i by omega), if_neg (show ¬ (i < q ∧ q ≤ m) by omega)]
    by_cases c3 : q = i
    · rw [if_pos c3]; exact lo _ (by omega) (by omega)
    · rw [if_neg c3]; exact s _ _ (by omega) hpq (by omega)
def lo0 (a m b : Nat) : Nat := if (a + b) / 2 < m then (a + b) / 2 + m - b else a
def hi0 (a m b : Nat) : Nat := if (a + b) / 2 < m then (a + b) / 2 else m
theorem lohi {a m b : Nat} (h1 : a < m) (h2 : m < b) : a ≤ lo0 a m b ∧ lo0 a m b ≤ hi0 a m b ∧ hi0 a m b ≤ m ∧ hi0 a m b ≤ (a + b) / 2 ∧ ∀ c, lo0 a m b ≤ c → c < hi0 a m b → m ≤ (a + b) / 2 + m - 1 - c ∧ (a + b) / 2 + m - 1 - c < b ∧ c < (a + b) / 2 + m - 1 + 1 := by
  unfold lo0 hi0
  split
  · exact ⟨by omega, by omega, by omega, by omega, fun c _ _ => ⟨by omega, by omega, by omega⟩⟩
  · exact ⟨by omega, by omega, by omega, by omega, fun c _ _ => ⟨by omega, by omega, by omega⟩⟩
def Sea (L : List Nat) (a m b s r : Nat) : Prop := lo0 a m b ≤ s ∧ s ≤ r ∧ r ≤ hi0 a m b ∧ (∀ c, lo0 a m b ≤ c → c < s → L.getD c 0 ≤ L.getD ((a + b) / 2 + m - 1 - c) 0) ∧ ∀ c, r ≤ c → c < hi0 a m b → L.getD ((a + b) / 2 + m - 1 - c) 0 < L.getD c 0
theorem Sea.start {L : List Nat} {a m b : Nat} (h1 : a < m) (h2 : m < b) : Sea L a m b (lo0 a m b) (hi0 a m b) :=
  ⟨Nat.le_refl _, (lohi h1 h2).2.1, Nat.le_refl _, fun c _ _ => by omega, fun c _ _ => by omega⟩
theorem Sea.up {L : List Nat} {a m b s r : Nat} (h1 : a < m) (h2 : m < b) (sa : SoB L a m) (sb : SoB L m b) (h : Sea L a m b s r) (hs : s < r) (hc : L.getD ((s + r) / 2) 0 ≤ L.getD ((a + b) / 2 + m - 1 - (s + r) / 2) 0) : Sea L a m b ((s + r) / 2 + 1) r := by
  obtain ⟨k1, k2, k3, k4, k5⟩ := h
  obtain ⟨l1, l2, l3, l4, l5⟩ := lohi h1 h2
  refine ⟨by omega, by omega, k3, fun c c1 c2 => ?_, k5⟩
  have g1 := l5 c c1 (by omega)
  have g2 := l5 ((s + r) / 2) (by omega) (by omega)
  exact Nat.le_trans (sa.le (by omega) (by omega) (by omega)) (Nat.le_trans hc (sb.le (by omega) (by omega) (by omega)))
theorem Sea.dn {L : List Nat} {a m b s r : Nat} (h1 : a < m) (h2 : m < b) (sa : SoB L a m) (sb : SoB L m b) (h : Sea L a m b s r) (hs : s < r) (hc : L.getD ((a + b) / 2 + m - 1 - (s + r) / 2) 0 < L.getD ((s + r) / 2) 0) : Sea L a m b s ((s + r) / 2) := by
  obtain ⟨k1, k2, k3, k4, k5⟩ := h
  obtain ⟨l1, l2, l3, l4, l5⟩ := lohi h1 h2
  refine ⟨k1, by omega, by omega, k4, fun c c1 c2 => ?_⟩
  have g1 := l5 c (by omega) c2
  have g2 := l5 ((s + r) / 2) (by omega) (by omega)
  exact Nat.lt_of_le_of_lt (sb.le (by omega) (by omega) (by omega)) (Nat.lt_of_lt_of_le hc (sa.le (by omega) (by omega) (by omega)))
theorem Sea.halves {L : List Nat} {a m b s : Nat} (h1 : a < m) (h2 : m < b) (sa : SoB L a m) (sb : SoB L m b) (hb : b ≤ L.length) (h : Sea L a m b s s) :
    a ≤ s ∧ s ≤ m ∧ s ≤ (a + b) / 2 ∧ m ≤ (a + b) / 2 + m - s ∧ (a + b) / 2 + m - s ≤ b ∧ (a + b) / 2 ≤ (a + b) / 2 + m - s ∧
    AlO L (rot L s m ((a + b) / 2 + m - s)) a b ∧ SoB (rot L s m ((a + b) / 2 + m - s)) a s ∧ SoB (rot L s m ((a + b) / 2 + m - s)) s ((a + b) / 2) ∧ SoB (rot L s m ((a + b) / 2 + m - s)) ((a + b) / 2) ((a + b) / 2 + m - s) ∧ SoB (rot L s m ((a + b) / 2 + m - s)) ((a + b) / 2 + m - s) b ∧
    ∀ p q, a ≤ p → p < (a + b) / 2 → (a + b) / 2 ≤ q → q < b → (rot L s m ((a + b) / 2 + m - s)).getD p 0 ≤ (rot L s m ((a + b) / 2 + m - s)).getD q 0 := by
  obtain ⟨k1, k2, k3, k4, k5⟩ := h
  obtain ⟨l1, l2, l3, l4, l5⟩ := lohi h1 h2
  have bd : m ≤ (a + b) / 2 + m - s ∧ (a + b) / 2 + m - s ≤ b ∧ (a + b) / 2 ≤ (a + b) / 2 + m - s := by
    revert k1; unfold lo0; split <;> intro k1 <;> omega
  obtain ⟨b1, b2, b3⟩ := bd
  obtain ⟨e, he⟩ : ∃ e, (a + b) / 2 + m - s = e := ⟨_, rfl⟩
  obtain ⟨d, hd⟩ : ∃ d, (a + b) / 2 = d := ⟨_, rfl⟩
  have lo1 : a < s → e < b → L.getD (s - 1) 0 ≤ L.getD e 0 := fun h3 h4 => by
    have : lo0 a m b ≤ s - 1 := by revert k1; unfold lo0; split <;> intro k1 <;> omega
    have := k4 (s - 1) this (by omega)
    rw [show (a + b) / 2 + m - 1 - (s - 1) = e from by omega] at this
    exact this
  have hi1 : s < m → m < e → L.getD (e - 1) 0 < L.getD s 0 := fun h3 h4 => by
    have : s < hi0 a m b := by revert k3; unfold hi0; split <;> intro k3 <;> omega
    have := k5 s (Nat.le_refl _) this
    rw [show (a + b) / 2 + m - 1 - s = e - 1 from by omega] at this
    exact this
  rw [he, hd]
  rw [he] at b1 b2 b3
  rw [hd] at b3 l4
  have hed : s + (e - m) = d := by omega
  have hds : d - s = e - m := by omega
  have gl : ∀ p, p < L.length → (rot L s m e).getD p 0 = if p < s ∨ e ≤ p then L.getD p 0 else if p < d then L.getD (m + (p - s)) 0 else L.getD (s + (p - d)) 0 := fun p hp => by
    rw [rot_get _ _ _ _ _ hp]; unfold rtf; rw [hed]
  have has : a ≤ s := by omega
  have hsm : s ≤ m := by omega
  have hsd : s ≤ d := by omega
  clear k1 k4 k5 l5 he hd l1 l2 l3 l4 k2 k3
  refine ⟨has, hsm, hsd, b1, b2, b3, ⟨rot_len _ _ _ _, rot_perm hsm b1 (by omega), fun p hp => ?_⟩, fun p q hp hpq hq => ?_, fun p q hp hpq hq => ?_, fun p q hp hpq hq => ?_, fun p q hp hpq hq => ?_, fun p q hp hpd hq hqb => ?_⟩
  · by_cases hl : p < L.length
    · rw [gl p hl, if_pos (by omega)]
    · rw [List.getD_eq_getElem?_getD, List.getD_eq_getElem?_getD, List.getElem?_eq_none (by rw [rot_len]; omega), List.getElem?_eq_none (by omega)]
  · rw [gl p (by omega), gl q (by omega), if_pos (by omega), if_pos (by omega)]; exact sa _ _ hp hpq (by omega)
  · rw [gl p (by omega), gl q (by omega), if_neg (by omega), if_pos (by omega), if_neg (by omega), if_pos (by omega)]; exact sb _ _ (by omega) (by omega) (by omega)
  · rw [gl p (by omega), gl q (by omega), if_neg (by omega), if_neg (by omega), if_neg (by omega), if_neg (by omega)]; exact sa _ _ (by omega) (by omega) (by omega)
  · rw [gl p (by omega), gl q (by omega), if_pos (by omega), if_pos (by omega)]; exact sb _ _ (by omega) hpq (by omega)
  · rw [gl p (by omega), gl q (by omega)]
    by_cases c1 : p < s
    · rw [if_pos (show p < s ∨ e ≤ p by omega)]
      by_cases c2 : e ≤ q
      · rw [if_pos (show q < s ∨ e ≤ q by omega)]
        exact Nat.le_trans (sa.le hp (show p ≤ s - 1 by omega) (by omega)) (Nat.le_trans (lo1 (by omega) (by omega)) (sb.le b1 c2 hqb))
      · rw [if_neg (show ¬ (q < s ∨ e ≤ q) by omega), if_neg (by omega)]
        exact sa.le hp (by omega) (by omega)
    · rw [if_neg (show ¬ (p < s ∨ e ≤ p) by omega), if_pos hpd]
      by_cases c2 : e ≤ q
      · rw [if_pos (show q < s ∨ e ≤ q by omega)]
        exact sb.le (by omega) (by omega) hqb
      · rw [if_neg (show ¬ (q < s ∨ e ≤ q) by omega), if_neg (by omega)]
        exact Nat.le_trans (sb.le (show m ≤ m + (p - s) by omega) (show m + (p - s) ≤ e - 1 by omega) (by omega)) (Nat.le_trans (Nat.le_of_lt (hi1 (by omega) (by omega))) (sa.le (show a ≤ s by omega) (by omega) (by omega)))
theorem mrg_end {R M N : List Nat} {a d b : Nat} (h1 : a ≤ d) (h2 : d ≤ b) (hb : b ≤ R.length) (hc : ∀ p q, a ≤ p → p < d → d ≤ q → q < b → R.getD p 0 ≤ R.getD q 0) (m1 : AlO R M a d) (s1 : SoB M a d) (m2 : AlO M N d b) (s2 : SoB N d b) : SoB N a b := fun p q hp hpq hq => by
  by_cases c1 : q < d
  · rw [m2.2.2 p (by omega), m2.2.2 q (by omega)]; exact s1 p q hp hpq c1
  · by_cases c2 : d ≤ p
    · exact s2 p q c2 hpq hq
    · obtain ⟨p', e1, e2, e3⟩ := m1.back h1 (by omega) p hp (by omega)
      obtain ⟨q', g1, g2, g3⟩ := m2.back h2 (by rw [m1.1]; exact hb) q (by omega) hq
      rw [m2.2.2 p (by omega), e3, g3, m1.2.2 q' (by omega)]
      exact hc p' q' e1 e2 g1 g2
def Run (L : List Nat) (c x y : Nat) : Prop := ∀ p q, x ≤ p → p < q → q < y → p / c = q / c → L.getD p 0 ≤ L.getD q 0
end Go.Proofs.Ytdafakcccjjpiaa
