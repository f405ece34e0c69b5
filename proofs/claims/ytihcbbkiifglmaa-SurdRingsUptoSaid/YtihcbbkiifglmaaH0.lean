/-
  Plain laws: sums and products of lists of coefficients, and their values.
-/
import Derived.Test.YtihcbbkiifglmaaGM
namespace Go.Proofs.Ytihcbbkiifglmaa
set_option linter.unusedSimpArgs false
set_option linter.unusedVariables false
set_option maxHeartbeats 10000000
/-- place by place -/
def addl (a b : List Int) : List Int := (List.range (max a.length b.length)).map fun i => a.getD i 0 + b.getD i 0
/-- all coefficients are at most m -/
def Cb (l : List Int) (m : Nat) : Prop := ∀ i, (l.getD i 0).natAbs ≤ m
theorem addl_len (a b : List Int) : (addl a b).length = max a.length b.length := by simp [addl]
theorem addl_get (a b : List Int) (i : Nat) : (addl a b).getD i 0 = a.getD i 0 + b.getD i 0 := by
  unfold addl
  rw [List.getD_eq_getElem?_getD, List.getElem?_map]
  by_cases h : i < max a.length b.length
  · rw [List.getElem?_range h]; rfl
  · rw [List.getElem?_eq_none (by rw [List.length_range]; omega), List.getD_eq_getElem?_getD, List.getD_eq_getElem?_getD, List.getElem?_eq_none (by omega), List.getElem?_eq_none (by omega)]; rfl
/-- a value, place by place -/
def hsum (z : GZ) (f : Nat → Int) : Nat → GZ
  | 0 => (0, 0)
  | n + 1 => gadd (hsum z f n) (gmul (f n, 0) (gpow z n))
theorem gadd0 (x : GZ) : gadd x (0, 0) = x := by unfold gadd; simp
theorem gadd_comm (x y : GZ) : gadd x y = gadd y x := by unfold gadd; simp only [Prod.mk.injEq]; constructor <;> omega
theorem gadd_assoc (x y z : GZ) : gadd (gadd x y) z = gadd x (gadd y z) := by unfold gadd; simp only [Prod.mk.injEq]; constructor <;> omega
theorem gmul_0 (x : GZ) : gmul (0, 0) x = (0, 0) := by unfold gmul; simp
theorem horner_snoc' (z : GZ) (c : Int) : ∀ (l : List Int), horner z (l ++ [c]) = gadd (horner z l) (gmul (c, 0) (gpow z l.length))
  | [] => by simp [horner, gadd, gmul, gpow]
  | x :: l => by
    simp only [List.cons_append, horner, horner_snoc' z c l, List.length_cons, gpow]
    rw [gmul_add, gmul_assoc]
    unfold gadd; simp only [Prod.mk.injEq]; omega
theorem horner_hsum (z : GZ) (l : List Int) (n : Nat) (h : l.length ≤ n) : horner z l = hsum z (fun i => l.getD i 0) n := by
  have key : ∀ k, k ≤ l.length → horner z (l.take k) = hsum z (fun i => l.getD i 0) k := by
    intro k
    induction k with
    | zero => intro _; rfl
    | succ k ih =>
      intro hk
      have hs : l.take (k + 1) = l.take k ++ [l.getD k 0] := by
        rw [List.take_succ_eq_append_getElem (by omega), List.getD_eq_getElem?_getD, List.getElem?_eq_getElem (by omega)]; rfl
      rw [hs, horner_snoc', ih (by omega), List.length_take, Nat.min_eq_left (by omega)]; rfl
  have k2 : ∀ d, hsum z (fun i => l.getD i 0) (l.length + d) = hsum z (fun i => l.getD i 0) l.length := by
    intro d
    induction d with
    | zero => rfl
    | succ d ih =>
      rw [← Nat.add_assoc, hsum, ih]
      have : l.getD (l.length + d) 0 = 0 := by rw [List.getD_eq_getElem?_getD, List.getElem?_eq_none (by omega)]; rfl
      simp only [this]
      rw [gmul_0, gadd0]
  have h1 := key l.length (Nat.le_refl _)
  rw [List.take_length] at h1
  rw [h1, ← k2 (n - l.length), show l.length + (n - l.length) = n from by omega]
theorem hsum_add (z : GZ) (f g : Nat → Int) (n : Nat) : hsum z (fun i => f i + g i) n = gadd (hsum z f n) (hsum z g n) := by
  induction n with
  | zero => rfl
  | succ n ih =>
    simp only [hsum, ih]
    have : gmul (f n + g n, 0) (gpow z n) = gadd (gmul (f n, 0) (gpow z n)) (gmul (g n, 0) (gpow z n)) := by
      rw [← gmul_add]; unfold gadd; simp
    rw [this]
    unfold gadd; simp only [Prod.mk.injEq]; constructor <;> omega
theorem horner_addl (z : GZ) (a b : List Int) : horner z (addl a b) = gadd (horner z a) (horner z b) := by
  rw [horner_hsum z (addl a b) (max a.length b.length) (by rw [addl_len]; exact Nat.le_refl _), horner_hsum z a (max a.length b.length) (by omega), horner_hsum z b (max a.length b.length) (by omega), ← hsum_add]
  congr 1
  funext i
  exact addl_get a b i
theorem hsum_set (z : GZ) (f : Nat → Int) (k : Nat) (c : Int) (n : Nat) (h : k < n) : hsum z (fun i => if i = k then f i + c else f i) n = gadd (hsum z f n) (gmul (c, 0) (gpow z k)) := by
  induction n with
  | zero => omega
  | succ n ih =>
    simp only [hsum]
    by_cases hk : k = n
    · subst hk
      have : ∀ m, m ≤ k → hsum z (fun i => if i = k then f i + c else f i) m = hsum z f m := by
        intro m
        induction m with
        | zero => intro _; rfl
        | succ m ih2 =>
          intro hm
          simp only [hsum]
          rw [ih2 (by omega), if_neg (by omega)]
      rw [this k (Nat.le_refl _), if_pos rfl]
      have e : gmul (f k + c, 0) (gpow z k) = gadd (gmul (f k, 0) (gpow z k)) (gmul (c, 0) (gpow z k)) := by
        rw [← gmul_add]; unfold gadd; simp
      rw [e, gadd_assoc]
    · rw [ih (by omega), if_neg (by omega)]
      rw [gadd_assoc, gadd_assoc, gadd_comm (gmul (c, 0) (gpow z k))]
/-- one coefficient more at one place -/
theorem horner_set (z : GZ) (l : List Int) (k : Nat) (c : Int) (h : k < l.length) : horner z (l.set k (l.getD k 0 + c)) = gadd (horner z l) (gmul (c, 0) (gpow z k)) := by
  rw [horner_hsum z _ l.length (by rw [List.length_set]; exact Nat.le_refl _), horner_hsum z l l.length (Nat.le_refl _), ← hsum_set z _ k c l.length h]
  congr 1
  funext i
  rw [List.getD_eq_getElem?_getD, List.getElem?_set]
  by_cases hi : k = i
  · subst hi; rw [if_pos rfl, if_pos h, if_pos rfl]; rfl
  · rw [if_neg hi, if_neg (Ne.symm hi), List.getD_eq_getElem?_getD]
theorem horner_rep0 (z : GZ) (n : Nat) : horner z (List.replicate n 0) = (0, 0) := horner_app0 z [] n
theorem gmul_real (a b : Int) (x y : GZ) : gmul (a * b, 0) (gmul x y) = gmul (gmul (a, 0) x) (gmul (b, 0) y) := by
  unfold gmul
  simp only [Int.zero_mul, Int.sub_zero, Int.add_zero, Int.mul_sub, Int.mul_add, Int.sub_mul, Int.add_mul, Prod.mk.injEq]
  have e : ∀ p q : Int, a * b * (p * q) = a * p * (b * q) := fun p q => by simp only [Int.mul_assoc, Int.mul_left_comm]
  constructor <;> simp only [e]
/-- so many of so much, times so much -/
theorem wsum_Cb {s m : Nat} : ∀ {l : List Int}, Cb l m → ∀ n, l.length ≤ n → wsum s l ≤ m * wsum s (List.replicate n 1)
  | [], _, n, _ => Nat.zero_le _
  | x :: r, h, 0, hn => by simp at hn
  | x :: r, h, n + 1, hn => by
    have h0 := h 0
    simp only [List.getD_cons_zero] at h0
    have ih := wsum_Cb (s := s) (l := r) (fun i => by have := h (i + 1); simpa only [List.getD_cons_succ] using this) n (by simpa using hn)
    simp only [wsum, List.replicate_succ, Int.natAbs_one]
    have := Nat.mul_le_mul_left s ih
    rw [Nat.mul_add, Nat.mul_one, Nat.mul_left_comm]
    omega
theorem wsum_mono {s t : Nat} (h : s ≤ t) : ∀ (l : List Int), wsum s l ≤ wsum t l
  | [] => Nat.le_refl _
  | x :: r => by
    simp only [wsum]
    have := Nat.mul_le_mul h (wsum_mono h r)
    omega
theorem horner_conj (z : GZ) : ∀ (l : List Int), horner (z.1, -z.2) l = ((horner z l).1, -(horner z l).2)
  | [] => rfl
  | c :: r => by
    show gadd (gmul (horner (z.1, -z.2) r) (z.1, -z.2)) (c, 0) = ((gadd (gmul (horner z r) z) (c, 0)).1, -(gadd (gmul (horner z r) z) (c, 0)).2)
    rw [horner_conj z r]
    generalize horner z r = w
    obtain ⟨w1, w2⟩ := w
    obtain ⟨z1, z2⟩ := z
    unfold gadd gmul
    refine Prod.ext ?_ ?_
    · show w1 * z1 - -w2 * -z2 + c = w1 * z1 - w2 * z2 + c
      rw [Int.neg_mul_neg]
    · show w1 * -z2 + -w2 * z1 + 0 = -(w1 * z2 + w2 * z1 + 0)
      rw [Int.mul_neg, Int.neg_mul]; omega
/-- at an integer -/
def hint (x : Int) : List Int → Int
  | [] => 0
  | c :: r => hint x r * x + c
theorem horner_real (x : Int) : ∀ (l : List Int), horner (x, 0) l = (hint x l, 0)
  | [] => rfl
  | c :: r => by simp only [horner, horner_real x r, gadd, gmul, hint, Int.mul_zero, Int.sub_zero, Int.zero_mul, Int.add_zero]
theorem hint_drop (x : Int) (l : List Int) (i : Nat) (h : i < l.length) : hint x (l.drop i) = hint x (l.drop (i + 1)) * x + l.getD i 0 := by
  rw [List.drop_eq_getElem_cons h, hint, List.getD_eq_getElem?_getD, List.getElem?_eq_getElem h]; rfl
end Go.Proofs.Ytihcbbkiifglmaa
namespace Go.Proofs.Ytihcbbkiifglmaa
/-! ### products -/
def mrow (O : List Int) (i : Nat) (a : Int) (b : List Int) : Nat → List Int
  | 0 => O
  | j + 1 => (mrow O i a b j).set (i + j) ((mrow O i a b j).getD (i + j) 0 + a * b.getD j 0)
def mulF (a b : List Int) (n : Nat) : Nat → List Int
  | 0 => List.replicate n 0
  | i + 1 => mrow (mulF a b n i) i (a.getD i 0) b b.length
theorem mrow_len (O : List Int) (i : Nat) (a : Int) (b : List Int) : ∀ j, (mrow O i a b j).length = O.length
  | 0 => rfl
  | j + 1 => by rw [mrow, List.length_set, mrow_len O i a b j]
theorem mulF_len (a b : List Int) (n : Nat) : ∀ i, (mulF a b n i).length = n
  | 0 => by simp [mulF]
  | i + 1 => by rw [mulF, mrow_len, mulF_len a b n i]
theorem take_snoc' (l : List Int) (k : Nat) (h : k < l.length) : l.take (k + 1) = l.take k ++ [l.getD k 0] := by
  rw [List.take_succ_eq_append_getElem h, List.getD_eq_getElem?_getD, List.getElem?_eq_getElem h]; rfl
theorem horner_mrow (z : GZ) (O : List Int) (i : Nat) (a : Int) (b : List Int) (h : i + b.length ≤ O.length) : ∀ j, j ≤ b.length → horner z (mrow O i a b j) = gadd (horner z O) (gmul (gmul (a, 0) (gpow z i)) (horner z (b.take j)))
  | 0, _ => by rw [mrow, List.take_zero, horner, gmul_comm, gmul_0, gadd0]
  | j + 1, hj => by
    rw [mrow, horner_set z _ _ _ (by rw [mrow_len]; omega), horner_mrow z O i a b h j (by omega), take_snoc' b j (by omega), horner_snoc', List.length_take, Nat.min_eq_left (by omega), gadd_assoc]
    congr 1
    rw [gpow_add, gmul_real]
    rw [gmul_comm (gmul (a, 0) (gpow z i)) (gadd _ _), gmul_add, gmul_comm (horner z (b.take j)), gmul_comm (gmul (b.getD j 0, 0) (gpow z j))]
theorem horner_mulF (z : GZ) (a b : List Int) (n : Nat) (h : a.length + b.length ≤ n + 1) : ∀ i, i ≤ a.length → horner z (mulF a b n i) = gmul (horner z (a.take i)) (horner z b)
  | 0, _ => by rw [mulF, horner_rep0, List.take_zero, horner, gmul_0]
  | i + 1, hi => by
    rw [mulF, horner_mrow z _ i _ b (by rw [mulF_len]; omega) b.length (Nat.le_refl _), List.take_length, horner_mulF z a b n h i (by omega), take_snoc' a i (by omega), horner_snoc', List.length_take, Nat.min_eq_left (by omega), gmul_add]
theorem getD_set5 (l : List Int) (n k : Nat) (x : Int) : (l.set n x).getD k 0 = if n = k then (if n < l.length then x else 0) else l.getD k 0 := by
  rw [List.getD_eq_getElem?_getD, List.getElem?_set, List.getD_eq_getElem?_getD]
  by_cases h : n = k
  · rw [if_pos h, if_pos h]
    split <;> rfl
  · rw [if_neg h, if_neg h]
theorem mrow_Cb {O b : List Int} {i m : Nat} {a : Int} (ha : a.natAbs ≤ m) (hb : Cb b m) : ∀ (j k : Nat), ((mrow O i a b j).getD k 0).natAbs ≤ (O.getD k 0).natAbs + (if i ≤ k ∧ k < i + j then m * m else 0)
  | 0, k => by rw [mrow]; omega
  | j + 1, k => by
    have ih := mrow_Cb (O := O) (i := i) ha hb j k
    have hp : (a * b.getD j 0).natAbs ≤ m * m := by rw [Int.natAbs_mul]; exact Nat.mul_le_mul ha (hb j)
    rw [mrow, getD_set5]
    generalize a * b.getD j 0 = h at *
    generalize m * m = mm at *
    by_cases hk : i + j = k
    · subst hk
      rw [if_neg (by omega)] at ih
      rw [if_pos rfl, if_pos (show i ≤ i + j ∧ i + j < i + (j + 1) by omega)]
      generalize (mrow O i a b j).getD (i + j) 0 = u at *
      generalize O.getD (i + j) 0 = v at *
      split <;> omega
    · rw [if_neg hk]
      by_cases h2 : i ≤ k ∧ k < i + j
      · rw [if_pos h2] at ih
        rw [if_pos (by omega)]; exact ih
      · rw [if_neg h2] at ih
        refine Nat.le_trans ih (Nat.le_add_right _ _)
theorem mulF_Cb {a b : List Int} {n m : Nat} (ha : Cb a m) (hb : Cb b m) : ∀ i, Cb (mulF a b n i) (i * (m * m))
  | 0 => fun k => by
    rw [mulF, List.getD_eq_getElem?_getD, List.getElem?_replicate]
    split <;> simp
  | i + 1 => fun k => by
    have h1 := mulF_Cb (n := n) ha hb i k
    have h2 := mrow_Cb (O := mulF a b n i) (i := i) (ha i) hb b.length k
    rw [mulF]
    refine Nat.le_trans h2 ?_
    rw [Nat.succ_mul]
    split <;> omega
/-- the product, without the zeros above -/
def mull (a b : List Int) : List Int := if a.length = 0 ∨ b.length = 0 then [] else tzi (mulF a b (a.length + b.length - 1) a.length)
theorem horner_mull (z : GZ) (a b : List Int) : horner z (mull a b) = gmul (horner z a) (horner z b) := by
  unfold mull
  split
  · rename_i h
    rcases h with h | h
    · rw [List.eq_nil_of_length_eq_zero h, horner, gmul_0]
    · rw [List.eq_nil_of_length_eq_zero h, horner, gmul_comm, gmul_0]
  · rename_i h
    rw [horner_tzi, horner_mulF z a b _ (by omega) a.length (Nat.le_refl _), List.take_length]
theorem Cb_tzi {l : List Int} {m : Nat} (h : Cb l m) : Cb (tzi l) m := fun i => by
  rw [← tzi_take, List.getD_eq_getElem?_getD, List.getElem?_take]
  split
  · have := h i; rwa [List.getD_eq_getElem?_getD] at this
  · simp
theorem Cb_mem {l : List Int} {m : Nat} (h : Cb l m) : ∀ c, c ∈ l → c.natAbs ≤ m := fun c hc => by
  obtain ⟨i, hi⟩ := List.getElem?_of_mem hc
  have := h i
  rwa [List.getD_eq_getElem?_getD, hi] at this
theorem Cb_le {l : List Int} {m n : Nat} (h : Cb l m) (hn : m ≤ n) : Cb l n := fun i => Nat.le_trans (h i) hn
theorem addl_Cb {a b : List Int} {m n : Nat} (ha : Cb a m) (hb : Cb b n) : Cb (addl a b) (m + n) := fun i => by
  rw [addl_get]; have := ha i; have := hb i; omega
theorem mull_Cb {a b : List Int} {m : Nat} (ha : Cb a m) (hb : Cb b m) : Cb (mull a b) (a.length * (m * m)) := by
  unfold mull
  split
  · intro i; simp
  · exact Cb_tzi (mulF_Cb ha hb _)
theorem mull_len (a b : List Int) : (mull a b).length ≤ a.length + b.length := by
  unfold mull
  split
  · exact Nat.zero_le _
  · exact Nat.le_trans (tzi_len _) (by rw [mulF_len]; omega)
end Go.Proofs.Ytihcbbkiifglmaa
