/-
  Polynomials over the rationals, plain: rows without zeros behind, fractions of one denominator, the long division.
-/
import Derived.Test.YtbkpaeejjepnpaaGreatT0
namespace Go.Proofs.YtbkpaeejjepnpaaGreat
set_option linter.unusedSimpArgs false
set_option linter.unusedVariables false
set_option maxHeartbeats 10000000
def tzq : List Rat → List Rat
  | [] => []
  | x :: r => if x = 0 ∧ tzq r = [] then [] else x :: tzq r
theorem tzq_split : ∀ (l : List Rat), ∃ n, l = tzq l ++ List.replicate n 0
  | [] => ⟨0, rfl⟩
  | x :: l => by
    obtain ⟨n, h⟩ := tzq_split l
    simp only [tzq]
    split
    · rename_i hx
      refine ⟨n + 1, ?_⟩
      rw [hx.2] at h
      rw [List.replicate_succ, h, hx.1]; simp
    · exact ⟨n, by rw [List.cons_append, ← h]⟩
theorem tzq_len (l : List Rat) : (tzq l).length ≤ l.length := by
  obtain ⟨n, h⟩ := tzq_split l
  have := congrArg List.length h
  simp at this; omega
theorem tzq_rep (n : Nat) : tzq (List.replicate n 0) = [] := by
  induction n with
  | zero => rfl
  | succ n ih => rw [List.replicate_succ, tzq, ih]; simp
theorem tzq_app_rep : ∀ (l : List Rat) (n : Nat), tzq (l ++ List.replicate n 0) = tzq l
  | [], n => tzq_rep n
  | x :: l, n => by simp only [List.cons_append, tzq, tzq_app_rep l n]
theorem tzq_zero (l : List Rat) (i : Nat) (hi : i < l.length) (h0 : l.getD i 0 = 0) : tzq (l.take (i + 1)) = tzq (l.take i) := by
  rw [List.take_succ_eq_append_getElem hi]
  have : l[i] = 0 := by rw [List.getD_eq_getElem?_getD, List.getElem?_eq_getElem hi] at h0; exact h0
  rw [this]
  exact tzq_app_rep _ 1
theorem tzq_last : ∀ (l : List Rat) (x : Rat), x ≠ 0 → tzq (l ++ [x]) = l ++ [x]
  | [], x, h => by simp [tzq, h]
  | y :: l, x, h => by simp [tzq, tzq_last l x h]
theorem tzq_top (l : List Rat) (i : Nat) (hi : i < l.length) (h0 : l.getD i 0 ≠ 0) : tzq (l.take (i + 1)) = l.take (i + 1) := by
  rw [List.take_succ_eq_append_getElem hi, tzq_last _ _ (by rw [List.getD_eq_getElem?_getD, List.getElem?_eq_getElem hi] at h0; exact h0)]
theorem gq0 {l : List Rat} {k : Nat} (h : l.length ≤ k) : l.getD k 0 = 0 := by rw [List.getD_eq_getElem?_getD, List.getElem?_eq_none h]; rfl
theorem tzq_cf (l : List Rat) (k : Nat) : (tzq l).getD k 0 = l.getD k 0 := by
  obtain ⟨n, h⟩ := tzq_split l
  conv => rhs; rw [h]
  by_cases hk : k < (tzq l).length
  · rw [List.getD_eq_getElem?_getD, List.getD_eq_getElem?_getD, List.getElem?_append_left hk]
  · rw [gq0 (by omega), List.getD_eq_getElem?_getD, List.getElem?_append_right (by omega), List.getElem?_replicate]
    split <;> rfl
theorem tzq_all0 : ∀ {l : List Rat}, (∀ k, l.getD k 0 = 0) → tzq l = []
  | [], _ => rfl
  | x :: r, h => by
    have h0 := h 0
    have := tzq_all0 (l := r) fun k => by have := h (k + 1); simpa using this
    simp only [List.getD_cons_zero] at h0
    simp only [tzq, h0, this, and_self, if_true]
theorem tzq_ext : ∀ {a b : List Rat}, (∀ k, a.getD k 0 = b.getD k 0) → tzq a = tzq b
  | [], b, h => (tzq_all0 fun k => (h k).symm.trans (by simp)).symm
  | x :: a, [], h => tzq_all0 fun k => (h k).trans (by simp)
  | x :: a, y :: b, h => by
    have h0 := h 0
    simp only [List.getD_cons_zero] at h0
    have := tzq_ext (a := a) (b := b) fun k => by have := h (k + 1); simpa using this
    simp only [tzq, h0, this]
theorem tzq_idem (l : List Rat) : tzq (tzq l) = tzq l := tzq_ext fun k => tzq_cf l k
def sq (f : Nat → Rat) : Nat → Rat
  | 0 => 0
  | n + 1 => sq f n + f n
theorem sq_congr {f g : Nat → Rat} : ∀ {n : Nat}, (∀ i, i < n → f i = g i) → sq f n = sq g n
  | 0, _ => rfl
  | n + 1, h => by simp only [sq, sq_congr fun i hi => h i (Nat.lt_succ_of_lt hi), h n (Nat.lt_succ_self n)]
theorem sq_zero {f : Nat → Rat} : ∀ {n : Nat}, (∀ i, i < n → f i = 0) → sq f n = 0
  | 0, _ => rfl
  | n + 1, h => by simp only [sq, sq_zero fun i hi => h i (Nat.lt_succ_of_lt hi), h n (Nat.lt_succ_self n)]; grind
def cvq (f g : Nat → Rat) (k : Nat) : Rat := sq (fun i => f i * g (k - i)) (k + 1)
def Fq (x : Rat) (E M : Nat) : Prop := ∃ N : Int, x = (N : Rat) / (E : Rat) ∧ N.natAbs ≤ M
theorem ratE {E : Nat} (h : E ≠ 0) : (E : Rat) ≠ 0 := by exact_mod_cast h
theorem Fq_mk {x : Rat} {E M : Nat} (h : Fq x E M) : ∃ N : Int, x = mkRat N E ∧ N.natAbs ≤ M := by
  obtain ⟨N, h1, h2⟩ := h
  exact ⟨N, by rw [h1, Rat.mkRat_eq_div], h2⟩
theorem Fq_sz {x : Rat} {E M : Nat} (hE : E ≠ 0) (h : Fq x E M) : x.num.natAbs ≤ M ∧ x.den ≤ E ∧ x.den ∣ E := by
  obtain ⟨N, h1, h2⟩ := Fq_mk h
  have hd : x.den = E / Nat.gcd N.natAbs E := by rw [h1, Rat.den_mkRat, if_neg hE, Nat.gcd_comm]
  have hn : x.num = N / (Nat.gcd N.natAbs E : Int) := by rw [h1, Rat.num_mkRat, if_neg hE, Nat.gcd_comm]
  have hg : Nat.gcd N.natAbs E ∣ E := Nat.gcd_dvd_right _ _
  have hgn : (Nat.gcd N.natAbs E : Int) ∣ N := Int.ofNat_dvd_left.2 (Nat.gcd_dvd_left _ _)
  refine ⟨?_, ?_, ?_⟩
  · rw [hn, ← Int.tdiv_eq_ediv_of_dvd hgn, Int.natAbs_tdiv]
    exact Nat.le_trans (Nat.div_le_self _ _) h2
  · rw [hd]; exact Nat.div_le_self _ _
  · rw [hd]; exact Nat.div_dvd_of_dvd hg
theorem Fq_zero {E M : Nat} : Fq 0 E M := ⟨0, by rw [Rat.div_def]; simp, by simp⟩
theorem Fq_le {x : Rat} {E M M' : Nat} (h : Fq x E M) (k : M ≤ M') : Fq x E M' := by
  obtain ⟨N, h1, h2⟩ := h
  exact ⟨N, h1, Nat.le_trans h2 k⟩
theorem Fq_add {x y : Rat} {E M M' : Nat} (h : Fq x E M) (k : Fq y E M') : Fq (x + y) E (M + M') := by
  obtain ⟨N, h1, h2⟩ := h
  obtain ⟨K, k1, k2⟩ := k
  refine ⟨N + K, ?_, Nat.le_trans (Int.natAbs_add_le _ _) (by omega)⟩
  rw [h1, k1, Rat.intCast_add]
  simp only [Rat.div_def]; grind
theorem Fq_sub {x y : Rat} {E M M' : Nat} (h : Fq x E M) (k : Fq y E M') : Fq (x - y) E (M + M') := by
  obtain ⟨N, h1, h2⟩ := h
  obtain ⟨K, k1, k2⟩ := k
  refine ⟨N - K, ?_, Nat.le_trans (Int.natAbs_sub_le _ _) (by omega)⟩
  rw [h1, k1, Rat.intCast_sub]
  simp only [Rat.div_def]; grind
theorem Fq_mul {x y : Rat} {E M E' M' : Nat} (hE : E ≠ 0) (hE' : E' ≠ 0) (h : Fq x E M) (k : Fq y E' M') : Fq (x * y) (E * E') (M * M') := by
  obtain ⟨N, h1, h2⟩ := h
  obtain ⟨K, k1, k2⟩ := k
  refine ⟨N * K, ?_, by rw [Int.natAbs_mul]; exact Nat.mul_le_mul h2 k2⟩
  have e1 := ratE hE
  have e2 := ratE hE'
  rw [h1, k1, Rat.intCast_mul, Rat.natCast_mul]
  grind
theorem Fq_up {x : Rat} {E M k : Nat} (hE : E ≠ 0) (hk : k ≠ 0) (h : Fq x E M) : Fq x (E * k) (M * k) := by
  obtain ⟨N, h1, h2⟩ := h
  refine ⟨N * (k : Int), ?_, by rw [Int.natAbs_mul]; exact Nat.mul_le_mul h2 (by simp)⟩
  have e1 := ratE hE
  have e2 := ratE hk
  rw [h1, Rat.intCast_mul, Rat.natCast_mul, Rat.intCast_natCast]
  grind
def PB (l : List Rat) (E M : Nat) : Prop := E ≠ 0 ∧ ∀ i, Fq (l.getD i 0) E M
def Cq (l : List Rat) (m : Nat) : Prop := ∀ i, (l.getD i 0).num.natAbs < B ^ m ∧ (l.getD i 0).den < B ^ m
theorem PB_Cq {l : List Rat} {E M m : Nat} (h : PB l E M) (hE : E < B ^ m) (hM : M < B ^ m) : Cq l m := fun i => by
  obtain ⟨h1, h2, _⟩ := Fq_sz h.1 (h.2 i)
  exact ⟨Nat.lt_of_le_of_lt h1 hM, Nat.lt_of_le_of_lt h2 hE⟩
theorem Cq_tzq {l : List Rat} {m : Nat} (h : Cq l m) : Cq (tzq l) m := fun i => by rw [tzq_cf]; exact h i
structure Dv (p b rest quo : List Rat) (E P L D M j : Nat) : Prop where
  ht : tzq rest = rest
  hj : rest.length + j ≤ p.length
  hl : quo.length = p.length + 1 - b.length
  hz : ∀ i, i + b.length ≤ rest.length → quo.getD i 0 = 0
  he : ∀ k, p.getD k 0 = cvq (fun i => quo.getD i 0) (fun i => b.getD i 0) k + rest.getD k 0
  hr : PB rest (E * L ^ j) (P * (2 * M) ^ j)
  hq : PB quo (E * L ^ j) (P * (2 * M) ^ j * D)
structure By (b : List Rat) (L D M : Nat) : Prop where
  ht : tzq b = b
  h0 : 0 < b.length
  D0 : D ≠ 0
  L0 : L ≠ 0
  LM : L ≤ M
  hb : ∀ i, ∃ K : Int, b.getD i 0 = (K : Rat) / (D : Rat) ∧ K.natAbs ≤ M
  hL : ∃ K : Int, b.getD (b.length - 1) 0 = (K : Rat) / (D : Rat) ∧ K.natAbs = L
end Go.Proofs.YtbkpaeejjepnpaaGreat
