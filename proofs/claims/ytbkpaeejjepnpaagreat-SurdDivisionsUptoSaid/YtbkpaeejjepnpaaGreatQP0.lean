/-
  Polynomials over the rationals, plain: rows without zeros behind, fractions of one denominator, the long division.
-/
import Derived.Test.YtbkpaeejjepnpaaGreatT0
namespace Go.Proofs.YtbkpaeejjepnpaaGreat
set_option linter.unusedSimpArgs false
set_option linter.unusedVariables false
set_option maxHeartbeats 10000000
def tzq : List Rat → List Rat
  | [] => []
  | x :: r => if x = 0 ∧ tzq r = [] then [] else x :: tzq r
theorem tzq_split : ∀ (l : List Rat), ∃ n, l = tzq l ++ List.replicate n 0
  | [] => ⟨0, rfl⟩
  | x :: l => by
    obtain ⟨n, h⟩ := tzq_split l
    simp only [tzq]
    split
    · rename_i hx
      refine ⟨n + 1, ?_⟩
      rw [hx.2] at h
      rw [List.replicate_succ, h, hx.1]; simp
    · exact ⟨n, by rw [List.cons_append, ← h]⟩
theorem tzq_len (l : List Rat) : (tzq l).length ≤ l.length := by
  obtain ⟨n, h⟩ := tzq_split l
  have := congrArg List.length h
  simp at this; omega
theorem tzq_rep (n : Nat) : tzq (List.replicate n 0) = [] := by
  induction n with
  | zero => rfl
  | succ n ih => rw [List.replicate_succ, tzq, ih]; simp
theorem tzq_app_rep : ∀ (l : List Rat) (n : Nat), tzq (l ++ List.replicate n 0) = tzq l
  | [], n => tzq_rep n
  | x :: l, n => by simp only [List.cons_append, tzq, tzq_app_rep l n]
theorem tzq_zero (l : List Rat) (i : Nat) (hi : i < l.length) (h0 : l.getD i 0 = 0) : tzq (l.take (i + 1)) = tzq (l.take i) := by
  rw [List.take_succ_eq_append_getElem hi]
  have : l[i] = 0 := by rw [List.getD_eq_getElem?_getD, List.getElem?_eq_getElem hi] at h0; exact h0
  rw [this]
  exact tzq_app_rep _ 1
theorem tzq_last : ∀ (l : List Rat) (x : Rat), x ≠ 0 → tzq (l ++ [x]) = l ++ [x]
  | [], x, h => by simp [tzq, h]
  | y :: l, x, h => by simp [tzq, tzq_last l x h]
theorem tzq_top (l : List Rat) (i : Nat) (hi : i < l.length) (h0 : l.getD i 0 ≠ 0) : tzq (l.take (i + 1)) = l.take (i + 1) := by
  rw [List.take_succ_eq_append_getElem hi, tzq_last _ _ (by rw [List.getD_eq_getElem?_getD, List.getElem?_eq_getElem hi] at h0; exact h0)]
theorem gq0 {l : List Rat} {k : Nat} (h : l.length ≤ k) : l.getD k 0 = 0 := by rw [List.getD_eq_getElem?_getD, List.getElem?_eq_none h]; rfl
theorem tzq_cf (l : List Rat) (k : Nat) : (tzq l).getD k 0 = l.getD k 0 := by
  obtain ⟨n, h⟩ := tzq_split l
  conv => rhs; rw [h]
  by_cases hk : k < (tzq l).length
  · rw [List.getD_eq_getElem?_getD, List.getD_eq_getElem?_getD, List.getElem?_append_left hk]
  · rw [gq0 (by omega), List.getD_eq_getElem?_getD, List.getElem?_append_right (by omega), List.getElem?_replicate]
    split <;> rfl
theorem tzq_all0 : ∀ {l : List Rat}, (∀ k, l.getD k 0 = 0) → tzq l = []
  | [], _ => rfl
  | x :: r, h => by
    have h0 := h 0
    have := tzq_all0 (l := r) fun k => by have := h (k + 1); simpa using this
    simp only [List.getD_cons_zero] at h0
    simp only [tzq, h0, this, and_self, if_true]
theorem tzq_ext : ∀ {a b : List Rat}, (∀ k, a.getD k 0 = b.getD k 0) → tzq a = tzq b
  | [], b, h => (tzq_all0 fun k => (h k).symm.trans (by simp)).symm
  | x :: a, [], h => tzq_all0 fun k => (h k).trans (by simp)
  | x :: a, y :: b, h => by
    have h0 := h 0
    simp only [List.getD_cons_zero] at h0
    have := tzq_ext (a := a) (b := b) fun k => by have := h (k + 1); simpa using this
    simp only [tzq, h0, this]
theorem tzq_idem (l : List Rat) : tzq (tzq l) = tzq l := tzq_ext fun k => tzq_cf l k
theorem tzq_lead {a : List Rat} (ha : tzq a = a) (h : 0 < a.length) : a.getD (a.length - 1) 0 ≠ 0 := by
  intro h0
  have h1 := tzq_zero a (a.length - 1) (by omega) h0
  rw [show a.length - 1 + 1 = a.length from by omega, List.take_length, ha] at h1
  have h2 := congrArg List.length h1
  have h3 := tzq_len (a.take (a.length - 1))
  rw [List.length_take] at h3
  omega
theorem tzq_eq {a b : List Rat} (ha : tzq a = a) (hb : tzq b = b) (h : ∀ k, a.getD k 0 = b.getD k 0) : a = b := by rw [← ha, ← hb]; exact tzq_ext h
def sq (f : Nat → Rat) : Nat → Rat
  | 0 => 0
  | n + 1 => sq f n + f n
theorem sq_congr {f g : Nat → Rat} : ∀ {n : Nat}, (∀ i, i < n → f i = g i) → sq f n = sq g n
  | 0, _ => rfl
  | n + 1, h => by simp only [sq, sq_congr fun i hi => h i (Nat.lt_succ_of_lt hi), h n (Nat.lt_succ_self n)]
theorem sq_add (f g : Nat → Rat) : ∀ n, sq (fun i => f i + g i) n = sq f n + sq g n
  | 0 => by simp only [sq]; grind
  | n + 1 => by simp only [sq, sq_add f g n]; grind
theorem sq_zero {f : Nat → Rat} : ∀ {n : Nat}, (∀ i, i < n → f i = 0) → sq f n = 0
  | 0, _ => rfl
  | n + 1, h => by simp only [sq, sq_zero fun i hi => h i (Nat.lt_succ_of_lt hi), h n (Nat.lt_succ_self n)]; grind
theorem sq_one {f : Nat → Rat} {i : Nat} : ∀ {n : Nat}, i < n → (∀ u, u < n → u ≠ i → f u = 0) → sq f n = f i
  | 0, h, _ => by omega
  | n + 1, h, h0 => by
    rw [sq]
    by_cases e : i = n
    · subst e
      rw [sq_zero fun u hu => h0 u (by omega) (by omega)]; grind
    · rw [sq_one (show i < n by omega) fun u hu he => h0 u (by omega) he, h0 n (by omega) (Ne.symm e)]; grind
def cvq (f g : Nat → Rat) (k : Nat) : Rat := sq (fun i => f i * g (k - i)) (k + 1)
theorem cvq_congr {f g f' g' : Nat → Rat} (hf : ∀ i, f i = f' i) (hg : ∀ i, g i = g' i) (k : Nat) : cvq f g k = cvq f' g' k := sq_congr fun i _ => by rw [hf, hg]
def Fq (x : Rat) (E M : Nat) : Prop := ∃ N : Int, x = (N : Rat) / (E : Rat) ∧ N.natAbs ≤ M
theorem ratE {E : Nat} (h : E ≠ 0) : (E : Rat) ≠ 0 := by exact_mod_cast h
theorem Fq_mk {x : Rat} {E M : Nat} (h : Fq x E M) : ∃ N : Int, x = mkRat N E ∧ N.natAbs ≤ M := by
  obtain ⟨N, h1, h2⟩ := h
  exact ⟨N, by rw [h1, Rat.mkRat_eq_div], h2⟩
theorem Fq_sz {x : Rat} {E M : Nat} (hE : E ≠ 0) (h : Fq x E M) : x.num.natAbs ≤ M ∧ x.den ≤ E ∧ x.den ∣ E := by
  obtain ⟨N, h1, h2⟩ := Fq_mk h
  have hd : x.den = E / Nat.gcd N.natAbs E := by rw [h1, Rat.den_mkRat, if_neg hE, Nat.gcd_comm]
  have hn : x.num = N / (Nat.gcd N.natAbs E : Int) := by rw [h1, Rat.num_mkRat, if_neg hE, Nat.gcd_comm]
  have hg : Nat.gcd N.natAbs E ∣ E := Nat.gcd_dvd_right _ _
  have hgn : (Nat.gcd N.natAbs E : Int) ∣ N := Int.ofNat_dvd_left.2 (Nat.gcd_dvd_left _ _)
  refine ⟨?_, ?_, ?_⟩
  · rw [hn, ← Int.tdiv_eq_ediv_of_dvd hgn, Int.natAbs_tdiv]
    exact Nat.le_trans (Nat.div_le_self _ _) h2
  · rw [hd]; exact Nat.div_le_self _ _
  · rw [hd]; exact Nat.div_dvd_of_dvd hg
theorem Fq_zero {E M : Nat} : Fq 0 E M := ⟨0, by rw [Rat.div_def]; simp, by simp⟩
theorem Fq_le {x : Rat} {E M M' : Nat} (h : Fq x E M) (k : M ≤ M') : Fq x E M' := by
  obtain ⟨N, h1, h2⟩ := h
  exact ⟨N, h1, Nat.le_trans h2 k⟩
theorem Fq_sub {x y : Rat} {E M M' : Nat} (h : Fq x E M) (k : Fq y E M') : Fq (x - y) E (M + M') := by
  obtain ⟨N, h1, h2⟩ := h
  obtain ⟨K, k1, k2⟩ := k
  refine ⟨N - K, ?_, Nat.le_trans (Int.natAbs_sub_le _ _) (by omega)⟩
  rw [h1, k1, Rat.intCast_sub]
  simp only [Rat.div_def]; grind
theorem Fq_up {x : Rat} {E M k : Nat} (hE : E ≠ 0) (hk : k ≠ 0) (h : Fq x E M) : Fq x (E * k) (M * k) := by
  obtain ⟨N, h1, h2⟩ := h
  refine ⟨N * (k : Int), ?_, by rw [Int.natAbs_mul]; exact Nat.mul_le_mul h2 (by simp)⟩
  have e1 := ratE hE
  have e2 := ratE hk
  rw [h1, Rat.intCast_mul, Rat.natCast_mul, Rat.intCast_natCast]
  grind
theorem Fq_div {x y : Rat} {E M D Q : Nat} (hE : E ≠ 0) (hD : D ≠ 0) (h : Fq x E M) {K : Int} (hy : y = (K : Rat) / (D : Rat)) (hK : K.natAbs = Q) (hQ : Q ≠ 0) : Fq (x / y) (E * Q) (M * D) := by
  obtain ⟨N, h1, h2⟩ := h
  have e1 := ratE hE
  have e2 := ratE hD
  have e3 := ratE hQ
  rcases Int.natAbs_eq K with hk | hk
  · refine ⟨N * (D : Int), ?_, by rw [Int.natAbs_mul]; exact Nat.mul_le_mul h2 (by simp)⟩
    rw [hK] at hk
    have ek : (K : Rat) = (Q : Rat) := by rw [hk, Rat.intCast_natCast]
    rw [h1, hy, ek, Rat.intCast_mul, Rat.natCast_mul]
    rw [Rat.intCast_natCast]
    grind
  · refine ⟨-(N * (D : Int)), ?_, by rw [Int.natAbs_neg, Int.natAbs_mul]; exact Nat.mul_le_mul h2 (by simp)⟩
    rw [hK] at hk
    have ek : (K : Rat) = -(Q : Rat) := by rw [hk, Rat.intCast_neg, Rat.intCast_natCast]
    rw [h1, hy, ek, Rat.intCast_neg, Rat.intCast_mul, Rat.natCast_mul]
    rw [Rat.intCast_natCast]
    grind
def PB (l : List Rat) (E M : Nat) : Prop := E ≠ 0 ∧ ∀ i, Fq (l.getD i 0) E M
def Cq (l : List Rat) (m : Nat) : Prop := ∀ i, (l.getD i 0).num.natAbs < B ^ m ∧ (l.getD i 0).den < B ^ m
theorem PB_Cq {l : List Rat} {E M m : Nat} (h : PB l E M) (hE : E < B ^ m) (hM : M < B ^ m) : Cq l m := fun i => by
  obtain ⟨h1, h2, _⟩ := Fq_sz h.1 (h.2 i)
  exact ⟨Nat.lt_of_le_of_lt h1 hM, Nat.lt_of_le_of_lt h2 hE⟩
theorem PB_tzq {l : List Rat} {E M : Nat} (h : PB l E M) : PB (tzq l) E M := ⟨h.1, fun i => by rw [tzq_cf]; exact h.2 i⟩
theorem Cq_tzq {l : List Rat} {m : Nat} (h : Cq l m) : Cq (tzq l) m := fun i => by rw [tzq_cf]; exact h i
def srow (O : List Rat) (a : Nat) (c : Rat) (b : List Rat) : Nat → List Rat
  | 0 => O
  | j + 1 => (srow O a c b j).set (a + j) ((srow O a c b j).getD (a + j) 0 - c * b.getD j 0)
theorem srow_len (O : List Rat) (a : Nat) (c : Rat) (b : List Rat) : ∀ j, (srow O a c b j).length = O.length
  | 0 => rfl
  | j + 1 => by simp only [srow, List.length_set, srow_len O a c b j]
theorem getD_setq (l : List Rat) (i k : Nat) (x : Rat) : (l.set i x).getD k 0 = if i = k ∧ i < l.length then x else l.getD k 0 := by
  simp only [List.getD_eq_getElem?_getD, List.getElem?_set]
  by_cases h : i = k
  · subst h
    by_cases h2 : i < l.length
    · simp [h2]
    · simp [h2]
  · simp [h]
theorem srow_cf (O : List Rat) (a : Nat) (c : Rat) (b : List Rat) (k : Nat) (hk : a + b.length ≤ O.length) : ∀ j, j ≤ b.length → (srow O a c b j).getD k 0 = O.getD k 0 - (if a ≤ k ∧ k < a + j then c * b.getD (k - a) 0 else 0)
  | 0, _ => by
    rw [if_neg (by omega)]; simp only [srow]; grind
  | j + 1, hj => by
    have ih := srow_cf O a c b k hk j (by omega)
    simp only [srow]
    rw [getD_setq, srow_len]
    by_cases h : a + j = k
    · have ihk := srow_cf O a c b (a + j) hk j (by omega)
      rw [if_neg (by omega)] at ihk
      rw [if_pos ⟨h, by omega⟩, if_pos (by omega), ihk, ← h, show a + j - a = j from by omega]
      grind
    · rw [if_neg (by omega), ih]
      by_cases h2 : a ≤ k ∧ k < a + j
      · rw [if_pos h2, if_pos (by omega)]
      · rw [if_neg h2, if_neg (by omega)]
theorem cvq_set {q : List Rat} {g : Nat → Rat} {a : Nat} {c : Rat} (ha : a < q.length) (h0 : q.getD a 0 = 0) (k : Nat) : cvq (fun i => (q.set a c).getD i 0) g k = cvq (fun i => q.getD i 0) g k + (if a ≤ k then c * g (k - a) else 0) := by
  have e : ∀ i, (q.set a c).getD i 0 = q.getD i 0 + (if i = a then c else 0) := fun i => by
    rw [getD_setq]
    by_cases h : i = a
    · subst h; rw [if_pos ⟨rfl, ha⟩, if_pos rfl, h0]; grind
    · rw [if_neg (fun hh => h hh.1.symm), if_neg h]; grind
  unfold cvq
  rw [show (fun i => (q.set a c).getD i 0 * g (k - i)) = fun i => q.getD i 0 * g (k - i) + (if i = a then c else 0) * g (k - i) from funext fun i => by rw [e i]; grind, sq_add]
  congr 1
  by_cases h : a ≤ k
  · rw [if_pos h, sq_one (i := a) (by omega) fun u hu he => by simp only [if_neg he]; grind]
    simp
  · rw [if_neg h]
    exact sq_zero fun i hi => by rw [if_neg (by omega)]; grind
structure Dv (p b rest quo : List Rat) (E P L D M j : Nat) : Prop where
  ht : tzq rest = rest
  hj : rest.length + j ≤ p.length
  hl : quo.length = p.length + 1 - b.length
  hz : ∀ i, i + b.length ≤ rest.length → quo.getD i 0 = 0
  he : ∀ k, p.getD k 0 = cvq (fun i => quo.getD i 0) (fun i => b.getD i 0) k + rest.getD k 0
  hr : PB rest (E * L ^ j) (P * (2 * M) ^ j)
  hq : PB quo (E * L ^ j) (P * (2 * M) ^ j * D)
structure By (b : List Rat) (L D M : Nat) : Prop where
  ht : tzq b = b
  h0 : 0 < b.length
  D0 : D ≠ 0
  L0 : L ≠ 0
  LM : L ≤ M
  hb : ∀ i, ∃ K : Int, b.getD i 0 = (K : Rat) / (D : Rat) ∧ K.natAbs ≤ M
  hL : ∃ K : Int, b.getD (b.length - 1) 0 = (K : Rat) / (D : Rat) ∧ K.natAbs = L
theorem Dv_step {p b rest quo : List Rat} {E P L D M j : Nat} (hb : By b L D M) (h : Dv p b rest quo E P L D M j) (hlen : b.length ≤ rest.length) :
    let a := rest.length - b.length
    let c := rest.getD (rest.length - 1) 0 / b.getD (b.length - 1) 0
    Fq c (E * L ^ (j + 1)) (P * (2 * M) ^ j * D) ∧ (∀ i, Fq (c * b.getD i 0) (E * L ^ (j + 1)) (P * (2 * M) ^ j * M)) ∧ a < quo.length ∧
    Dv p b (tzq (srow rest a c b b.length)) (quo.set a c) E P L D M (j + 1) ∧ (∀ u, u ≤ b.length → PB (srow rest a c b u) (E * L ^ (j + 1)) (P * (2 * M) ^ (j + 1))) ∧ (tzq (srow rest a c b b.length)).length + 1 ≤ rest.length := by
  intro a c
  obtain ⟨K, hK, hKL⟩ := hb.hL
  have hE := h.hr.1
  have h1 := Fq_div hE hb.D0 (h.hr.2 (rest.length - 1)) hK hKL hb.L0
  have eE : E * L ^ j * L = E * L ^ (j + 1) := by rw [Nat.pow_succ, Nat.mul_assoc]
  rw [eE] at h1
  have hE1 : E * L ^ (j + 1) ≠ 0 := by rw [← eE]; exact Nat.mul_ne_zero hE hb.L0
  have h2 : ∀ i, Fq (c * b.getD i 0) (E * L ^ (j + 1)) (P * (2 * M) ^ j * M) := fun i => by
    obtain ⟨Q, hQ, hQM⟩ := hb.hb i
    obtain ⟨N, hN, hNM⟩ := h.hr.2 (rest.length - 1)
    have e1 := ratE hE
    have e2 := ratE hb.D0
    have e3 := ratE hb.L0
    have e4 := ratE hE1
    have eE' : ((E * L ^ (j + 1) : Nat) : Rat) = ((E * L ^ j : Nat) : Rat) * (L : Rat) := by rw [← eE, Rat.natCast_mul]
    rcases Int.natAbs_eq K with hk | hk
    · rw [hKL] at hk
      have ek : (K : Rat) = (L : Rat) := by rw [hk, Rat.intCast_natCast]
      refine ⟨N * Q, ?_, by rw [Int.natAbs_mul]; exact Nat.mul_le_mul hNM hQM⟩
      show rest.getD (rest.length - 1) 0 / b.getD (b.length - 1) 0 * b.getD i 0 = _
      rw [hN, hK, hQ, ek, Rat.intCast_mul, eE']
      grind
    · rw [hKL] at hk
      have ek : (K : Rat) = -(L : Rat) := by rw [hk, Rat.intCast_neg, Rat.intCast_natCast]
      refine ⟨-(N * Q), ?_, by rw [Int.natAbs_neg, Int.natAbs_mul]; exact Nat.mul_le_mul hNM hQM⟩
      show rest.getD (rest.length - 1) 0 / b.getD (b.length - 1) 0 * b.getD i 0 = _
      rw [hN, hK, hQ, ek, Rat.intCast_neg, Rat.intCast_mul, eE']
      grind
  have hp := h.hj
  have hbl := hb.h0
  have ha : a < quo.length := by rw [h.hl]; show rest.length - b.length < _; omega
  have cf : ∀ u, u ≤ b.length → ∀ k, (srow rest a c b u).getD k 0 = rest.getD k 0 - (if a ≤ k ∧ k < a + u then c * b.getD (k - a) 0 else 0) := fun u hu k => srow_cf rest a c b k (by show rest.length - b.length + b.length ≤ _; omega) u hu
  have eM : P * (2 * M) ^ (j + 1) = P * (2 * M) ^ j * M + P * (2 * M) ^ j * M := by rw [Nat.pow_succ, ← Nat.mul_assoc, Nat.mul_comm 2 M, ← Nat.mul_assoc, Nat.mul_two]
  have hR : ∀ u, u ≤ b.length → PB (srow rest a c b u) (E * L ^ (j + 1)) (P * (2 * M) ^ (j + 1)) := fun u hu => ⟨hE1, fun i => by
    rw [cf u hu i, eM]
    have k1 : Fq (rest.getD i 0) (E * L ^ (j + 1)) (P * (2 * M) ^ j * M) := by
      have := Fq_up hE hb.L0 (h.hr.2 i)
      rw [eE] at this
      exact Fq_le this (Nat.mul_le_mul_left _ hb.LM)
    split
    · exact Fq_sub k1 (h2 _)
    · exact Fq_sub k1 Fq_zero⟩
  have hsl := srow_len rest a c b b.length
  have hlast : (srow rest a c b b.length).getD (rest.length - 1) 0 = 0 := by
    rw [cf _ (Nat.le_refl _), if_pos (by show rest.length - b.length ≤ _ ∧ _ < rest.length - b.length + _; omega), show rest.length - 1 - a = b.length - 1 from by show rest.length - 1 - (rest.length - b.length) = _; omega]
    have hbn : b.getD (b.length - 1) 0 ≠ 0 := tzq_lead hb.ht hb.h0
    show rest.getD (rest.length - 1) 0 - rest.getD (rest.length - 1) 0 / b.getD (b.length - 1) 0 * b.getD (b.length - 1) 0 = 0
    grind
  have hshort : (tzq (srow rest a c b b.length)).length + 1 ≤ rest.length := by
    have h3 := tzq_zero (srow rest a c b b.length) (rest.length - 1) (by omega) hlast
    rw [show rest.length - 1 + 1 = (srow rest a c b b.length).length from by omega, List.take_length] at h3
    rw [h3]
    have := tzq_len ((srow rest a c b b.length).take (rest.length - 1))
    rw [List.length_take] at this
    omega
  refine ⟨h1, h2, ha, ⟨tzq_idem _, by omega, by rw [List.length_set]; exact h.hl, fun i hi => ?_, fun k => ?_, PB_tzq (hR _ (Nat.le_refl _)), ⟨hE1, fun i => ?_⟩⟩, hR, hshort⟩
  · rw [getD_setq, if_neg (by show ¬(rest.length - b.length = i ∧ _); omega)]
    exact h.hz i (by omega)
  · rw [cvq_set ha (h.hz a (by show rest.length - b.length + _ ≤ _; omega)), tzq_cf, cf _ (Nat.le_refl _), h.he k]
    by_cases h3 : a ≤ k
    · rw [if_pos h3]
      by_cases h4 : k < a + b.length
      · rw [if_pos ⟨h3, h4⟩]; grind
      · rw [if_neg (by omega), gq0 (l := b) (k := k - a) (by omega)]; grind
    · rw [if_neg h3, if_neg (by omega)]; grind
  · rw [getD_setq]
    have hDp : P * (2 * M) ^ j * D ≤ P * (2 * M) ^ (j + 1) * D := by
      refine Nat.mul_le_mul_right _ (Nat.mul_le_mul_left _ (Nat.pow_le_pow_right ?_ (Nat.le_succ j)))
      have := hb.LM; have := hb.L0; omega
    split
    · exact Fq_le h1 hDp
    · have k1 := Fq_up h.hq.1 hb.L0 (h.hq.2 i)
      rw [eE] at k1
      refine Fq_le k1 ?_
      have hle : P * (2 * M) ^ j * L ≤ P * (2 * M) ^ (j + 1) := by
        rw [Nat.pow_succ, ← Nat.mul_assoc]
        exact Nat.mul_le_mul_left _ (by have := hb.LM; omega)
      have := Nat.mul_le_mul_right D hle
      rwa [Nat.mul_right_comm _ D L]
theorem Dv_0 {p b : List Rat} {E P L D M : Nat} (ht : tzq p = p) (hD : D ≠ 0) (hp : PB p E P) : Dv p b p (List.replicate (p.length + 1 - b.length) 0) E P L D M 0 := by
  have hrep : ∀ i, (List.replicate (p.length + 1 - b.length) (0 : Rat)).getD i 0 = 0 := fun i => by
    rw [List.getD_eq_getElem?_getD, List.getElem?_replicate]; split <;> rfl
  refine ⟨ht, by omega, by simp, fun i _ => hrep i, fun k => ?_, by simpa using hp, ⟨by simpa using hp.1, fun i => by rw [hrep]; exact Fq_zero⟩⟩
  have : cvq (fun i => (List.replicate (p.length + 1 - b.length) (0 : Rat)).getD i 0) (fun i => b.getD i 0) k = 0 := sq_zero fun i _ => by simp only [hrep]; grind
  rw [this]; grind
end Go.Proofs.YtbkpaeejjepnpaaGreat
