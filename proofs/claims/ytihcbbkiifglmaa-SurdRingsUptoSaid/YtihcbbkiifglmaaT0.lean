/-
  Plain laws of polynomials: coefficients of products, derivatives, contents (Gauss).
-/
import Derived.Test.YtihcbbkiifglmaaH0
namespace Go.Proofs.Ytihcbbkiifglmaa
set_option linter.unusedSimpArgs false
set_option linter.unusedVariables false
set_option maxHeartbeats 10000000
/-! ### sums -/
def sm (f : Nat → Int) : Nat → Int
  | 0 => 0
  | n + 1 => sm f n + f n
theorem sm_congr {f g : Nat → Int} : ∀ {n : Nat}, (∀ i, i < n → f i = g i) → sm f n = sm g n
  | 0, _ => rfl
  | n + 1, h => by simp only [sm, sm_congr fun i hi => h i (Nat.lt_succ_of_lt hi), h n (Nat.lt_succ_self n)]
theorem sm_zero {f : Nat → Int} : ∀ {n : Nat}, (∀ i, i < n → f i = 0) → sm f n = 0
  | 0, _ => rfl
  | n + 1, h => by simp only [sm, sm_zero fun i hi => h i (Nat.lt_succ_of_lt hi), h n (Nat.lt_succ_self n), Int.add_zero]
theorem sm_add (f g : Nat → Int) : ∀ n, sm (fun i => f i + g i) n = sm f n + sm g n
  | 0 => rfl
  | n + 1 => by simp only [sm, sm_add f g n]; omega
theorem sm_mul (c : Int) (f : Nat → Int) : ∀ n, sm (fun i => c * f i) n = c * sm f n
  | 0 => by simp [sm]
  | n + 1 => by simp only [sm, sm_mul c f n, Int.mul_add]
theorem sm_front (f : Nat → Int) : ∀ n, sm f (n + 1) = f 0 + sm (fun i => f (i + 1)) n
  | 0 => by simp [sm]
  | n + 1 => by rw [sm, sm_front f n, sm]; omega
theorem sm_rev (f : Nat → Int) : ∀ n, sm f n = sm (fun i => f (n - 1 - i)) n
  | 0 => rfl
  | n + 1 => by
    rw [sm_front, sm_rev (fun i => f (i + 1)) n, sm]
    simp only [Nat.add_sub_cancel, Nat.sub_self]
    rw [Int.add_comm]
    congr 1
    exact sm_congr fun i hi => by rw [show n - 1 - i + 1 = n - i from by omega]
theorem sm_ext {f : Nat → Int} {n : Nat} : ∀ d, (∀ i, n ≤ i → f i = 0) → sm f (n + d) = sm f n
  | 0, _ => rfl
  | d + 1, h => by rw [← Nat.add_assoc, sm, sm_ext d h, h (n + d) (by omega), Int.add_zero]
theorem sm_one {f : Nat → Int} {i : Nat} : ∀ {n : Nat}, i < n → (∀ u, u < n → u ≠ i → f u = 0) → sm f n = f i
  | 0, h, _ => by omega
  | n + 1, h, h0 => by
    rw [sm]
    by_cases e : i = n
    · subst e
      rw [sm_zero fun u hu => h0 u (by omega) (by omega), Int.zero_add]
    · rw [sm_one (show i < n by omega) fun u hu he => h0 u (by omega) he, h0 n (by omega) (Ne.symm e), Int.add_zero]
theorem sm_dvd {p : Int} {f : Nat → Int} : ∀ {n : Nat}, (∀ i, i < n → p ∣ f i) → p ∣ sm f n
  | 0, _ => ⟨0, by simp [sm]⟩
  | n + 1, h => Int.dvd_add (sm_dvd fun i hi => h i (Nat.lt_succ_of_lt hi)) (h n (Nat.lt_succ_self n))
theorem sm_dvd1 {p : Int} {f : Nat → Int} {j : Nat} : ∀ {n : Nat}, j < n → (∀ i, i < n → i ≠ j → p ∣ f i) → p ∣ sm f n → p ∣ f j
  | 0, hj, _, _ => by omega
  | n + 1, hj, h, hs => by
    rw [sm] at hs
    by_cases e : j = n
    · subst e
      have h1 : p ∣ sm f j := sm_dvd fun i hi => h i (by omega) (by omega)
      have := Int.dvd_sub hs h1
      rwa [Int.add_comm, Int.add_sub_cancel] at this
    · have h1 := h n (by omega) (Ne.symm e)
      have := Int.dvd_sub hs h1
      rw [Int.add_sub_cancel] at this
      exact sm_dvd1 (by omega) (fun i hi he => h i (by omega) he) this
/-! ### products -/
def conv (f g : Nat → Int) (k : Nat) : Int := sm (fun i => f i * g (k - i)) (k + 1)
theorem conv_comm (f g : Nat → Int) (k : Nat) : conv f g k = conv g f k := by
  unfold conv
  rw [sm_rev]
  refine sm_congr fun i hi => ?_
  simp only [Nat.add_sub_cancel]
  rw [show k - (k - i) = i from by omega, Int.mul_comm]
theorem conv_add (f g h : Nat → Int) (k : Nat) : conv f (fun i => g i + h i) k = conv f g k + conv f h k := by
  unfold conv
  rw [← sm_add]
  exact sm_congr fun i _ => Int.mul_add _ _ _
theorem conv_congr {f g f' g' : Nat → Int} (hf : ∀ i, f i = f' i) (hg : ∀ i, g i = g' i) (k : Nat) : conv f g k = conv f' g' k := sm_congr fun i _ => by rw [hf, hg]
theorem conv_scale (c d : Int) (f g : Nat → Int) (k : Nat) : conv (fun i => c * f i) (fun i => d * g i) k = c * d * conv f g k := by
  unfold conv
  rw [← sm_mul]
  exact sm_congr fun i _ => by simp only [Int.mul_assoc, Int.mul_left_comm]
def Dr (f : Nat → Int) (i : Nat) : Int := f (i + 1) * ((i + 1 : Nat) : Int)
theorem conv_deriv (f g : Nat → Int) (k : Nat) : Dr (conv f g) k = conv (Dr f) g k + conv f (Dr g) k := by
  have e : Dr (conv f g) k = sm (fun i => f i * ((i : Nat) : Int) * g (k + 1 - i) + f i * (g (k + 1 - i) * ((k + 1 - i : Nat) : Int))) (k + 1 + 1) := by
    unfold Dr conv
    rw [Int.mul_comm, ← sm_mul]
    refine sm_congr fun i hi => ?_
    have : ((k + 1 : Nat) : Int) = (i : Int) + ((k + 1 - i : Nat) : Int) := by omega
    rw [this, Int.add_mul]
    congr 1
    · rw [← Int.mul_assoc, Int.mul_comm (i : Int) (f i)]
    · rw [Int.mul_comm _ (f i * _), Int.mul_assoc]
  rw [e, sm_add]
  congr 1
  · rw [sm_front]
    simp only [Int.mul_zero, Int.natCast_zero, Int.zero_mul, Int.zero_add, show ((0 : Nat) : Int) = 0 from rfl]
    exact sm_congr fun i hi => by rw [show k + 1 - (i + 1) = k - i from by omega]; rfl
  · rw [sm, Nat.sub_self]
    simp only [show ((0 : Nat) : Int) = 0 from rfl, Int.mul_zero, Int.add_zero]
    exact sm_congr fun i hi => by unfold Dr; rw [show k + 1 - i = k - i + 1 from by omega]
theorem mrow_cf (O b : List Int) (i : Nat) (x : Int) (k : Nat) (hk : i + b.length ≤ O.length) : ∀ j, j ≤ b.length → (mrow O i x b j).getD k 0 = O.getD k 0 + (if i ≤ k ∧ k < i + j then x * b.getD (k - i) 0 else 0)
  | 0, _ => by rw [mrow, if_neg (by omega), Int.add_zero]
  | j + 1, hj => by
    have ih := mrow_cf O b i x k hk j (by omega)
    rw [mrow, getD_set5, mrow_len]
    by_cases h : i + j = k
    · subst h
      rw [if_neg (by omega), Int.add_zero] at ih
      rw [if_pos rfl, if_pos (by omega), if_pos (by omega), ih, Nat.add_sub_cancel_left]
    · rw [if_neg h, ih]
      by_cases h2 : i ≤ k ∧ k < i + j
      · rw [if_pos h2, if_pos (by omega)]
      · rw [if_neg h2, if_neg (by omega)]
theorem gD0 {l : List Int} {k : Nat} (h : l.length ≤ k) : l.getD k 0 = 0 := by rw [List.getD_eq_getElem?_getD, List.getElem?_eq_none h]; rfl
theorem mulF_cf (a b : List Int) (n k : Nat) (hn : a.length + b.length ≤ n + 1) : ∀ i, i ≤ a.length → (mulF a b n i).getD k 0 = sm (fun u => if u ≤ k then a.getD u 0 * b.getD (k - u) 0 else 0) i
  | 0, _ => by
    rw [mulF, sm]
    by_cases h : k < n
    · rw [List.getD_eq_getElem?_getD, List.getElem?_replicate, if_pos h]; rfl
    · exact gD0 (by simp; omega)
  | i + 1, hi => by
    rw [mulF, mrow_cf _ _ _ _ _ (by rw [mulF_len]; omega) _ (Nat.le_refl _), mulF_cf a b n k hn i (by omega), sm]
    congr 1
    by_cases h : i ≤ k
    · rw [if_pos h]
      by_cases h2 : k < i + b.length
      · rw [if_pos ⟨h, h2⟩]
      · rw [if_neg (by omega), gD0 (l := b) (by omega), Int.mul_zero]
    · rw [if_neg h, if_neg (by omega)]
theorem mulF_conv (a b : List Int) (n k : Nat) (hn : a.length + b.length ≤ n + 1) : (mulF a b n a.length).getD k 0 = conv (fun i => a.getD i 0) (fun i => b.getD i 0) k := by
  rw [mulF_cf a b n k hn _ (Nat.le_refl _)]
  unfold conv
  have e : sm (fun i => a.getD i 0 * b.getD (k - i) 0) (k + 1) = sm (fun u => if u ≤ k then a.getD u 0 * b.getD (k - u) 0 else 0) (k + 1) := sm_congr fun i hi => by rw [if_pos (by omega)]
  rw [e]
  by_cases h : a.length ≤ k + 1
  · rw [show k + 1 = a.length + (k + 1 - a.length) from by omega, sm_ext]
    intro i hi
    split
    · rw [gD0 hi, Int.zero_mul]
    · rfl
  · rw [show a.length = k + 1 + (a.length - (k + 1)) from by omega, sm_ext]
    intro i hi
    rw [if_neg (by omega)]
theorem tzi_cf (l : List Int) (k : Nat) : (tzi l).getD k 0 = l.getD k 0 := by
  obtain ⟨n, h⟩ := tzi_split l
  conv => rhs; rw [h]
  by_cases hk : k < (tzi l).length
  · rw [List.getD_eq_getElem?_getD, List.getD_eq_getElem?_getD, List.getElem?_append_left hk]
  · rw [gD0 (by omega), List.getD_eq_getElem?_getD, List.getElem?_append_right (by omega), List.getElem?_replicate]
    split <;> rfl
theorem tzi_all0 : ∀ {l : List Int}, (∀ k, l.getD k 0 = 0) → tzi l = []
  | [], _ => rfl
  | x :: r, h => by
    have h0 := h 0
    have := tzi_all0 (l := r) fun k => by have := h (k + 1); simpa using this
    simp only [List.getD_cons_zero] at h0
    simp only [tzi, h0, this, and_self, if_true]
theorem tzi_ext : ∀ {a b : List Int}, (∀ k, a.getD k 0 = b.getD k 0) → tzi a = tzi b
  | [], b, h => (tzi_all0 fun k => (h k).symm.trans (by simp)).symm
  | x :: a, [], h => tzi_all0 fun k => (h k).trans (by simp)
  | x :: a, y :: b, h => by
    have h0 := h 0
    simp only [List.getD_cons_zero] at h0
    have := tzi_ext (a := a) (b := b) fun k => by have := h (k + 1); simpa using this
    simp only [tzi, h0, this]
theorem tzi_idem (l : List Int) : tzi (tzi l) = tzi l := tzi_ext fun k => tzi_cf l k
theorem mull_cf (a b : List Int) (k : Nat) : (mull a b).getD k 0 = conv (fun i => a.getD i 0) (fun i => b.getD i 0) k := by
  unfold mull
  split
  · rename_i h
    rw [show ([] : List Int).getD k 0 = 0 from by simp]
    unfold conv
    refine (sm_zero fun i hi => ?_).symm
    show a.getD i 0 * b.getD (k - i) 0 = 0
    rcases h with h | h
    · rw [gD0 (l := a) (by omega), Int.zero_mul]
    · rw [gD0 (l := b) (by omega), Int.mul_zero]
  · rw [tzi_cf]; exact mulF_conv a b _ k (by omega)
theorem mull_tzi (a b : List Int) : tzi (mull a b) = mull a b := by
  unfold mull
  split
  · rfl
  · exact tzi_idem _
theorem tz_eq {a b : List Int} (ha : tzi a = a) (hb : tzi b = b) (h : ∀ k, a.getD k 0 = b.getD k 0) : a = b := by rw [← ha, ← hb]; exact tzi_ext h
theorem mull_comm (a b : List Int) : mull a b = mull b a := tz_eq (mull_tzi _ _) (mull_tzi _ _) fun k => by rw [mull_cf, mull_cf, conv_comm]
theorem tzi_lead {a : List Int} (ha : tzi a = a) (h : 0 < a.length) : a.getD (a.length - 1) 0 ≠ 0 := by
  intro h0
  have h1 := tzi_zero a (a.length - 1) (by omega) h0
  rw [show a.length - 1 + 1 = a.length from by omega, List.take_length, ha] at h1
  have h2 := congrArg List.length h1
  have h3 := tzi_len (a.take (a.length - 1))
  rw [List.length_take] at h3
  omega
theorem conv_top {a b : List Int} (ha : 0 < a.length) (hb : 0 < b.length) : conv (fun i => a.getD i 0) (fun i => b.getD i 0) (a.length - 1 + (b.length - 1)) = a.getD (a.length - 1) 0 * b.getD (b.length - 1) 0 := by
  unfold conv
  rw [sm_one (i := a.length - 1) (by omega) fun u hu he => ?_, Nat.add_sub_cancel_left]
  simp only
  by_cases h : a.length ≤ u
  · rw [gD0 h, Int.zero_mul]
  · rw [gD0 (l := b) (by omega), Int.mul_zero]
theorem mull_ln {a b : List Int} (ha : tzi a = a) (hb : tzi b = b) (h1 : 0 < a.length) (h2 : 0 < b.length) : (mull a b).length = a.length + b.length - 1 := by
  have ht := mull_cf a b (a.length - 1 + (b.length - 1))
  rw [conv_top h1 h2] at ht
  have hne : (mull a b).getD (a.length - 1 + (b.length - 1)) 0 ≠ 0 := by
    rw [ht]; exact Int.mul_ne_zero (tzi_lead ha h1) (tzi_lead hb h2)
  have hge : a.length - 1 + (b.length - 1) < (mull a b).length := by
    refine Nat.lt_of_not_le fun hle => hne (gD0 hle)
  have hle : (mull a b).length ≤ a.length + b.length - 1 := by
    unfold mull; rw [if_neg (by omega)]
    exact Nat.le_trans (tzi_len _) (by rw [mulF_len]; exact Nat.le_refl _)
  omega
/-! ### divisors -/
def pr (p : Nat) : Prop := 1 < p ∧ ∀ d, d ∣ p → d = 1 ∨ d = p
theorem pr_two : pr 2 := ⟨by decide, fun d hd => by
  have := Nat.le_of_dvd (by decide) hd
  have h0 : d ≠ 0 := by rintro rfl; simp at hd
  omega⟩
theorem ex_pr : ∀ (n : Nat), 1 < n → ∃ p, pr p ∧ p ∣ n := by
  intro n
  induction n using Nat.strongRecOn with
  | _ n ih =>
    intro hn
    by_cases h : ∀ d, d ∣ n → d = 1 ∨ d = n
    · exact ⟨n, ⟨hn, h⟩, Nat.dvd_refl n⟩
    · obtain ⟨d, hd⟩ := Classical.not_forall.1 h
      obtain ⟨h1, h2⟩ := Classical.not_imp.1 hd
      have hle := Nat.le_of_dvd (by omega) h1
      have h0 : d ≠ 0 := by rintro rfl; have := Nat.eq_zero_of_zero_dvd h1; omega
      obtain ⟨p, hp, hpd⟩ := ih d (by omega) (by omega)
      exact ⟨p, hp, Nat.dvd_trans hpd h1⟩
theorem ex_pr' {n : Nat} (h : n ≠ 1) : ∃ p, pr p ∧ p ∣ n := by
  by_cases h0 : n = 0
  · exact ⟨2, pr_two, by rw [h0]; exact Nat.dvd_zero _⟩
  · exact ex_pr n (by omega)
theorem pr_mul {p a b : Nat} (hp : pr p) (h : p ∣ a * b) : p ∣ a ∨ p ∣ b := by
  rcases hp.2 (Nat.gcd p a) (Nat.gcd_dvd_left _ _) with h1 | h1
  · exact .inr (Nat.Coprime.dvd_of_dvd_mul_left h1 h)
  · exact .inl (h1 ▸ Nat.gcd_dvd_right _ _)
theorem least {P : Nat → Prop} (h : ∃ n, P n) : ∃ n, P n ∧ ∀ m, m < n → ¬ P m := by
  obtain ⟨n, hn⟩ := h
  induction n using Nat.strongRecOn with
  | _ n ih =>
    by_cases h : ∃ m, m < n ∧ P m
    · obtain ⟨m, hm, hp⟩ := h
      exact ih m hm hp
    · exact ⟨n, hn, fun m hm hp => h ⟨m, hm, hp⟩⟩
theorem gauss_pr {p : Nat} (hp : pr p) {f g : Nat → Int} (h : ∀ k, (p : Int) ∣ conv f g k) : (∀ i, (p : Int) ∣ f i) ∨ (∀ i, (p : Int) ∣ g i) := by
  refine Classical.byContradiction fun hn => ?_
  obtain ⟨h1, h2⟩ := not_or.1 hn
  obtain ⟨i, hi, hil⟩ := least (Classical.not_forall.1 h1)
  obtain ⟨j, hj, hjl⟩ := least (Classical.not_forall.1 h2)
  have hc := h (i + j)
  have h3 : (p : Int) ∣ f i * g (i + j - i) := sm_dvd1 (f := fun u => f u * g (i + j - u)) (j := i) (n := i + j + 1) (by omega) (fun u hu he => by
    by_cases hu2 : u < i
    · exact Int.dvd_mul_of_dvd_left (Classical.not_not.1 (hil u hu2))
    · exact Int.dvd_mul_of_dvd_right (Classical.not_not.1 (hjl (i + j - u) (by omega)))) hc
  rw [Nat.add_sub_cancel_left, Int.ofNat_dvd_left, Int.natAbs_mul] at h3
  rcases pr_mul hp h3 with h4 | h4
  · exact hi (Int.ofNat_dvd_left.2 h4)
  · exact hj (Int.ofNat_dvd_left.2 h4)
/-- the greatest divisor of all coefficients -/
def gN (l : List Int) : Nat := l.foldl (fun g c => Nat.gcd g c.natAbs) 0
theorem gN_fold : ∀ (l : List Int) (g d : Nat), d ∣ l.foldl (fun g c => Nat.gcd g c.natAbs) g ↔ d ∣ g ∧ ∀ c, c ∈ l → d ∣ c.natAbs
  | [], g, d => by simp
  | x :: r, g, d => by
    simp only [List.foldl_cons, List.mem_cons, forall_eq_or_imp]
    rw [gN_fold r, Nat.dvd_gcd_iff, and_assoc]
theorem dvd_gN (l : List Int) (d : Nat) : d ∣ gN l ↔ ∀ k, (d : Int) ∣ l.getD k 0 := by
  unfold gN
  rw [gN_fold]
  constructor
  · intro ⟨_, h⟩ k
    by_cases hk : k < l.length
    · rw [List.getD_eq_getElem?_getD, List.getElem?_eq_getElem hk]; exact Int.ofNat_dvd_left.2 (h _ (List.getElem_mem hk))
    · rw [gD0 (by omega)]; exact Int.dvd_zero _
  · intro h
    refine ⟨Nat.dvd_zero _, fun c hc => ?_⟩
    obtain ⟨k, hk, rfl⟩ := List.getElem_of_mem hc
    have := h k
    rw [List.getD_eq_getElem?_getD, List.getElem?_eq_getElem hk] at this
    exact Int.ofNat_dvd_left.1 this
theorem gN_eq {a : List Int} {n : Nat} (h : ∀ d : Nat, (∀ k, (d : Int) ∣ a.getD k 0) ↔ d ∣ n) : gN a = n :=
  Nat.dvd_antisymm ((h _).1 ((dvd_gN a _).1 (Nat.dvd_refl _))) ((dvd_gN a n).2 ((h n).2 (Nat.dvd_refl _)))
theorem gN_tzi (l : List Int) : gN (tzi l) = gN l := gN_eq fun d => by rw [dvd_gN]; simp only [tzi_cf]
theorem gN_zero {l : List Int} (h : gN l = 0) (k : Nat) : l.getD k 0 = 0 := by
  have := (dvd_gN l 0).1 (by rw [h]; exact Nat.dvd_refl 0) k
  exact Int.zero_dvd.1 this
theorem gN_part {l : List Int} (h : gN l ≠ 0) : ∃ f : Nat → Int, (∀ k, l.getD k 0 = (gN l : Int) * f k) ∧ ∀ d : Nat, (∀ k, (d : Int) ∣ f k) → d = 1 := by
  have h1 := (dvd_gN l _).1 (Nat.dvd_refl _)
  refine ⟨fun k => l.getD k 0 / (gN l : Int), fun k => (Int.mul_ediv_cancel' (h1 k)).symm, fun d hd => ?_⟩
  have h2 : gN l * d ∣ gN l := (dvd_gN l _).2 fun k => by
    rw [Int.natCast_mul, ← Int.mul_ediv_cancel' (h1 k)]
    exact Int.mul_dvd_mul (Int.dvd_refl _) (hd k)
  have h3 : gN l * d ∣ gN l * 1 := by rw [Nat.mul_one]; exact h2
  exact Nat.dvd_one.1 (Nat.dvd_of_mul_dvd_mul_left (by omega) h3)
theorem conv_part {a b : List Int} {f g : Nat → Int} (hf : ∀ k, a.getD k 0 = (gN a : Int) * f k) (hg : ∀ k, b.getD k 0 = (gN b : Int) * g k) (k : Nat) : (mull a b).getD k 0 = ((gN a * gN b : Nat) : Int) * conv f g k := by
  rw [mull_cf, conv_congr hf hg, conv_scale, Int.natCast_mul]
theorem gN_mull (a b : List Int) : gN (mull a b) = gN a * gN b := by
  by_cases ha : gN a = 0
  · rw [ha, Nat.zero_mul]
    refine gN_eq fun d => ⟨fun _ => Nat.dvd_zero _, fun _ k => ?_⟩
    rw [mull_cf]
    rw [show conv (fun i => a.getD i 0) (fun i => b.getD i 0) k = 0 from sm_zero fun i _ => by simp only [gN_zero ha, Int.zero_mul]]
    exact Int.dvd_zero _
  · by_cases hb : gN b = 0
    · rw [hb, Nat.mul_zero]
      refine gN_eq fun d => ⟨fun _ => Nat.dvd_zero _, fun _ k => ?_⟩
      rw [mull_cf]
      rw [show conv (fun i => a.getD i 0) (fun i => b.getD i 0) k = 0 from sm_zero fun i _ => by simp only [gN_zero hb, Int.mul_zero]]
      exact Int.dvd_zero _
    · obtain ⟨f, hf, hf1⟩ := gN_part ha
      obtain ⟨g, hg, hg1⟩ := gN_part hb
      have hk := conv_part hf hg
      have hd : gN a * gN b ∣ gN (mull a b) := (dvd_gN _ _).2 fun k => ⟨_, hk k⟩
      obtain ⟨e, he⟩ := hd
      have hpos : 0 < gN a * gN b := Nat.mul_pos (by omega) (by omega)
      have hall : ∀ k, (e : Int) ∣ conv f g k := fun k => by
        have := (dvd_gN (mull a b) _).1 (Nat.dvd_refl _) k
        rw [he, hk, Int.natCast_mul] at this
        exact Int.dvd_of_mul_dvd_mul_left (by omega) this
      by_cases h1 : e = 1
      · rw [he, h1, Nat.mul_one]
      · obtain ⟨p, hp, hpe⟩ := ex_pr' h1
        have hp1 := hp.1
        rcases gauss_pr hp (f := f) (g := g) fun k => Int.dvd_trans (Int.natCast_dvd_natCast.2 hpe) (hall k) with h | h
        · have := hf1 p h; omega
        · have := hg1 p h; omega
/-- the leading coefficient -/
def ldz (l : List Int) : Int := (tzi l).getD ((tzi l).length - 1) 0
/-- the content, with the leading one's sign -/
def cn (l : List Int) : Int := if ldz l < 0 then -(gN l : Int) else (gN l : Int)
/-- by its content -/
def prm (l : List Int) : List Int := if cn l = 0 then [] else tzi (l.map fun c => c.tdiv (cn l))
theorem cn_abs (l : List Int) : (cn l).natAbs = gN l := by unfold cn; split <;> omega
theorem cn_0 (l : List Int) : cn l = 0 ↔ gN l = 0 := by have := cn_abs l; omega
theorem cn_tzi (l : List Int) : cn (tzi l) = cn l := by unfold cn ldz; rw [tzi_idem, gN_tzi]
theorem cn_dvd (l : List Int) (k : Nat) : cn l ∣ l.getD k 0 := by
  have := (dvd_gN l _).1 (Nat.dvd_refl _) k
  rw [← cn_abs] at this
  exact Int.natAbs_dvd.1 this
theorem getD_map0 (l : List Int) (f : Int → Int) (h : f 0 = 0) (k : Nat) : (l.map f).getD k 0 = f (l.getD k 0) := by
  by_cases hk : k < l.length
  · simp [List.getD_eq_getElem?_getD, hk]
  · rw [gD0 (by simp; omega), gD0 (by omega), h]
theorem prm_tzi (l : List Int) : tzi (prm l) = prm l := by
  unfold prm
  split
  · rfl
  · exact tzi_idem _
theorem prm_cf (l : List Int) (k : Nat) : (prm l).getD k 0 = (l.getD k 0).tdiv (cn l) := by
  unfold prm
  split
  · rename_i h
    rw [h, Int.tdiv_zero]; simp
  · rw [tzi_cf, getD_map0 _ _ (by simp)]
theorem prm_of_tzi (l : List Int) : prm (tzi l) = prm l := tz_eq (prm_tzi _) (prm_tzi _) fun k => by rw [prm_cf, prm_cf, cn_tzi, tzi_cf]
theorem prm_back (l : List Int) : tzi ((prm l).map fun c => c * cn l) = tzi l := by
  refine tzi_ext fun k => ?_
  rw [getD_map0 _ _ (by simp), prm_cf]
  exact Int.tdiv_mul_cancel (cn_dvd l k)
theorem prm_conv {a b : List Int} (k : Nat) : (mull a b).getD k 0 = cn a * cn b * conv (fun i => (prm a).getD i 0) (fun i => (prm b).getD i 0) k := by
  rw [mull_cf, ← conv_scale]
  refine conv_congr (fun i => ?_) (fun i => ?_) k
  · rw [prm_cf]; exact (Int.mul_tdiv_cancel' (cn_dvd a i)).symm
  · rw [prm_cf]; exact (Int.mul_tdiv_cancel' (cn_dvd b i)).symm
theorem ldz_mull {a b : List Int} (ha : tzi a = a) (hb : tzi b = b) : ldz (mull a b) = ldz a * ldz b := by
  unfold ldz
  rw [mull_tzi, ha, hb]
  by_cases h1 : 0 < a.length
  · by_cases h2 : 0 < b.length
    · rw [mull_ln ha hb h1 h2, show a.length + b.length - 1 - 1 = a.length - 1 + (b.length - 1) from by omega, mull_cf, conv_top h1 h2]
    · rw [show mull a b = [] from if_pos (.inr (by omega)), gD0 (l := b) (by omega), Int.mul_zero]; simp
  · rw [show mull a b = [] from if_pos (.inl (by omega)), gD0 (l := a) (by omega), Int.zero_mul]; simp
theorem ldz_0 {a : List Int} (h : ldz a = 0) : gN a = 0 := by
  unfold ldz at h
  have h1 : ¬ 0 < (tzi a).length := fun h1 => tzi_lead (tzi_idem a) h1 h
  have h2 : tzi a = [] := List.eq_nil_of_length_eq_zero (by omega)
  rw [← gN_tzi, h2]; rfl
theorem cn_mull {a b : List Int} (ha : tzi a = a) (hb : tzi b = b) : cn (mull a b) = cn a * cn b := by
  have hl := ldz_mull ha hb
  have hg := gN_mull a b
  by_cases h1 : ldz a = 0
  · have := ldz_0 h1
    rw [(cn_0 a).2 this, Int.zero_mul, cn_0, hg, this, Nat.zero_mul]
  · by_cases h2 : ldz b = 0
    · have := ldz_0 h2
      rw [(cn_0 b).2 this, Int.mul_zero, cn_0, hg, this, Nat.mul_zero]
    · unfold cn
      rw [hl, hg]
      by_cases s1 : ldz a < 0 <;> by_cases s2 : ldz b < 0
      · rw [if_pos s1, if_pos s2, if_neg (by have := Int.mul_pos_of_neg_of_neg s1 s2; omega), Int.natCast_mul, Int.neg_mul_neg]
      · rw [if_pos s1, if_neg s2, if_pos (Int.mul_neg_of_neg_of_pos s1 (by omega)), Int.natCast_mul, Int.neg_mul]
      · rw [if_neg s1, if_pos s2, if_pos (Int.mul_neg_of_pos_of_neg (by omega) s2), Int.natCast_mul, Int.mul_neg]
      · rw [if_neg s1, if_neg s2, if_neg (by have := Int.mul_pos (show 0 < ldz a by omega) (show 0 < ldz b by omega); omega), Int.natCast_mul]
theorem prm_mull {a b : List Int} (ha : tzi a = a) (hb : tzi b = b) : prm (mull a b) = mull (prm a) (prm b) := by
  refine tz_eq (prm_tzi _) (mull_tzi _ _) fun k => ?_
  rw [prm_cf, mull_cf (prm a) (prm b)]
  by_cases h : cn (mull a b) = 0
  · rw [h, Int.tdiv_zero]
    have h1 : cn a = 0 ∨ cn b = 0 := by rw [cn_mull ha hb] at h; exact Int.mul_eq_zero.1 h
    refine (sm_zero fun i _ => ?_).symm
    simp only [prm_cf]
    rcases h1 with h1 | h1
    · rw [h1, Int.tdiv_zero, Int.zero_mul]
    · rw [h1, Int.tdiv_zero, Int.mul_zero]
  · rw [prm_conv, ← cn_mull ha hb, Int.mul_tdiv_cancel_left _ h]
/-- the derivative -/
def drv (l : List Int) : List Int := (List.range (l.length - 1)).map fun i => l.getD (i + 1) 0 * ((i + 1 : Nat) : Int)
theorem drv_len (l : List Int) : (drv l).length = l.length - 1 := by simp [drv]
theorem drv_cf (l : List Int) (k : Nat) : (drv l).getD k 0 = Dr (fun i => l.getD i 0) k := by
  unfold drv Dr
  by_cases h : k < l.length - 1
  · rw [List.getD_eq_getElem?_getD, List.getElem?_map, List.getElem?_range h]; rfl
  · rw [gD0 (by simp; omega)]
    show 0 = l.getD (k + 1) 0 * _
    rw [gD0 (by omega), Int.zero_mul]
/-- what the law says of derivatives -/
theorem drv_mull (a b : List Int) : tzi (drv (mull a b)) = tzi (addl (mull (tzi (drv a)) b) (mull a (tzi (drv b)))) := by
  refine tzi_ext fun k => ?_
  rw [drv_cf, addl_get, mull_cf, mull_cf]
  simp only [mull_cf, tzi_cf]
  rw [show (fun i => conv (fun i => a.getD i 0) (fun i => b.getD i 0) i) = conv (fun i => a.getD i 0) (fun i => b.getD i 0) from rfl, conv_deriv]
  congr 1
  · exact conv_congr (fun i => (drv_cf a i).symm) (fun _ => rfl) k
  · exact conv_congr (fun _ => rfl) (fun i => (drv_cf b i).symm) k
theorem mull_addl (a b c : List Int) : mull a (tzi (addl b c)) = tzi (addl (mull a b) (mull a c)) := by
  refine tz_eq (mull_tzi _ _) (tzi_idem _) fun k => ?_
  rw [mull_cf, tzi_cf, addl_get, mull_cf, mull_cf, ← conv_add]
  exact conv_congr (fun _ => rfl) (fun i => by rw [tzi_cf, addl_get]) k
theorem sub_back (a b : List Int) : tzi (addl (tzi (addl a b)) (tzi (b.map fun c => c * -1))) = tzi a := by
  refine tzi_ext fun k => ?_
  rw [addl_get, tzi_cf, addl_get, tzi_cf, getD_map0 _ _ (by simp)]
  omega
theorem mull_congr {a b a' b' : List Int} (h1 : ∀ k, a.getD k 0 = a'.getD k 0) (h2 : ∀ k, b.getD k 0 = b'.getD k 0) : mull a b = mull a' b' := tz_eq (mull_tzi _ _) (mull_tzi _ _) fun k => by rw [mull_cf, mull_cf]; exact conv_congr h1 h2 k
theorem addl_congr {a b a' b' : List Int} (h1 : ∀ k, a.getD k 0 = a'.getD k 0) (h2 : ∀ k, b.getD k 0 = b'.getD k 0) : tzi (addl a b) = tzi (addl a' b') := tzi_ext fun k => by rw [addl_get, addl_get, h1, h2]
end Go.Proofs.Ytihcbbkiifglmaa
