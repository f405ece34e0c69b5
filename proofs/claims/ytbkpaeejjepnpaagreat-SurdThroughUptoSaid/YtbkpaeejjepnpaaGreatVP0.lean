/-
  Newton's polynomial through points, plain; sizes.
-/
import Derived.Test.YtbkpaeejjepnpaaGreatQP8
namespace Go.Proofs.YtbkpaeejjepnpaaGreat
open Go Go.RowKit Ab
set_option linter.unusedSimpArgs false
set_option linter.unusedVariables false
set_option maxHeartbeats 10000000
def val : List Rat → Rat → Rat
  | [], _ => 0
  | c :: r, x => val r x * x + c
theorem val_zero : ∀ {l : List Rat} {x : Rat}, (∀ i, l.getD i 0 = 0) → val l x = 0
  | [], _, _ => rfl
  | c :: r, x, h => by
    have h0 := h 0
    simp only [List.getD_cons_zero] at h0
    rw [val, val_zero fun i => by have := h (i + 1); simpa using this, h0]; grind
theorem val_ext : ∀ {a b : List Rat} {x : Rat}, (∀ i, a.getD i 0 = b.getD i 0) → val a x = val b x
  | [], b, x, h => (val_zero fun i => (h i).symm.trans (by simp)).symm
  | c :: a, [], x, h => val_zero fun i => (h i).trans (by simp)
  | c :: a, e :: b, x, h => by
    have h0 := h 0
    simp only [List.getD_cons_zero] at h0
    rw [val, val, val_ext (a := a) (b := b) fun i => by have := h (i + 1); simpa using this, h0]
theorem val_tzq (l : List Rat) (x : Rat) : val (tzq l) x = val l x := val_ext fun i => tzq_cf l i
def adq : List Rat → List Rat → List Rat
  | [], b => b
  | a, [] => a
  | x :: a, y :: b => (x + y) :: adq a b
theorem adq_cf : ∀ (a b : List Rat) (i : Nat), (adq a b).getD i 0 = a.getD i 0 + b.getD i 0
  | [], b, i => by
    rw [show adq [] b = b from by unfold adq; rfl]; simp; grind
  | x :: a, [], i => by
    rw [show adq (x :: a) [] = x :: a from by unfold adq; rfl, show ([] : List Rat).getD i 0 = 0 from by simp]; grind
  | x :: a, y :: b, 0 => by simp [adq]
  | x :: a, y :: b, i + 1 => by
    have := adq_cf a b i
    simpa [adq] using this
theorem val_adq : ∀ (a b : List Rat) (x : Rat), val (adq a b) x = val a x + val b x
  | [], b, x => by
    rw [show adq [] b = b from by unfold adq; rfl, val]; grind
  | c :: a, [], x => by
    rw [show adq (c :: a) [] = c :: a from by unfold adq; rfl, show val [] x = 0 from rfl]; grind
  | c :: a, e :: b, x => by
    rw [adq, val, val, val, val_adq a b x]; grind
theorem val_scale (c : Rat) : ∀ (l : List Rat) (x : Rat), val (l.map fun y => y * c) x = val l x * c
  | [], x => by simp only [List.map_nil, val]; grind
  | e :: r, x => by simp only [List.map_cons, val, val_scale c r x]; grind
def linr (t : Rat) : Rat → List Rat → List Rat
  | p, [] => [p]
  | p, c :: r => (p - t * c) :: linr t c r
theorem linr_len (t : Rat) : ∀ (p : Rat) (b : List Rat), (linr t p b).length = b.length + 1
  | p, [] => rfl
  | p, c :: r => by simp [linr, linr_len t c r]
theorem linr_cf (t : Rat) : ∀ (p : Rat) (b : List Rat) (k : Nat), (linr t p b).getD k 0 = (if k = 0 then p else b.getD (k - 1) 0) - t * b.getD k 0
  | p, [], 0 => by simp [linr]; grind
  | p, [], k + 1 => by simp [linr]; grind
  | p, c :: r, 0 => by simp [linr]
  | p, c :: r, 1 => by
    have := linr_cf t c r 0
    simp [linr] at this ⊢; exact this
  | p, c :: r, k + 2 => by
    have := linr_cf t c r (k + 1)
    simp [linr] at this ⊢; exact this
theorem val_linr (t : Rat) : ∀ (p : Rat) (b : List Rat) (x : Rat), val (linr t p b) x = p + val b x * (x - t)
  | p, [], x => by simp only [linr, val]; grind
  | p, c :: r, x => by simp only [linr, val, val_linr t c r x]; grind
theorem cvq_two {f g : Nat → Rat} (hg : ∀ i, 2 ≤ i → g i = 0) (k : Nat) : cvq f g k = (if k = 0 then 0 else f (k - 1) * g 1) + f k * g 0 := by
  unfold cvq
  cases k with
  | zero => simp only [sq, if_true, Nat.sub_zero]
  | succ k =>
    rw [if_neg (by omega), sq, sq, sq_zero fun i hi => by rw [hg _ (by omega)]; grind]
    rw [show k + 1 - 1 = k from rfl, show k + 1 - k = 1 from by omega, show k + 1 - (k + 1) = 0 from by omega]
    grind
def syn : List Rat → Rat → List Rat
  | [], _ => []
  | [_], _ => []
  | _ :: e :: r, x => val (e :: r) x :: syn (e :: r) x
theorem syn_len : ∀ (l : List Rat) (x : Rat), (syn l x).length = l.length - 1
  | [], _ => rfl
  | [_], _ => rfl
  | c :: e :: r, x => by simp [syn, syn_len (e :: r) x]
theorem syn_val : ∀ (l : List Rat) (x z : Rat), val l z = val l x + (z - x) * val (syn l x) z
  | [], x, z => by simp only [syn, val]; grind
  | [c], x, z => by simp only [syn, val]; grind
  | c :: e :: r, x, z => by
    have ih := syn_val (e :: r) x z
    have e1 : val (c :: e :: r) z = val (e :: r) z * z + c := rfl
    have e2 : val (c :: e :: r) x = val (e :: r) x * x + c := rfl
    have e3 : val (syn (c :: e :: r) x) z = val (syn (e :: r) x) z * z + val (e :: r) x := rfl
    rw [e1, e2, e3]
    grind
theorem syn_cf : ∀ (l : List Rat) (x : Rat) (k : Nat), (syn l x).getD k 0 = val (l.drop (k + 1)) x
  | [], x, k => by simp [syn, val]
  | [c], x, k => by simp [syn, val]
  | c :: e :: r, x, 0 => by simp [syn]
  | c :: e :: r, x, k + 1 => by
    have := syn_cf (e :: r) x k
    simpa [syn] using this
structure Sx' (x : Rat) (d X : Nat) : Prop where
  d0 : d ≠ 0
  dX : d ≤ X
  hx : Fq x d X
theorem val_Fq0 {x : Rat} {d X : Nat} (hx : Sx' x d X) {E M : Nat} (hE : E ≠ 0) : ∀ {l : List Rat}, (∀ i, Fq (l.getD i 0) E M) → Fq (val l x) (E * d ^ l.length) (l.length * M * X ^ l.length)
  | [], _ => Fq_zero
  | c :: r, h => by
    have ih := val_Fq0 hx hE (l := r) fun i => by have := h (i + 1); simpa using this
    have hdp : d ^ r.length ≠ 0 := Nat.pos_iff_ne_zero.1 (Nat.pow_pos (Nat.pos_of_ne_zero hx.d0))
    have h1 := Fq_mul (Nat.mul_ne_zero hE hdp) hx.d0 ih hx.hx
    have h2 := Fq_up (k := d ^ (r.length + 1)) hE (Nat.pos_iff_ne_zero.1 (Nat.pow_pos (Nat.pos_of_ne_zero hx.d0))) (by simpa using h 0 : Fq c E M)
    rw [show E * d ^ r.length * d = E * d ^ (r.length + 1) from by rw [Nat.pow_succ, Nat.mul_assoc]] at h1
    have h3 := Fq_add h1 h2
    refine Fq_le h3 ?_
    show r.length * M * X ^ r.length * X + M * d ^ (r.length + 1) ≤ (r.length + 1) * M * X ^ (r.length + 1)
    have h4 : M * d ^ (r.length + 1) ≤ M * X ^ (r.length + 1) := Nat.mul_le_mul_left _ (Nat.pow_le_pow_left hx.dX _)
    rw [Nat.add_mul, Nat.one_mul, Nat.add_mul, Nat.pow_succ X, ← Nat.mul_assoc (r.length * M)] at *
    exact Nat.add_le_add_left h4 _
theorem val_Fq {x : Rat} {d X : Nat} (hx : Sx' x d X) {E M n : Nat} (hE : E ≠ 0) {l : List Rat} (h : ∀ i, Fq (l.getD i 0) E M) (hn : l.length ≤ n) : Fq (val l x) (E * d ^ n) (n * M * X ^ n) := by
  have h1 := val_Fq0 hx hE h
  have hd := Nat.pos_of_ne_zero hx.d0
  have h2 := Fq_up (k := d ^ (n - l.length)) (Nat.mul_ne_zero hE (Nat.pos_iff_ne_zero.1 (Nat.pow_pos hd))) (Nat.pos_iff_ne_zero.1 (Nat.pow_pos hd)) h1
  rw [Nat.mul_assoc E, ← Nat.pow_add, show l.length + (n - l.length) = n from by omega] at h2
  refine Fq_le h2 ?_
  have h3 : l.length * M * X ^ l.length * d ^ (n - l.length) ≤ n * M * (X ^ l.length * X ^ (n - l.length)) := by
    rw [← Nat.mul_assoc]
    exact Nat.mul_le_mul (Nat.mul_le_mul_right _ (Nat.mul_le_mul_right _ hn)) (Nat.pow_le_pow_left hx.dX _)
  rwa [← Nat.pow_add, show l.length + (n - l.length) = n from by omega] at h3
theorem drop_Fq {l : List Rat} {E M : Nat} (h : ∀ i, Fq (l.getD i 0) E M) (k : Nat) : ∀ i, Fq ((l.drop k).getD i 0) E M := fun i => by
  rw [List.getD_eq_getElem?_getD, List.getElem?_drop, ← List.getD_eq_getElem?_getD]
  exact h _
structure Nw (p : Rat → Rat) (xs : List Rat) (S B' Q : List Rat) (G M0 P Y i n : Nat) : Prop where
  hv : ∀ z, p z = val S z + val B' z * val Q z
  hQ : PB Q (G * P ^ 12) (M0 * 12 ^ i * Y ^ 12)
  lQ : Q.length + i ≤ n
  hB : PB B' P (2 ^ i * Y)
  lB : B'.length ≤ i + 1
  hS : PB S (G * P ^ 13) (i * M0 * 24 ^ i * Y ^ 13)
  lS : S.length ≤ i
  tS : tzq S = S
  tB : tzq B' = B'
  hR : ∀ z, val B' z = 0 → ∃ j, j < i ∧ z = xs.getD j 0
def nwS (S B' : List Rat) (c : Rat) : List Rat := tzq (eaq (fun x y => x + y) S (tzq (B'.map fun y => y * c)))
def nwB (B' : List Rat) (x : Rat) : List Rat := tzq (linr x 0 B')
theorem map_cf (l : List Rat) (c : Rat) (i : Nat) : (l.map fun y => y * c).getD i 0 = l.getD i 0 * c := by
  rw [List.getD_eq_getElem?_getD, List.getElem?_map, List.getD_eq_getElem?_getD]
  cases l[i]? <;> simp
theorem nwS_cf (S B' : List Rat) (c : Rat) (i : Nat) : (nwS S B' c).getD i 0 = S.getD i 0 + B'.getD i 0 * c := by
  unfold nwS
  rw [tzq_cf, eaq_cf _ (by grind), tzq_cf, map_cf]
theorem Nw_step {p : Rat → Rat} {xs S B' Q : List Rat} {G M0 P Y i n d X : Nat} {x : Rat} (hx : Sx' x d X) (hxi : xs.getD i 0 = x) (hn : n ≤ 12) (hin : i < n) (h : Nw p xs S B' Q G M0 P Y i n) (hfresh : ∀ j, j < i → x ≠ xs.getD j 0) :
    val B' x ≠ 0 ∧ (p x - val S x) / val B' x = val Q x ∧ Fq (val Q x) (G * (P * d) ^ 12) (M0 * 12 ^ (i + 1) * (Y * X) ^ 12) ∧
    Nw p xs (nwS S B' (val Q x)) (nwB B' x) (syn Q x) G M0 (P * d) (Y * X) (i + 1) n := by
  have hd := Nat.pos_of_ne_zero hx.d0
  have hX : 0 < X := Nat.lt_of_lt_of_le hd hx.dX
  have hne : val B' x ≠ 0 := fun h0 => by
    obtain ⟨j, hj, e⟩ := h.hR x h0
    exact hfresh j hj e
  have e12 : G * P ^ 12 * d ^ 12 = G * (P * d) ^ 12 := by rw [Nat.mul_pow, Nat.mul_assoc]
  have m12 : 12 * (M0 * 12 ^ i * Y ^ 12) * X ^ 12 = M0 * 12 ^ (i + 1) * (Y * X) ^ 12 := by
    rw [Nat.mul_pow, show (12 : Nat) ^ (i + 1) = 12 ^ i * 12 from Nat.pow_succ ..]
    generalize (12 : Nat) ^ i = u
    generalize Y ^ 12 = v
    generalize X ^ 12 = w
    simp only [Nat.mul_comm, Nat.mul_left_comm, Nat.mul_assoc]
  have hlQ := h.lQ
  have fv : ∀ k, Fq (val (Q.drop k) x) (G * (P * d) ^ 12) (M0 * 12 ^ (i + 1) * (Y * X) ^ 12) := fun k => by
    have := val_Fq hx h.hQ.1 (n := 12) (drop_Fq h.hQ.2 k) (by rw [List.length_drop]; omega)
    rwa [e12, m12] at this
  have hc := fv 0
  rw [List.drop_zero] at hc
  have hGP := h.hQ.1
  have hP := h.hB.1
  have hG : G ≠ 0 := fun e => hGP (by rw [e, Nat.zero_mul])
  have hPd : P * d ≠ 0 := Nat.mul_ne_zero hP hx.d0
  have pw : ∀ {u : Nat} (k : Nat), u ≠ 0 → u ^ k ≠ 0 := fun k hu => Nat.pos_iff_ne_zero.1 (Nat.pow_pos (Nat.pos_of_ne_zero hu))
  have hrem := h.hv x
  refine ⟨hne, by rw [hrem]; grind, hc, ⟨fun z => ?_, ⟨Nat.mul_ne_zero hG (pw 12 hPd), fun k => by rw [syn_cf]; exact fv _⟩, ?_, ⟨hPd, fun k => ?_⟩, ?_, ⟨Nat.mul_ne_zero hG (pw 13 hPd), fun k => ?_⟩, ?_, tzq_idem _, tzq_idem _, fun z hz => ?_⟩⟩
  · rw [h.hv z]
    have e1 : val (nwS S B' (val Q x)) z = val S z + val B' z * val Q x := by
      rw [show val (nwS S B' (val Q x)) z = val (adq S (B'.map fun y => y * val Q x)) z from val_ext fun k => by rw [nwS_cf, adq_cf, map_cf], val_adq, val_scale]
    have e2 : val (nwB B' x) z = val B' z * (z - x) := by
      unfold nwB
      rw [val_tzq, val_linr]; grind
    rw [e1, e2, syn_val Q x z]
    grind
  · rw [syn_len]
    have := h.lQ
    omega
  · unfold nwB
    rw [tzq_cf, linr_cf]
    have k1 : Fq (if k = 0 then 0 else B'.getD (k - 1) 0) P (2 ^ i * Y) := by
      split
      · exact Fq_zero
      · exact h.hB.2 _
    have k2 := Fq_up hP hx.d0 k1
    have k3 := Fq_mul hx.d0 hP hx.hx (h.hB.2 k)
    rw [Nat.mul_comm d P] at k3
    refine Fq_le (Fq_sub k2 k3) ?_
    have h4 : 2 ^ i * Y * d ≤ 2 ^ i * Y * X := Nat.mul_le_mul_left _ hx.dX
    have h5 : X * (2 ^ i * Y) = 2 ^ i * Y * X := Nat.mul_comm _ _
    have h6 : 2 ^ (i + 1) * (Y * X) = 2 ^ i * Y * X + 2 ^ i * Y * X := by rw [Nat.pow_succ, Nat.mul_right_comm, ← Nat.mul_assoc, Nat.mul_two]
    omega
  · unfold nwB
    refine Nat.le_trans (tzq_len _) ?_
    rw [linr_len]; have := h.lB; omega
  · rw [nwS_cf]
    have k1 := Fq_up (k := d ^ 13) h.hS.1 (pw 13 hx.d0) (h.hS.2 k)
    have k2 := Fq_up (k := d) (Nat.mul_ne_zero hP (Nat.mul_ne_zero hG (pw 12 hPd))) hx.d0 (Fq_mul hP (Nat.mul_ne_zero hG (pw 12 hPd)) (h.hB.2 k) hc)
    have d1 : G * P ^ 13 * d ^ 13 = G * (P * d) ^ 13 := by rw [Nat.mul_pow, Nat.mul_assoc]
    have d2 : P * (G * (P * d) ^ 12) * d = G * (P * d) ^ 13 := by
      rw [Nat.pow_succ (P * d) 12]
      simp only [Nat.mul_comm, Nat.mul_left_comm, Nat.mul_assoc]
    rw [d1] at k1
    rw [d2] at k2
    refine Fq_le (Fq_add k1 k2) ?_
    have hYX : 0 < X ^ 13 := Nat.pow_pos hX
    have a1 : i * M0 * 24 ^ i * Y ^ 13 * d ^ 13 ≤ i * (M0 * 24 ^ (i + 1) * (Y * X) ^ 13) := by
      have h1 : d ^ 13 ≤ X ^ 13 := Nat.pow_le_pow_left hx.dX _
      have h2 : (24 : Nat) ^ i ≤ 24 ^ (i + 1) := Nat.pow_le_pow_right (by decide) (by omega)
      have e : i * (M0 * 24 ^ (i + 1) * (Y * X) ^ 13) = i * M0 * 24 ^ (i + 1) * Y ^ 13 * X ^ 13 := by
        rw [Nat.mul_pow]; simp only [Nat.mul_assoc]
      rw [e]
      exact Nat.mul_le_mul (Nat.mul_le_mul_right _ (Nat.mul_le_mul_left _ h2)) h1
    have a2 : 2 ^ i * Y * (M0 * 12 ^ (i + 1) * (Y * X) ^ 12) * d ≤ M0 * 24 ^ (i + 1) * (Y * X) ^ 13 := by
      have e1 : (24 : Nat) ^ (i + 1) = 2 ^ (i + 1) * 12 ^ (i + 1) := by rw [← Nat.mul_pow]
      have e2 : M0 * 24 ^ (i + 1) * (Y * X) ^ 13 = 2 ^ (i + 1) * Y * (M0 * 12 ^ (i + 1) * (Y * X) ^ 12) * X := by
        rw [e1, Nat.pow_succ (Y * X) 12]
        simp only [Nat.mul_comm, Nat.mul_left_comm, Nat.mul_assoc]
      rw [e2]
      exact Nat.mul_le_mul (Nat.mul_le_mul_right _ (Nat.mul_le_mul_right _ (Nat.pow_le_pow_right (by decide) (by omega)))) hx.dX
    have e3 : (i + 1) * M0 * 24 ^ (i + 1) * (Y * X) ^ 13 = i * (M0 * 24 ^ (i + 1) * (Y * X) ^ 13) + M0 * 24 ^ (i + 1) * (Y * X) ^ 13 := by
      rw [show (i + 1) * M0 * 24 ^ (i + 1) * (Y * X) ^ 13 = (i + 1) * (M0 * 24 ^ (i + 1) * (Y * X) ^ 13) from by simp only [Nat.mul_assoc], Nat.succ_mul]
    rw [e3]
    exact Nat.add_le_add a1 a2
  · unfold nwS
    refine Nat.le_trans (tzq_len _) ?_
    rw [eaq_len]
    have h1 := tzq_len (B'.map fun y => y * val Q x)
    rw [List.length_map] at h1
    have := h.lS; have := h.lB; omega
  · have e2 : val (nwB B' x) z = val B' z * (z - x) := by
      unfold nwB
      rw [val_tzq, val_linr]; grind
    rw [e2] at hz
    by_cases h0 : val B' z = 0
    · obtain ⟨j, hj, e⟩ := h.hR z h0
      exact ⟨j, by omega, e⟩
    · refine ⟨i, by omega, ?_⟩
      rw [hxi]; grind
def Sz (x : Rat) (m : Nat) : Prop := x.num.natAbs < B ^ m ∧ x.den < B ^ m
theorem Fq_Sz {x : Rat} {E M m : Nat} (hE : E ≠ 0) (h : Fq x E M) (h1 : E < B ^ m) (h2 : M < B ^ m) : Sz x m := by
  obtain ⟨k1, k2, _⟩ := Fq_sz hE h
  exact ⟨Nat.lt_of_le_of_lt k1 h2, Nat.lt_of_le_of_lt k2 h1⟩
theorem val_drop {l : List Rat} {x : Rat} {j : Nat} (h : j < l.length) : val (l.drop j) x = val (l.drop (j + 1)) x * x + l.getD j 0 := by
  rw [List.drop_eq_getElem_cons h, val, List.getD_eq_getElem?_getD, List.getElem?_eq_getElem h]; rfl
def Hz (l : List Rat) (x : Rat) (m : Nat) : Prop := ∀ k, Sz (val (l.drop k) x) m ∧ Sz (val (l.drop k) x * x) m
theorem Hz_of {l : List Rat} {x : Rat} {d X E M m : Nat} (hx : Sx' x d X) (h : PB l E M) (hn : l.length ≤ 12) (h1 : E * d ^ 13 < B ^ m) (h2 : 12 * M * X ^ 13 < B ^ m) : Hz l x m := fun k => by
  have hd := Nat.pos_of_ne_zero hx.d0
  have hX : 0 < X := Nat.lt_of_lt_of_le hd hx.dX
  have f1 := val_Fq hx h.1 (n := 12) (drop_Fq h.2 k) (by rw [List.length_drop]; omega)
  have e1 : E * d ^ 12 ≠ 0 := Nat.mul_ne_zero h.1 (Nat.pos_iff_ne_zero.1 (Nat.pow_pos hd))
  have f2 := Fq_mul e1 hx.d0 f1 hx.hx
  rw [show E * d ^ 12 * d = E * d ^ 13 from by rw [Nat.mul_assoc, ← Nat.pow_succ], show 12 * M * X ^ 12 * X = 12 * M * X ^ 13 from by rw [Nat.mul_assoc (12 * M), ← Nat.pow_succ]] at f2
  have e2 : E * d ^ 13 ≠ 0 := Nat.mul_ne_zero h.1 (Nat.pos_iff_ne_zero.1 (Nat.pow_pos hd))
  refine ⟨Fq_Sz e1 f1 (Nat.lt_of_le_of_lt (Nat.mul_le_mul_left _ (Nat.pow_le_pow_right hd (by omega))) h1) (Nat.lt_of_le_of_lt (Nat.mul_le_mul_left _ (Nat.pow_le_pow_right hX (by omega))) h2), Fq_Sz e2 f2 h1 h2⟩
theorem raw_Sx (s : Bool) {a d : List Nat} (ha : Wd a) (hd : Wd d) (h0 : nv B d ≠ 0) : Sx' (mkRat (zv s a) (nv B d)) (nv B d) (B ^ (a.length + d.length)) := by
  have h1 := zv_lt (s := s) ha (Nat.le_refl _)
  have h2 := nvlt hd (Nat.le_refl _)
  refine ⟨h0, Nat.le_trans (Nat.le_of_lt h2) (B_le (by omega)), zv s a, by rw [Rat.mkRat_eq_div], Nat.le_trans (Nat.le_of_lt h1) (B_le (by omega))⟩
end Go.Proofs.YtbkpaeejjepnpaaGreat
