/-
  Division: the answers as plain numbers.
-/
import Derived.Test.YtngohbpgdeiodaaNM7
import Derived.Test.YtngohbpgdeiodaaShift2
namespace Go.Proofs.Ytngohbpgdeiodaa
open Go Go.RowKit Ab
set_option linter.unusedSimpArgs false
set_option linter.unusedVariables false
set_option maxHeartbeats 10000000

/-- quotient, remainder, the code -/
def qQ (u v : Nat) : List Nat := dg B (u / v)
def qR (u v : Nat) : List Nat := if v = 0 then [] else dg B (u % v)
def qE (v : Nat) : Int := if v = 0 then 1 else 0
theorem qQ_0 (u : Nat) : qQ u 0 = [] := by unfold qQ; rw [Nat.div_zero]; rfl
theorem qR_0 (u : Nat) : qR u 0 = [] := if_pos rfl
theorem qE_0 : qE 0 = 1 := rfl
theorem qR_p {u v : Nat} (h : 0 < v) : qR u v = dg B (u % v) := if_neg (by omega)
theorem qE_p {v : Nat} (h : 0 < v) : qE v = 0 := if_neg (by omega)
theorem W1 (x : Nat) : W [x] = [.i .u64 (x : Int)] := rfl
theorem tz_dgW {a : List Nat} (ha : Wd a) : tz a = dg B (nv B a) := tz_dg B2 ha
theorem dg_one {w : Nat} (h0 : 0 < w) (hw : w < B) : dg B w = [w] := by
  rw [← dg_fl B2 (n := 1) (by rw [Nat.pow_one]; exact hw), fl, fl, Nat.mod_eq_of_lt hw, tz, tz, if_neg (by omega)]
theorem nv_get1 {b : List Nat} (h : b.length = 1) : b.getD 0 0 = nv B b := by
  match b, h with
  | [x], _ => simp [nv]

theorem qQ_len {u v m : Nat} (h : u < B ^ m) : (qQ u v).length ≤ m := dlen (Nat.lt_of_le_of_lt (Nat.div_le_self _ _) h)
theorem qR_len {u v m : Nat} (h : u < B ^ m) : (qR u v).length ≤ m := by
  unfold qR; split
  · exact Nat.zero_le _
  · exact dlen (Nat.lt_of_le_of_lt (Nat.mod_le _ _) h)
theorem qQ_Wd (u v : Nat) : Wd (qQ u v) := Wd_dg _
theorem qR_Wd (u v : Nat) : Wd (qR u v) := by unfold qR; split; exact Wd_nil; exact Wd_dg _
theorem qQ_nv (u v : Nat) : nv B (qQ u v) = u / v := nv_dgB _
theorem qR_nil {u v : Nat} : (((qR u v).length : Nat) : Int) = 0 ↔ (v = 0 ∨ u % v = 0) := by
  unfold qR
  split
  · rename_i h; simp [h]
  · rename_i h
    constructor
    · intro h1; exact .inr ((dg_nil B2).1 (List.eq_nil_of_length_eq_zero (by omega)))
    · intro h1; rw [(dg_nil B2).2 (by omega)]; rfl

/-- where nothing is left -/
def exQ (u v : Nat) : List Nat := if v = 0 then [] else if u % v = 0 then dg B (u / v) else []
def exE (u v : Nat) : Int := if v = 0 then 1 else if u % v = 0 then 0 else 4
/-- a multiple? -/
def dvB (u v : Nat) : Bool := if v = 0 then decide (u = 0) else decide (u % v = 0)
theorem norm_len0 {a : List Nat} (ha : Wd a) : (((tz a).length : Nat) : Int) = 0 ↔ nv B a = 0 := by
  rw [tz_dg B2 ha]
  constructor
  · intro h; exact (dg_nil B2).1 (List.eq_nil_of_length_eq_zero (by omega))
  · intro h; rw [(dg_nil B2).2 h]; rfl
/-- rounded up, to the nearest -/
def upQ (u v : Nat) : List Nat := if v = 0 then [] else if u % v = 0 then dg B (u / v) else dg B (u / v + 1)
def nrQ (u v : Nat) : List Nat := if v = 0 then [] else if u % v + u % v < v then dg B (u / v) else dg B (u / v + 1)
theorem nv1 : nv B (dg B 1) = 1 := nv_dgB 1
theorem sg_le {x y : Nat} : (sg x y ≤ 0) = (x ≤ y) := by
  unfold sg
  split
  · rename_i h; exact propext ⟨fun _ => Nat.le_of_lt h, fun _ => by decide⟩
  · rename_i h
    split
    · rename_i h2; exact propext ⟨fun _ => Nat.le_of_eq h2, fun _ => by decide⟩
    · exact propext ⟨fun h => absurd h (by decide), fun h => by omega⟩
theorem norm_dg (a : List Nat) (ha : Wd a) (la : a.length ≤ 1099511627776) : AFun Try.prog J0 38 [.l 1 (W a)] (.o 29 1 (W (dg B (nv B a)))) := by
  have := norm_spec a la
  rwa [tz_dg B2 ha] at this

/-- how often: the numbers, the code -/
def ofN (a b : Nat) : Nat := if a = 0 ∨ b ≤ 1 then 0 else (oft b a a).1
def ofL (a b : Nat) : List Nat := if a = 0 ∨ b ≤ 1 then [] else dg B (oft b a a).2
def ofE (a b : Nat) : Int := if a = 0 then 1 else if b ≤ 1 then 3 else 0
/-- the loop: n times it was divided, x is left -/
def OfI (a b : Nat) (s : Nat × Nat) : Prop := 0 < s.2 ∧ b ^ s.1 * s.2 = a ∧ ∃ f, s.2 ≤ f ∧ (oft b f s.2).1 + s.1 = (oft b a a).1 ∧ (oft b f s.2).2 = (oft b a a).2
theorem OfI_0 {a b : Nat} (h : 0 < a) : OfI a b (0, a) := ⟨h, by simp, a, Nat.le_refl _, rfl, rfl⟩
theorem OfI_step {a b n x : Nat} (hb : 2 ≤ b) (h : OfI a b (n, x)) (h0 : x % b = 0) : OfI a b (n + 1, x / b) ∧ x / b < x := by
  obtain ⟨h1, h2, f, h3, h4, h5⟩ := h
  simp only [] at h1 h2 h3 h4 h5
  obtain ⟨k1, k2⟩ := oft_lt hb h1 h0
  obtain ⟨f', rfl⟩ : ∃ f', f = f' + 1 := ⟨f - 1, by omega⟩
  rw [oft_yes h0] at h4 h5
  simp only [] at h4 h5
  refine ⟨⟨k1, ?_, f', by simp only; omega, by simp only; omega, h5⟩, k2⟩
  simp only [Nat.pow_succ, Nat.mul_assoc]
  rw [Nat.mul_div_cancel' (Nat.dvd_of_mod_eq_zero h0)]; exact h2
theorem OfI_end {a b n x : Nat} (h : OfI a b (n, x)) (h0 : x % b ≠ 0) : n = (oft b a a).1 ∧ x = (oft b a a).2 := by
  obtain ⟨h1, h2, f, h3, h4, h5⟩ := h
  rw [oft_no h0] at h4 h5
  simp only [] at h4 h5
  exact ⟨by omega, h5⟩
theorem OfI_bnd {a b n x m : Nat} (hb : 2 ≤ b) (h : OfI a b (n, x)) (ha : a < B ^ m) : n ≤ 64 * m ∧ x < B ^ m := by
  obtain ⟨h1, h2, _⟩ := h
  simp only [] at h1 h2
  have h3 : 2 ^ n ≤ b ^ n := Nat.pow_le_pow_left hb n
  have h4 : b ^ n * 1 ≤ b ^ n * x := Nat.mul_le_mul_left _ h1
  have h6 : 1 * x ≤ b ^ n * x := Nat.mul_le_mul_right _ (Nat.pow_pos (by omega))
  have h5 : 2 ^ n < 2 ^ (64 * m) := by
    rw [Nat.pow_mul, show (2 : Nat) ^ 64 = B from rfl]; omega
  have := (Nat.pow_lt_pow_iff_right (by decide : 1 < 2)).1 h5
  omega
end Go.Proofs.Ytngohbpgdeiodaa
