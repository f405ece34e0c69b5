/-
  Newton's polynomial: the program's steps, sizes of all.
-/
import Derived.Test.YtbkpaeejjepnpaaGreatVP1
namespace Go.Proofs.YtbkpaeejjepnpaaGreat
open Go Go.RowKit Ab
set_option linter.unusedSimpArgs false
set_option linter.unusedVariables false
set_option maxHeartbeats 10000000
def thS (xs : List Rat) (Q0 : List Rat) : Nat → List Rat × List Rat × List Rat
  | 0 => ([], [1], Q0)
  | i + 1 => (nwS (thS xs Q0 i).1 (thS xs Q0 i).2.1 (val (thS xs Q0 i).2.2 (xs.getD i 0)), nwB (thS xs Q0 i).2.1 (xs.getD i 0), syn (thS xs Q0 i).2.2 (xs.getD i 0))
def PP (k : R3) : Nat → Nat
  | 0 => 1
  | i + 1 => PP k i * nv B (k.getD i nul3).2.2
def YY (k : R3) : Nat → Nat
  | 0 => 1
  | i + 1 => YY k i * B ^ ((k.getD i nul3).2.1.length + (k.getD i nul3).2.2.length)
theorem wt_snoc : ∀ (l r : R3), wt (l ++ r) = wt l + wt r
  | [], r => by simp [wt]
  | p :: l, r => by simp only [List.cons_append, wt, wt_snoc l r]; omega
theorem YY_eq (k : R3) : ∀ i, i ≤ k.length → YY k i = B ^ wt (k.take i)
  | 0, _ => by simp [YY, wt]
  | i + 1, h => by
    rw [YY, YY_eq k i (by omega), List.take_succ_eq_append_getElem (by omega), wt_snoc, ← Nat.pow_add]
    congr 1
    rw [List.getD_eq_getElem?_getD, List.getElem?_eq_getElem (by omega)]
    simp only [wt, Option.getD_some]; omega
theorem YY_le (k : R3) (i : Nat) (h : i ≤ k.length) : YY k i ≤ B ^ wt k := by
  rw [YY_eq k i h]; exact B_le (wt_take k i)
theorem wt_one {k : R3} {i : Nat} (h : i < k.length) : (k.getD i nul3).2.1.length + (k.getD i nul3).2.2.length ≤ wt k := by
  have h1 := YY_le k (i + 1) (by omega)
  have h2 : 1 ≤ YY k i := by rw [YY_eq k i (by omega)]; exact Nat.pow_pos B0
  rw [YY] at h1
  have h3 := Nat.le_trans (Nat.le_mul_of_pos_left _ h2) h1
  exact (Nat.pow_le_pow_iff_right (by decide)).1 h3
theorem PP_le {k : R3} {m : Nat} (hk : Qk k m) : ∀ i, i ≤ k.length → PP k i ≤ YY k i ∧ PP k i ≠ 0
  | 0, _ => ⟨Nat.le_refl _, by simp [PP]⟩
  | i + 1, h => by
    obtain ⟨h1, h2⟩ := PP_le hk i (by omega)
    obtain ⟨w1, w2, l1, l2, h0⟩ := hk _ (getD_mem (l := k) (i := i) (by omega))
    have := (raw_Sx (k.getD i nul3).1 w1 w2 h0).dX
    exact ⟨Nat.mul_le_mul h1 this, Nat.mul_ne_zero h2 h0⟩
theorem thS_Nw {k : R3} {Q0 : List Rat} {G M0 n m : Nat} (hk : Qk k m) (hkn : k.length = n) (hn : n ≤ 12) (hQl : Q0.length = n) (hQ : PB Q0 G M0) (hdis : ∀ i j, i < n → j < i → (qcs k).getD i 0 ≠ (qcs k).getD j 0) :
    ∀ i, i ≤ n → Nw (val Q0) (qcs k) (thS (qcs k) Q0 i).1 (thS (qcs k) Q0 i).2.1 (thS (qcs k) Q0 i).2.2 G M0 (PP k i) (YY k i) i n
  | 0, _ => by
    have one : Fq (1 : Rat) 1 1 := ⟨1, by rw [Rat.div_def]; decide +kernel, by decide⟩
    refine ⟨fun z => ?_, ⟨by simpa [PP] using hQ.1, fun i => by simpa [PP, YY, thS] using hQ.2 i⟩, by show Q0.length + 0 ≤ n; omega, ⟨by simp [PP], fun i => ?_⟩, by simp [thS], ⟨by simpa [PP] using hQ.1, fun i => by simp [thS]; exact Fq_zero⟩, by simp [thS], rfl, (show tzq [1] = [1] by decide +kernel), fun z hz => ?_⟩
    · show val Q0 z = val [] z + val [1] z * val Q0 z
      simp only [val]; grind
    · show Fq (([1] : List Rat).getD i 0) 1 (2 ^ 0 * 1)
      cases i with
      | zero => exact one
      | succ i => simp; exact Fq_zero
    · exfalso
      have : val [1] z = 1 := by simp only [val]; grind
      rw [show (thS (qcs k) Q0 0).2.1 = [1] from rfl, this] at hz
      exact absurd hz (by decide)
  | i + 1, h => by
    have ih := thS_Nw hk hkn hn hQl hQ hdis i (by omega)
    obtain ⟨w1, w2, l1, l2, h0⟩ := hk _ (getD_mem (l := k) (i := i) (by omega))
    have hx := raw_Sx (k.getD i nul3).1 w1 w2 h0
    have hxe : (qcs k).getD i 0 = mkRat (zv (k.getD i nul3).1 (k.getD i nul3).2.1) (nv B (k.getD i nul3).2.2) := qcs_get k i (by omega)
    obtain ⟨_, _, _, h4⟩ := Nw_step hx hxe hn (by omega) ih (fun j hj => by rw [← hxe]; exact hdis i j (by omega) hj)
    rw [← hxe] at h4
    exact h4
theorem c24 {i : Nat} (h : i ≤ 12) : i * 24 ^ i ≤ B ^ 1 := by
  have h1 : (24 : Nat) ^ i ≤ 24 ^ 12 := Nat.pow_le_pow_right (by decide) h
  have h2 := Nat.mul_le_mul h h1
  exact Nat.le_trans h2 (by decide)
theorem c12 {i : Nat} (h : i ≤ 12) : 12 ^ i ≤ B ^ 1 := Nat.le_trans (Nat.pow_le_pow_right (by decide) h) (by decide)
theorem cp2 {i : Nat} (h : i ≤ 12) : 2 ^ i ≤ B ^ 1 := Nat.le_trans (Nat.pow_le_pow_right (by decide) h) (by decide)
theorem c12' : 12 ≤ B ^ 1 := by decide
theorem nw_sizes {p : Rat → Rat} {xs S B' Q Q0 : List Rat} {G M0 P Y i n d X wl W T : Nat} {x : Rat} (hx : Sx' x d X) (hn : n ≤ 12) (hi : i < n) (hp : p = val Q0) (hQ0 : PB Q0 G M0) (lQ0 : Q0.length ≤ 12)
    (hG : G ≤ B ^ wl) (hM : M0 ≤ B ^ wl) (hP : P ≤ B ^ W) (hY : Y ≤ B ^ W) (hPd : P * d ≤ B ^ W) (hYX : Y * X ≤ B ^ W) (hX : X ≤ B ^ W) (hT : wl + W ≤ T)
    (h : Nw p xs S B' Q G M0 P Y i n) (h' : Nw p xs (nwS S B' (val Q x)) (nwB B' x) (syn Q x) G M0 (P * d) (Y * X) (i + 1) n)
    (hc : Fq (val Q x) (G * (P * d) ^ 12) (M0 * 12 ^ (i + 1) * (Y * X) ^ 12)) :
    Hz B' x (26 * T + 10) ∧ Hz S x (26 * T + 10) ∧ Sz (p x) (26 * T + 10) ∧ Sz (val B' x * val Q x) (26 * T + 10) ∧ Sz (val Q x) (13 * T + 10) ∧ Cq B' (13 * T + 10) ∧ Cq S (26 * T + 10) ∧
    Cq (B'.map fun y => y * val Q x) (26 * T + 10) ∧ Cq (nwS S B' (val Q x)) (26 * T + 10) ∧ Cq (linr x 0 B') (26 * T + 10) ∧ P < B ^ (26 * T + 10) ∧ 2 ^ i * Y < B ^ (26 * T + 10) := by
  have hd := Nat.le_trans hx.dX hX
  have hGz := h.hQ.1
  have hG0 : G ≠ 0 := fun e => hGz (by rw [e, Nat.zero_mul])
  have hP0 := h.hB.1
  have hPd0 := h'.hB.1
  have pw : ∀ {u : Nat} (k : Nat), u ≠ 0 → u ^ k ≠ 0 := fun k hu => Nat.pos_iff_ne_zero.1 (Nat.pow_pos (Nat.pos_of_ne_zero hu))
  have bB : 2 ^ i * Y ≤ B ^ (1 + W) := B_mul (cp2 (by omega)) hY
  have bS : i * M0 * 24 ^ i * Y ^ 13 ≤ B ^ (1 + wl + 13 * W) := by
    have := B_mul (B_mul (c24 (show i ≤ 12 by omega)) hM) (B_pow hY 13)
    rwa [show i * 24 ^ i * M0 * Y ^ 13 = i * M0 * 24 ^ i * Y ^ 13 from by rw [Nat.mul_right_comm i]] at this
  have bC : M0 * 12 ^ (i + 1) * (Y * X) ^ 12 ≤ B ^ (wl + 1 + 12 * W) := B_mul (B_mul hM (c12 (by omega))) (B_pow hYX 12)
  have eC : G * (P * d) ^ 12 ≤ B ^ (wl + 12 * W) := B_mul hG (B_pow hPd 12)
  have eS : G * P ^ 13 ≤ B ^ (wl + 13 * W) := B_mul hG (B_pow hP 13)
  have lB := h.lB
  have lS := h.lS
  refine ⟨Hz_of hx h.hB (by omega) (B_lt (B_mul hP (B_pow hd 13)) (by omega)) (B_lt (B_mul (B_mul c12' bB) (B_pow hX 13)) (by omega)),
    Hz_of hx h.hS (by omega) (B_lt (B_mul eS (B_pow hd 13)) (by omega)) (B_lt (B_mul (B_mul c12' bS) (B_pow hX 13)) (by omega)), ?_, ?_,
    Fq_Sz (Nat.mul_ne_zero hG0 (pw 12 hPd0)) hc (B_lt eC (by omega)) (B_lt bC (by omega)),
    fun k => Fq_Sz hP0 (h.hB.2 k) (B_lt hP (by omega)) (B_lt bB (by omega)), fun k => Fq_Sz h.hS.1 (h.hS.2 k) (B_lt eS (by omega)) (B_lt bS (by omega)), fun k => ?_, fun k => ?_, fun k => ?_, B_lt hP (by omega), B_lt bB (by omega)⟩
  · rw [hp]
    exact Fq_Sz (Nat.mul_ne_zero hG0 (pw 12 hx.d0)) (val_Fq hx hQ0.1 (n := 12) hQ0.2 lQ0) (B_lt (B_mul hG (B_pow hd 12)) (by omega)) (B_lt (B_mul (B_mul c12' hM) (B_pow hX 12)) (by omega))
  · have f1 := val_Fq hx h.hB.1 (n := 12) h.hB.2 (by omega)
    have f2 := Fq_mul (Nat.mul_ne_zero hP0 (pw 12 hx.d0)) (Nat.mul_ne_zero hG0 (pw 12 hPd0)) f1 hc
    exact Fq_Sz (Nat.mul_ne_zero (Nat.mul_ne_zero hP0 (pw 12 hx.d0)) (Nat.mul_ne_zero hG0 (pw 12 hPd0))) f2 (B_lt (B_mul (B_mul hP (B_pow hd 12)) eC) (by omega)) (B_lt (B_mul (B_mul (B_mul c12' bB) (B_pow hX 12)) bC) (by omega))
  · rw [map_cf]
    exact Fq_Sz (Nat.mul_ne_zero hP0 (Nat.mul_ne_zero hG0 (pw 12 hPd0))) (Fq_mul hP0 (Nat.mul_ne_zero hG0 (pw 12 hPd0)) (h.hB.2 k) hc) (B_lt (B_mul hP eC) (by omega)) (B_lt (B_mul bB bC) (by omega))
  · have bS' : (i + 1) * M0 * 24 ^ (i + 1) * (Y * X) ^ 13 ≤ B ^ (1 + wl + 13 * W) := by
      have := B_mul (B_mul (c24 (show i + 1 ≤ 12 by omega)) hM) (B_pow hYX 13)
      rwa [show (i + 1) * 24 ^ (i + 1) * M0 * (Y * X) ^ 13 = (i + 1) * M0 * 24 ^ (i + 1) * (Y * X) ^ 13 from by rw [Nat.mul_right_comm (i + 1)]] at this
    exact Fq_Sz h'.hS.1 (h'.hS.2 k) (B_lt (B_mul hG (B_pow hPd 13)) (by omega)) (B_lt bS' (by omega))
  · have := h'.hB.2 k
    unfold nwB at this
    rw [tzq_cf] at this
    exact Fq_Sz hPd0 this (B_lt hPd (by omega)) (B_lt (B_mul (cp2 (show i + 1 ≤ 12 by omega)) hYX) (by omega))
end Go.Proofs.YtbkpaeejjepnpaaGreat
