/-
  surdtop.SurdDivisions.
-/
import Derived.Test.YtbkpaeejjepnpaaGreatQP7
namespace Go.Proofs.YtbkpaeejjepnpaaGreat
open Go Go.RowKit Ab
set_option linter.unusedSimpArgs false
set_option linter.unusedVariables false
set_option maxHeartbeats 10000000
theorem vmc_share {F G : Nat → List V → V → Prop} {v : V} {a b b2 r : AC} {k : List Fr} {Q : Ex → St → Prop} {s : St} (P : St → Prop)
    (h2 : ∀ s', P s' → vm F G (.c r :: k) Q s') (h1 : ∀ r', (∀ s', P s' → vm F G (.c r' :: k) Q s') → vmc F G v a b (.c (.seq b2 r') :: k) Q s) : vmc F G v a b (.c (.seq b2 r) :: k) Q s := h1 r h2
def mulq (a b : List Rat) : List Rat := (List.range (a.length + b.length)).map fun k => cvq (fun i => a.getD i 0) (fun i => b.getD i 0) k
theorem mulq_cf (a b : List Rat) (k : Nat) : (mulq a b).getD k 0 = cvq (fun i => a.getD i 0) (fun i => b.getD i 0) k := by
  by_cases h : k < a.length + b.length
  · unfold mulq
    rw [List.getD_eq_getElem?_getD, List.getElem?_map, List.getElem?_range h]; rfl
  · rw [gq0 (by unfold mulq; simp; omega)]
    refine (sq_zero fun u hu => ?_).symm
    show a.getD u 0 * b.getD (k - u) 0 = 0
    by_cases h1 : a.length ≤ u
    · rw [gq0 (l := a) h1]; grind
    · rw [gq0 (l := b) (by omega)]; grind
def r40 (l : R3) : R3 := if 40 < l.length then l.take 40 else l
theorem r40_len (l : R3) : (r40 l).length ≤ 40 := by
  unfold r40
  split
  · rw [List.length_take]; omega
  · omega
theorem r40_mem {l : R3} {p : Bool × List Nat × List Nat} (h : p ∈ r40 l) : p ∈ l := by
  unfold r40 at h
  split at h
  · exact List.mem_of_mem_take h
  · exact h
theorem wt_take : ∀ (l : R3) (n : Nat), wt (l.take n) ≤ wt l
  | [], n => by simp
  | p :: r, 0 => by simp [wt]
  | p :: r, n + 1 => by simp only [List.take_succ_cons, wt]; have := wt_take r n; omega
theorem r40_wt (l : R3) : wt (r40 l) ≤ wt l := by
  unfold r40
  split
  · exact wt_take l 40
  · exact Nat.le_refl _
theorem RC_take : ∀ (l : R3) (n : Nat), (RC l).take (n * 3) = RC (l.take n)
  | [], n => by simp [RC]
  | p :: r, 0 => by simp [RC]
  | p :: r, n + 1 => by
    rw [show (n + 1) * 3 = n * 3 + 1 + 1 + 1 from by omega]
    simp only [RC, List.take_succ_cons, RC_take r n]
theorem Qw_k {l : R3} {m : Nat} (h : Qw l m) (hc : ce l = 0) : Qk l m := fun p hp => by
  obtain ⟨h1, h2, h3, h4⟩ := h p hp
  obtain ⟨i, hi, rfl⟩ := List.getElem_of_mem hp
  have := ce_0 hc hi
  rw [List.getD_eq_getElem?_getD, List.getElem?_eq_getElem hi] at this
  exact ⟨h1, h2, h3, h4, this⟩
def lhalf : R3 := [(false, [1], [2]), (false, [1], [1])]
theorem lhalf_D : clD (tzq (qcs lhalf)) = 2 := by decide +kernel
theorem lhalf_Z : clZ (tzq (qcs lhalf)) = [1, 2] := by decide +kernel
theorem Wd_one {x : Nat} (h : x < B) : Wd [x] := fun d hd => by
  rcases List.mem_singleton.1 hd with rfl
  exact h
theorem lhalf_k : Qk lhalf 10 := fun p hp => by
  rcases List.mem_cons.1 hp with rfl | hp
  · exact ⟨Wd_one (by decide), Wd_one (by decide), by decide, by decide, by decide⟩
  · rcases List.mem_cons.1 hp with rfl | hp
    · exact ⟨Wd_one (by decide), Wd_one (by decide), by decide, by decide, by decide⟩
    · cases hp
theorem B_le {u v : Nat} (h : u ≤ v) : B ^ u ≤ B ^ v := Nat.pow_le_pow_right B0 h
theorem B_lt {x u v : Nat} (h : x ≤ B ^ u) (k : u < v) : x < B ^ v := Nat.lt_of_le_of_lt h (Nat.pow_lt_pow_right (by decide) k)
theorem B_mul {x y u v : Nat} (h : x ≤ B ^ u) (k : y ≤ B ^ v) : x * y ≤ B ^ (u + v) := by rw [Nat.pow_add]; exact Nat.mul_le_mul h k
theorem B_pow {x u : Nat} (h : x ≤ B ^ u) (j : Nat) : x ^ j ≤ B ^ (j * u) := by rw [Nat.mul_comm, Nat.pow_mul]; exact Nat.pow_le_pow_left h j
theorem B_2 {x u : Nat} (h : x ≤ B ^ u) : 2 * x ≤ B ^ (u + 1) := by
  rw [Nat.pow_succ, Nat.mul_comm]
  exact Nat.mul_le_mul h (by decide)
theorem div_law {l k : R3} {m0 T : Nat} (hl : Qk l m0) (hk : Qk k m0) (ll : l.length ≤ 40) (lk : k.length ≤ 40) (hT : wt l + wt k ≤ T) (hC : 0 < (tzq (qcs k)).length) :
    ∃ L, By (tzq (qcs k)) L (DD k) (B ^ wt k) ∧ Dv (tzq (qcs l)) (tzq (qcs k)) (tzq (qcs l)) (List.replicate ((tzq (qcs l)).length + 1 - (tzq (qcs k)).length) 0) (DD l) (B ^ wt l) L (DD k) (B ^ wt k) 0 ∧
      (∀ j, j ≤ 40 → DD l * L ^ j < B ^ (41 * T + 42) ∧ B ^ wt l * (2 * B ^ wt k) ^ j < B ^ (41 * T + 42) ∧ B ^ wt l * (2 * B ^ wt k) ^ j * DD k < B ^ (41 * T + 42) ∧ B ^ wt l * (2 * B ^ wt k) ^ j * B ^ wt k < B ^ (41 * T + 42) ∧ B ^ wt l * L ^ j + B ^ wt l * (2 * B ^ wt k) ^ j < B ^ (41 * T + 42)) := by
  obtain ⟨d1, d2, d3⟩ := raw_PB hl
  obtain ⟨e1, e2, e3⟩ := raw_PB hk
  obtain ⟨K, hK, hKM⟩ := e3 ((tzq (qcs k)).length - 1)
  rw [← tzq_cf] at hK
  have hn := tzq_lead (tzq_idem (qcs k)) hC
  have hL0 : K.natAbs ≠ 0 := fun h => by
    have : K = 0 := Int.natAbs_eq_zero.1 h
    rw [this] at hK
    apply hn
    rw [hK]
    simp [Rat.div_def]
  refine ⟨K.natAbs, ⟨tzq_idem _, hC, e1, hL0, hKM, fun i => ?_, ⟨K, hK, rfl⟩⟩, Dv_0 (tzq_idem _) e1 ⟨d1, fun i => by rw [tzq_cf]; exact d3 i⟩, fun j hj => ?_⟩
  · obtain ⟨Q, hQ, hQM⟩ := e3 i
    exact ⟨Q, by rw [tzq_cf]; exact hQ, hQM⟩
  · have wk40 : j * wt k ≤ 40 * wt k := Nat.mul_le_mul_right _ hj
    have wk41 : j * (wt k + 1) ≤ 40 * (wt k + 1) := Nat.mul_le_mul_right _ hj
    have b1 := B_mul d2 (B_pow hKM j)
    have b2 := B_mul (Nat.le_refl (B ^ wt l)) (B_pow (B_2 (Nat.le_refl (B ^ wt k))) j)
    have b3 := B_mul b2 e2
    have b4 := B_mul b2 (Nat.le_refl (B ^ wt k))
    have b5 : B ^ wt l * K.natAbs ^ j + B ^ wt l * (2 * B ^ wt k) ^ j ≤ 2 * B ^ (wt l + j * (wt k + 1)) := by
      have b6 := B_mul (Nat.le_refl (B ^ wt l)) (B_pow hKM j)
      have b7 := Nat.le_trans b6 (B_le (show wt l + j * wt k ≤ wt l + j * (wt k + 1) by rw [Nat.mul_succ]; omega))
      omega
    have b8 := Nat.le_trans b5 (B_2 (Nat.le_refl _))
    exact ⟨B_lt b1 (by omega), B_lt b2 (by omega), B_lt b3 (by omega), B_lt b4 (by omega), B_lt b8 (by omega)⟩
theorem back_law {A : List Rat} (tA : tzq A = A) (h0 : clD A ≠ 0) : tzq ((rof (tzi (clZ A))).map fun x => x * mkRat 1 (clD A)) = A := tzq_eq (tzq_idem _) tA fun i => by
  rw [tzq_cf]
  have e : ((rof (tzi (clZ A))).map fun x => x * mkRat 1 (clD A)).getD i 0 = (rof (tzi (clZ A))).getD i 0 * mkRat 1 (clD A) := by
    rw [List.getD_eq_getElem?_getD, List.getElem?_map, List.getD_eq_getElem?_getD]
    cases (rof (tzi (clZ A)))[i]? <;> simp
  rw [e, rof_get, tzi_cf, clZ_q i h0, Rat.mkRat_eq_div]
  have := ratE h0
  grind
theorem integ_law {A : List Rat} (tA : tzq A = A) : tzq (drq (tzq (if A.length = 0 then [] else inq A))) = A := tzq_eq (tzq_idem _) tA fun i => by
  rw [tzq_cf, drq_cf, tzq_cf]
  by_cases h : A.length = 0
  · rw [if_pos h, gq0 (l := A) (by omega)]
    simp
  · rw [if_neg h, inq_cf, Rat.mkRat_eq_div, Rat.mkRat_eq_div]
    have := ratE (show i + 1 ≠ 0 by omega)
    rw [Rat.intCast_natCast]
    grind
theorem integ_size {A : List Rat} {m : Nat} (h : Cq A m) (lA : A.length ≤ 1000) (hm : m ≤ 10000000) : Cq (if A.length = 0 then [] else inq A) (m + 1 + (m + 1)) := by
  have z : Cq ([] : List Rat) (m + 1 + (m + 1)) := (Qk_Cq (l := []) (m := m + 1 + m) (fun p hp => by cases hp))
  split
  · exact z
  · intro i
    cases i with
    | zero => exact z 0
    | succ i =>
      by_cases hi : i < A.length
      · rw [inq_get A i hi]
        exact Rr_num (qmulR (Cq_Rr (Cq_up h (show m ≤ m + 1 by omega)) i) (pqof 1 (i + 1) m (by decide) (by decide) (by omega) (by omega)).2 (by omega)).2
      · rw [gq0 (by rw [inq_len]; omega)]; exact z 0
end Go.Proofs.YtbkpaeejjepnpaaGreat
