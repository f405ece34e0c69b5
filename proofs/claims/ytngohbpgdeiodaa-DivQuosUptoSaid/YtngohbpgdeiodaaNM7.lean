/-
  Plain numbers: the reference's division: a row doubled, a row less another, in place.
-/
import Derived.Test.YtngohbpgdeiodaaNM6
namespace Go.Proofs.Ytngohbpgdeiodaa
open Go Go.RowKit Ab
set_option linter.unusedSimpArgs false
set_option linter.unusedVariables false
set_option maxHeartbeats 10000000

/-- a row doubled, a bit put in: one digit -/
theorem dbl_step {R c P : Nat} (hP : 0 < P) :
    2 * (R / P % 256) + (2 * (R % P) + c) / P = (2 * (R % (P * 256)) + c) / P ∧ (2 * R + c) / P % 256 = (2 * (R / P % 256) + (2 * (R % P) + c) / P) % 256 ∧
    (2 * (R / P % 256) + (2 * (R % P) + c) / P) / 256 = (2 * (R % (P * 256)) + c) / (P * 256) := by
  have e1 : R % (P * 256) = R % P + P * (R / P % 256) := Nat.mod_mul
  have h1 : (2 * (R % (P * 256)) + c) / P = 2 * (R / P % 256) + (2 * (R % P) + c) / P := by
    rw [e1, show 2 * (R % P + P * (R / P % 256)) + c = (2 * (R % P) + c) + P * (2 * (R / P % 256)) from by rw [Nat.mul_add, Nat.mul_left_comm]; omega, Nat.add_mul_div_left _ _ hP]
    omega
  refine ⟨h1.symm, ?_, ?_⟩
  · rw [← h1]
    have e2 := Nat.div_add_mod R (P * 256)
    have : 2 * R + c = (2 * (R % (P * 256)) + c) + P * (512 * (R / (P * 256))) := by
      have e3 : P * (512 * (R / (P * 256))) = 2 * (P * 256 * (R / (P * 256))) := by rw [Nat.mul_assoc P 256, Nat.mul_left_comm 2 P]; congr 1; omega
      omega
    rw [this, Nat.add_mul_div_left _ _ hP]
    omega
  · rw [← h1, Nat.div_div_eq_div_mul]
/-- k digits of the doubled row, then those of the row -/
def dbL (n R c k : Nat) : List Nat := fl 256 k (2 * R + c) ++ (fl 256 n R).drop k
def dbC (R c k : Nat) : Nat := (2 * (R % 256 ^ k) + c) / 256 ^ k
theorem dbL_len {n R c k : Nat} (h : k ≤ n) : (dbL n R c k).length = n := by unfold dbL; rw [List.length_append, List.length_drop, fl_len, fl_len]; omega
theorem dbL_get {n R c k : Nat} (h : k < n) : (dbL n R c k).getD k 0 = R / 256 ^ k % 256 := by
  unfold dbL
  rw [List.getD_eq_getElem?_getD, List.getElem?_append_right (by rw [fl_len]; exact Nat.le_refl _), fl_len, Nat.sub_self, List.getElem?_drop, Nat.add_zero, ← List.getD_eq_getElem?_getD, fl_get _ _ _ h]
theorem dbL_set {n R c k : Nat} (h : k < n) : (dbL n R c k).set k ((2 * (R / 256 ^ k % 256) + dbC R c k) % 256) = dbL n R c (k + 1) := by
  have h2 := (dbl_step (R := R) (c := c) (P := 256 ^ k) (Nat.pow_pos (by decide))).2.1
  unfold dbL dbC
  rw [← h2, fl_succ, List.set_append_right _ _ (by rw [fl_len]; exact Nat.le_refl _), fl_len, Nat.sub_self, List.drop_eq_getElem_cons (by rw [fl_len]; exact h), List.set_cons_zero, List.append_assoc]
  rfl
theorem dbC_succ {R c k : Nat} : (2 * (R / 256 ^ k % 256) + dbC R c k) / 256 = dbC R c (k + 1) := by
  have h2 := (dbl_step (R := R) (c := c) (P := 256 ^ k) (Nat.pow_pos (by decide))).2.2
  unfold dbC
  rw [h2, Nat.pow_succ]
theorem dbC_lt {R c k : Nat} (hc : c ≤ 1) : dbC R c k ≤ 1 := by
  unfold dbC
  have hP := Nat.pow_pos (n := k) (by decide : 0 < 256)
  have := Nat.mod_lt R hP
  exact Nat.le_of_lt_succ ((Nat.div_lt_iff_lt_mul hP).2 (by omega))
theorem dbL_0 {n R c : Nat} : dbL n R c 0 = fl 256 n R := by simp [dbL, fl]
theorem dbC_0 {R c : Nat} : dbC R c 0 = c := by unfold dbC; simp [Nat.mod_one]
theorem dbL_n {n R c : Nat} : dbL n R c n = fl 256 n (2 * R + c) := by unfold dbL; rw [List.drop_of_length_le (by rw [fl_len]; exact Nat.le_refl _), List.append_nil]

/-- k digits of the difference, then those of the row -/
def sbL (n R Y k : Nat) : List Nat := fl 256 k (R + 256 ^ n - Y) ++ (fl 256 n R).drop k
def sbC (R Y k : Nat) : Nat := if R % 256 ^ k < Y % 256 ^ k then 1 else 0
theorem sbL_len {n R Y k : Nat} (h : k ≤ n) : (sbL n R Y k).length = n := by unfold sbL; rw [List.length_append, List.length_drop, fl_len, fl_len]; omega
theorem sbL_get {n R Y k : Nat} (h : k < n) : (sbL n R Y k).getD k 0 = R / 256 ^ k % 256 := by
  unfold sbL
  rw [List.getD_eq_getElem?_getD, List.getElem?_append_right (by rw [fl_len]; exact Nat.le_refl _), fl_len, Nat.sub_self, List.getElem?_drop, Nat.add_zero, ← List.getD_eq_getElem?_getD, fl_get _ _ _ h]
theorem sb_step {n R Y k : Nat} (hY : Y < 256 ^ n) (h : k < n) :
    (R + 256 ^ n - Y) / 256 ^ k % 256 = (R / 256 ^ k % 256 + 256 - (Y / 256 ^ k % 256 + sbC R Y k)) % 256 ∧ sbC R Y (k + 1) = if R / 256 ^ k % 256 < Y / 256 ^ k % 256 + sbC R Y k then 1 else 0 := by
  have hP := Nat.pow_pos (n := k) (by decide : 0 < 256)
  obtain ⟨s1, s2, s3⟩ := sub_step (b := 256) hP (Nat.mod_lt R hP) (Nat.mod_lt Y hP) (Nat.mod_lt (R / 256 ^ k) (by decide)) (Nat.mod_lt (Y / 256 ^ k) (by decide))
  have e1 : R % (256 ^ k * 256) = R % 256 ^ k + 256 ^ k * (R / 256 ^ k % 256) := Nat.mod_mul
  have e2 : Y % (256 ^ k * 256) = Y % 256 ^ k + 256 ^ k * (Y / 256 ^ k % 256) := Nat.mod_mul
  rw [← e1, ← e2] at s1 s3
  refine ⟨?_, ?_⟩
  · show _ = (R / 256 ^ k % 256 + 256 - (Y / 256 ^ k % 256 + if R % 256 ^ k < Y % 256 ^ k then 1 else 0)) % 256
    rw [← s1]
    have hQ : 256 ^ k * 256 = 256 ^ (k + 1) := (Nat.pow_succ ..).symm
    have hN : 256 ^ n = 256 ^ (k + 1) * 256 ^ (n - (k + 1)) := by rw [← Nat.pow_add]; congr 1; omega
    rw [hQ]
    have d1 := Nat.div_add_mod R (256 ^ (k + 1))
    have d2 := Nat.div_add_mod Y (256 ^ (k + 1))
    have l1 := Nat.mod_lt R (Nat.pow_pos (n := k + 1) (by decide : 0 < 256))
    have l2 := Nat.mod_lt Y (Nat.pow_pos (n := k + 1) (by decide : 0 < 256))
    have hyq : Y / 256 ^ (k + 1) < 256 ^ (n - (k + 1)) := (Nat.div_lt_iff_lt_mul (Nat.pow_pos (by decide))).2 (by rw [Nat.mul_comm, ← hN]; exact hY)
    rw [← Nat.mod_mul_right_div_self, ← Nat.mod_mul_right_div_self, hQ]
    congr 1
    generalize Y / 256 ^ (k + 1) = yq at *
    generalize R / 256 ^ (k + 1) = rq at *
    generalize R % 256 ^ (k + 1) = rm at *
    generalize Y % 256 ^ (k + 1) = ym at *
    obtain ⟨z, hz⟩ : ∃ z, 256 ^ (n - (k + 1)) = yq + 1 + z := ⟨256 ^ (n - (k + 1)) - yq - 1, by omega⟩
    rw [hN, hz]
    have e3 : R + 256 ^ (k + 1) * (yq + 1 + z) - Y = (rm + 256 ^ (k + 1) - ym) + 256 ^ (k + 1) * (rq + z) := by
      rw [Nat.mul_add, Nat.mul_add, Nat.mul_add, Nat.mul_one]
      generalize 256 ^ (k + 1) * yq = u1 at *
      generalize 256 ^ (k + 1) * rq = u2 at *
      generalize 256 ^ (k + 1) * z = u3 at *
      omega
    rw [e3, Nat.add_mul_mod_self_left]
  · unfold sbC
    rw [Nat.pow_succ]
    simp only [s3]
theorem sbL_set {n R Y k : Nat} (hY : Y < 256 ^ n) (h : k < n) : (sbL n R Y k).set k ((R / 256 ^ k % 256 + 256 - (Y / 256 ^ k % 256 + sbC R Y k)) % 256) = sbL n R Y (k + 1) := by
  rw [← (sb_step hY h).1]
  unfold sbL
  rw [fl_succ, List.set_append_right _ _ (by rw [fl_len]; exact Nat.le_refl _), fl_len, Nat.sub_self, List.drop_eq_getElem_cons (by rw [fl_len]; exact h), List.set_cons_zero, List.append_assoc]
  rfl
theorem sbC_le {R Y k : Nat} : sbC R Y k ≤ 1 := by unfold sbC; split <;> omega
theorem sbL_0 {n R Y : Nat} : sbL n R Y 0 = fl 256 n R := by simp [sbL, fl]
theorem sbC_0 {R Y : Nat} : sbC R Y 0 = 0 := by unfold sbC; simp [Nat.mod_one]
theorem sbL_n {n R Y : Nat} (h : Y ≤ R) : sbL n R Y n = fl 256 n (R - Y) := by
  unfold sbL
  rw [List.drop_of_length_le (by rw [fl_len]; exact Nat.le_refl _), List.append_nil]
  refine fl_congr (by decide) ?_
  generalize 256 ^ n = P
  rw [show R + P - Y = (R - Y) + P from by omega, Nat.add_mod_right]

/-- a bit more of the quotient, of the rest -/
theorem quo_bit {V b c : Nat} (hb : 0 < b) (hc : c ≤ 1) :
    (b ≤ 2 * (V % b) + c → (2 * V + c) / b = 2 * (V / b) + 1 ∧ (2 * V + c) % b = 2 * (V % b) + c - b) ∧ (2 * (V % b) + c < b → (2 * V + c) / b = 2 * (V / b) ∧ (2 * V + c) % b = 2 * (V % b) + c) := by
  have e := Nat.div_add_mod V b
  have hm := Nat.mod_lt V hb
  have h : 2 * V + c = (2 * (V % b) + c) + b * (2 * (V / b)) := by rw [Nat.mul_left_comm]; omega
  rw [h, Nat.add_mul_div_left _ _ hb, Nat.add_mul_mod_self_left]
  refine ⟨fun h1 => ?_, fun h1 => ?_⟩
  · have h2 : (2 * (V % b) + c) / b = 1 := by
      rw [show 2 * (V % b) + c = (2 * (V % b) + c - b) + b from by omega, Nat.add_div_right _ hb, Nat.div_eq_of_lt (by omega)]
    have h3 : (2 * (V % b) + c) % b = 2 * (V % b) + c - b := by
      conv => lhs; rw [show 2 * (V % b) + c = (2 * (V % b) + c - b) + b from by omega]
      rw [Nat.add_mod_right, Nat.mod_eq_of_lt (by omega)]
    rw [h2, h3]; omega
  · rw [Nat.div_eq_of_lt h1, Nat.mod_eq_of_lt h1]; omega
/-- bits of the quotient from above -/
def qbL (A b L i : Nat) : List Nat := List.replicate i 0 ++ fl 2 (L - i) (A / 2 ^ i / b)
theorem qbL_len {A b L i : Nat} (h : i ≤ L) : (qbL A b L i).length = L := by unfold qbL; rw [List.length_append, List.length_replicate, fl_len]; omega
theorem qbL_succ {A b L i : Nat} (h : i + 1 ≤ L) (d : Nat) (h1 : A / 2 ^ i / b % 2 = d) (h2 : A / 2 ^ i / b / 2 = A / 2 ^ (i + 1) / b) : (qbL A b L (i + 1)).set i d = qbL A b L i := by
  unfold qbL
  rw [show L - i = (L - (i + 1)) + 1 from by omega, fl, h1, h2, List.replicate_succ', List.append_assoc, List.set_append_right _ _ (by rw [List.length_replicate]; exact Nat.le_refl _), List.length_replicate, Nat.sub_self]
  rfl
theorem qbL_same {A b L i : Nat} (h : i + 1 ≤ L) (h1 : A / 2 ^ i / b % 2 = 0) (h2 : A / 2 ^ i / b / 2 = A / 2 ^ (i + 1) / b) : qbL A b L (i + 1) = qbL A b L i := by
  rw [← qbL_succ h 0 h1 h2]
  unfold qbL
  rw [List.replicate_succ', List.append_assoc, List.set_append_right _ _ (by rw [List.length_replicate]; exact Nat.le_refl _), List.length_replicate, Nat.sub_self]
  rfl
theorem bit_split (A i : Nat) : A / 2 ^ i = 2 * (A / 2 ^ (i + 1)) + A / 2 ^ i % 2 := by
  rw [Nat.pow_succ, ← Nat.div_div_eq_div_mul]; omega

/-- comparing from above: from j on they are the same -/
theorem least_of {x y : List Nat} (hx : Lt 256 x) (hy : Lt 256 y) (i : Nat) (h : ∀ j, i + 1 ≤ j → x.getD j 0 = y.getD j 0) (hne : x.getD i 0 ≠ y.getD i 0) : (y.getD i 0 < x.getD i 0) = (nv 256 y ≤ nv 256 x) := by
  obtain ⟨e1, e2⟩ := nv_eq_of (B := 256) (l := x) (r := y) (i + 1) h
  rcases Nat.lt_or_ge (x.getD i 0) (y.getD i 0) with h1 | h1
  · have := e1.1 (cmp_lt (by decide) hx hy i h1)
    exact propext ⟨fun h => by omega, fun h => by omega⟩
  · have h2 : y.getD i 0 < x.getD i 0 := by omega
    have h3 := cmp_lt (by decide : 0 < 256) hy hx i h2
    have : ¬ nv 256 x < nv 256 y := fun h => by have := e1.2 h; omega
    exact propext ⟨fun h => by omega, fun _ => h2⟩
theorem least_eq {x y : List Nat} (hl : x.length = y.length) (h : ∀ j, 0 ≤ j → x.getD j 0 = y.getD j 0) : x = y := by
  refine List.ext_getElem hl fun n h3 h4 => ?_
  have := h n (Nat.zero_le _)
  simpa [List.getD_eq_getElem?_getD, h3, h4] using this

/-- how often b divides a, what is left -/
def oft (b : Nat) : Nat → Nat → Nat × Nat
  | 0, a => (0, a)
  | f + 1, a => if a % b = 0 then ((oft b f (a / b)).1 + 1, (oft b f (a / b)).2) else (0, a)
theorem oft_no {b a f : Nat} (h : a % b ≠ 0) : oft b f a = (0, a) := by cases f <;> simp [oft, h]
theorem oft_yes {b a f : Nat} (h : a % b = 0) : oft b (f + 1) a = ((oft b f (a / b)).1 + 1, (oft b f (a / b)).2) := by simp [oft, h]
theorem oft_lt {b a : Nat} (hb : 2 ≤ b) (ha : 0 < a) (h : a % b = 0) : 0 < a / b ∧ a / b < a := by
  have := Nat.div_add_mod a b
  refine ⟨?_, Nat.div_lt_self ha hb⟩
  rcases Nat.eq_zero_or_pos (a / b) with h1 | h1
  · rw [h1, h] at this; omega
  · exact h1
end Go.Proofs.Ytngohbpgdeiodaa
