/-
  The texts NM7, NM9, M8, M9.
-/
import Derived.Test.YtjcmhoiabakclaaDoorGF
import Derived.Test.YtjcmhoiabakclaaDoorGE
import Derived.Test.YtjcmhoiabakclaaDoorGC
/- NM7 -/
namespace Go.Proofs.YtjcmhoiabakclaaDoor
open Go Go.RowKit Ab
set_option linter.unusedSimpArgs false
set_option linter.unusedVariables false
set_option maxHeartbeats 10000000

/-- a row doubled, a bit put in: one digit -/
theorem dbl_step {R c P : Nat} (hP : 0 < P) :
    2 * (R / P % 256) + (2 * (R % P) + c) / P = (2 * (R % (P * 256)) + c) / P ∧ (2 * R + c) / P % 256 = (2 * (R / P % 256) + (2 * (R % P) + c) / P) % 256 ∧
    (2 * (R / P % 256) + (2 * (R % P) + c) / P) / 256 = (2 * (R % (P * 256)) + c) / (P * 256) := by
  have e1 : R % (P * 256) = R % P + P * (R / P % 256) := Nat.mod_mul
  have h1 : (2 * (R % (P * 256)) + c) / P = 2 * (R / P % 256) + (2 * (R % P) + c) / P := by
    rw [e1, show 2 * (R % P + P * (R / P % 256)) + c = (2 * (R % P) + c) + P * (2 * (R / P % 256)) from by rw [Nat.mul_add, Nat.mul_left_comm]; omega, Nat.add_mul_div_left _ _ hP]
    omega
  refine ⟨h1.symm, ?_, ?_⟩
  · rw [← h1]
    have e2 := Nat.div_add_mod R (P * 256)
    have : 2 * R + c = (2 * (R % (P * 256)) + c) + P * (512 * (R / (P * 256))) := by
      have e3 : P * (512 * (R / (P * 256))) = 2 * (P * 256 * (R / (P * 256))) := by rw [Nat.mul_assoc P 256, Nat.mul_left_comm 2 P]; congr 1; omega
      omega
    rw [this, Nat.add_mul_div_left _ _ hP]
    omega
  · rw [← h1, Nat.div_div_eq_div_mul]
/-- k digits of the doubled row, then those of the row -/
def dbL (n R c k : Nat) : List Nat := fl 256 k (2 * R + c) ++ (fl 256 n R).drop k
def dbC (R c k : Nat) : Nat := (2 * (R % 256 ^ k) + c) / 256 ^ k
theorem dbL_len {n R c k : Nat} (h : k ≤ n) : (dbL n R c k).length = n := by unfold dbL; rw [List.length_append, List.length_drop, fl_len, fl_len]; omega
theorem dbL_get {n R c k : Nat} (h : k < n) : (dbL n R c k).getD k 0 = R / 256 ^ k % 256 := by
  unfold dbL
  rw [List.getD_eq_getElem?_getD, List.getElem?_append_right (by rw [fl_len]; exact Nat.le_refl _), fl_len, Nat.sub_self, List.getElem?_drop, Nat.add_zero, ← List.getD_eq_getElem?_getD, fl_get _ _ _ h]
theorem dbL_set {n R c k : Nat} (h : k < n) : (dbL n R c k).set k ((2 * (R / 256 ^ k % 256) + dbC R c k) % 256) = dbL n R c (k + 1) := by
  have h2 := (dbl_step (R := R) (c := c) (P := 256 ^ k) (Nat.pow_pos (by decide))).2.1
  unfold dbL dbC
  rw [← h2, fl_succ, List.set_append_right _ _ (by rw [fl_len]; exact Nat.le_refl _), fl_len, Nat.sub_self, List.drop_eq_getElem_cons (by rw [fl_len]; exact h), List.set_cons_zero, List.append_assoc]
  rfl
theorem dbC_succ {R c k : Nat} : (2 * (R / 256 ^ k % 256) + dbC R c k) / 256 = dbC R c (k + 1) := by
  have h2 := (dbl_step (R := R) (c := c) (P := 256 ^ k) (Nat.pow_pos (by decide))).2.2
  unfold dbC
  rw [h2, Nat.pow_succ]
theorem dbC_lt {R c k : Nat} (hc : c ≤ 1) : dbC R c k ≤ 1 := by
  unfold dbC
  have hP := Nat.pow_pos (n := k) (by decide : 0 < 256)
  have := Nat.mod_lt R hP
  exact Nat.le_of_lt_succ ((Nat.div_lt_iff_lt_mul hP).2 (by omega))
theorem dbL_0 {n R c : Nat} : dbL n R c 0 = fl 256 n R := by simp [dbL, fl]
theorem dbC_0 {R c : Nat} : dbC R c 0 = c := by unfold dbC; simp [Nat.mod_one]
theorem dbL_n {n R c : Nat} : dbL n R c n = fl 256 n (2 * R + c) := by unfold dbL; rw [List.drop_of_length_le (by rw [fl_len]; exact Nat.le_refl _), List.append_nil]

/-- k digits of the difference, then those of the row -/
def sbL (n R Y k : Nat) : List Nat := fl 256 k (R + 256 ^ n - Y) ++ (fl 256 n R).drop k
def sbC (R Y k : Nat) : Nat := if R % 256 ^ k < Y % 256 ^ k then 1 else 0
theorem sbL_len {n R Y k : Nat} (h : k ≤ n) : (sbL n R Y k).length = n := by unfold sbL; rw [List.length_append, List.length_drop, fl_len, fl_len]; omega
theorem sbL_get {n R Y k : Nat} (h : k < n) : (sbL n R Y k).getD k 0 = R / 256 ^ k % 256 := by
  unfold sbL
  rw [List.getD_eq_getElem?_getD, List.getElem?_append_right (by rw [fl_len]; exact Nat.le_refl _), fl_len, Nat.sub_self, List.getElem?_drop, Nat.add_zero, ← List.getD_eq_getElem?_getD, fl_get _ _ _ h]
theorem sb_step {n R Y k : Nat} (hY : Y < 256 ^ n) (h : k < n) :
    (R + 256 ^ n - Y) / 256 ^ k % 256 = (R / 256 ^ k % 256 + 256 - (Y / 256 ^ k % 256 + sbC R Y k)) % 256 ∧ sbC R Y (k + 1) = if R / 256 ^ k % 256 < Y / 256 ^ k % 256 + sbC R Y k then 1 else 0 := by
  have hP := Nat.pow_pos (n := k) (by decide : 0 < 256)
  obtain ⟨s1, s2, s3⟩ := sub_step (b := 256) hP (Nat.mod_lt R hP) (Nat.mod_lt Y hP) (Nat.mod_lt (R / 256 ^ k) (by decide)) (Nat.mod_lt (Y / 256 ^ k) (by decide))
  have e1 : R % (256 ^ k * 256) = R % 256 ^ k + 256 ^ k * (R / 256 ^ k % 256) := Nat.mod_mul
  have e2 : Y % (256 ^ k * 256) = Y % 256 ^ k + 256 ^ k * (Y / 256 ^ k % 256) := Nat.mod_mul
  rw [← e1, ← e2] at s1 s3
  refine ⟨?_, ?_⟩
  · show _ = (R / 256 ^ k % 256 + 256 - (Y / 256 ^ k % 256 + if R % 256 ^ k < Y % 256 ^ k then 1 else 0)) % 256
    rw [← s1]
    have hQ : 256 ^ k * 256 = 256 ^ (k + 1) := (Nat.pow_succ ..).symm
    have hN : 256 ^ n = 256 ^ (k + 1) * 256 ^ (n - (k + 1)) := by rw [← Nat.pow_add]; congr 1; omega
    rw [hQ]
    have d1 := Nat.div_add_mod R (256 ^ (k + 1))
    have d2 := Nat.div_add_mod Y (256 ^ (k + 1))
    have l1 := Nat.mod_lt R (Nat.pow_pos (n := k + 1) (by decide : 0 < 256))
    have l2 := Nat.mod_lt Y (Nat.pow_pos (n := k + 1) (by decide : 0 < 256))
    have hyq : Y / 256 ^ (k + 1) < 256 ^ (n - (k + 1)) := (Nat.div_lt_iff_lt_mul (Nat.pow_pos (by decide))).2 (by rw [Nat.mul_comm, ← hN]; exact hY)
    rw [← Nat.mod_mul_right_div_self, ← Nat.mod_mul_right_div_self, hQ]
    congr 1
    generalize Y / 256 ^ (k + 1) = yq at *
    generalize R / 256 ^ (k + 1) = rq at *
    generalize R % 256 ^ (k + 1) = rm at *
    generalize Y % 256 ^ (k + 1) = ym at *
    obtain ⟨z, hz⟩ : ∃ z, 256 ^ (n - (k + 1)) = yq + 1 + z := ⟨256 ^ (n - (k + 1)) - yq - 1, by omega⟩
    rw [hN, hz]
    have e3 : R + 256 ^ (k + 1) * (yq + 1 + z) - Y = (rm + 256 ^ (k + 1) - ym) + 256 ^ (k + 1) * (rq + z) := by
      rw [Nat.mul_add, Nat.mul_add, Nat.mul_add, Nat.mul_one]
      generalize 256 ^ (k + 1) * yq = u1 at *
      generalize 256 ^ (k + 1) * rq = u2 at *
      generalize 256 ^ (k + 1) * z = u3 at *
      omega
    rw [e3, Nat.add_mul_mod_self_left]
  · unfold sbC
    rw [Nat.pow_succ]
    simp only [s3]
theorem sbL_set {n R Y k : Nat} (hY : Y < 256 ^ n) (h : k < n) : (sbL n R Y k).set k ((R / 256 ^ k % 256 + 256 - (Y / 256 ^ k % 256 + sbC R Y k)) % 256) = sbL n R Y (k + 1) := by
  rw [← (sb_step hY h).1]
  unfold sbL
  rw [fl_succ, List.set_append_right _ _ (by rw [fl_len]; exact Nat.le_refl _), fl_len, Nat.sub_self, List.drop_eq_getElem_cons (by rw [fl_len]; exact h), List.set_cons_zero, List.append_assoc]
  rfl
theorem sbC_le {R Y k : Nat} : sbC R Y k ≤ 1 := by unfold sbC; split <;> omega
theorem sbL_0 {n R Y : Nat} : sbL n R Y 0 = fl 256 n R := by simp [sbL, fl]
theorem sbC_0 {R Y : Nat} : sbC R Y 0 = 0 := by unfold sbC; simp [Nat.mod_one]
theorem sbL_n {n R Y : Nat} (h : Y ≤ R) : sbL n R Y n = fl 256 n (R - Y) := by
  unfold sbL
  rw [List.drop_of_length_le (by rw [fl_len]; exact Nat.le_refl _), List.append_nil]
  refine fl_congr (by decide) ?_
  generalize 256 ^ n = P
  rw [show R + P - Y = (R - Y) + P from by omega, Nat.add_mod_right]

/-- a bit more of the quotient, of the rest -/
theorem quo_bit {V b c : Nat} (hb : 0 < b) (hc : c ≤ 1) :
    (b ≤ 2 * (V % b) + c → (2 * V + c) / b = 2 * (V / b) + 1 ∧ (2 * V + c) % b = 2 * (V % b) + c - b) ∧ (2 * (V % b) + c < b → (2 * V + c) / b = 2 * (V / b) ∧ (2 * V + c) % b = 2 * (V % b) + c) := by
  have e := Nat.div_add_mod V b
  have hm := Nat.mod_lt V hb
  have h : 2 * V + c = (2 * (V % b) + c) + b * (2 * (V / b)) := by rw [Nat.mul_left_comm]; omega
  rw [h, Nat.add_mul_div_left _ _ hb, Nat.add_mul_mod_self_left]
  refine ⟨fun h1 => ?_, fun h1 => ?_⟩
  · have h2 : (2 * (V % b) + c) / b = 1 := by
      rw [show 2 * (V % b) + c = (2 * (V % b) + c - b) + b from by omega, Nat.add_div_right _ hb, Nat.div_eq_of_lt (by omega)]
    have h3 : (2 * (V % b) + c) % b = 2 * (V % b) + c - b := by
      conv => lhs; rw [show 2 * (V % b) + c = (2 * (V % b) + c - b) + b from by omega]
      rw [Nat.add_mod_right, Nat.mod_eq_of_lt (by omega)]
    rw [h2, h3]; omega
  · rw [Nat.div_eq_of_lt h1, Nat.mod_eq_of_lt h1]; omega
/-- bits of the quotient from above -/
def qbL (A b L i : Nat) : List Nat := List.replicate i 0 ++ fl 2 (L - i) (A / 2 ^ i / b)
theorem qbL_len {A b L i : Nat} (h : i ≤ L) : (qbL A b L i).length = L := by unfold qbL; rw [List.length_append, List.length_replicate, fl_len]; omega
theorem qbL_succ {A b L i : Nat} (h : i + 1 ≤ L) (d : Nat) (h1 : A / 2 ^ i / b % 2 = d) (h2 : A / 2 ^ i / b / 2 = A / 2 ^ (i + 1) / b) : (qbL A b L (i + 1)).set i d = qbL A b L i := by
  unfold qbL
  rw [show L - i = (L - (i + 1)) + 1 from by omega, fl, h1, h2, List.replicate_succ', List.append_assoc, List.set_append_right _ _ (by rw [List.length_replicate]; exact Nat.le_refl _), List.length_replicate, Nat.sub_self]
  rfl
theorem qbL_same {A b L i : Nat} (h : i + 1 ≤ L) (h1 : A / 2 ^ i / b % 2 = 0) (h2 : A / 2 ^ i / b / 2 = A / 2 ^ (i + 1) / b) : qbL A b L (i + 1) = qbL A b L i := by
  rw [← qbL_succ h 0 h1 h2]
  unfold qbL
  rw [List.replicate_succ', List.append_assoc, List.set_append_right _ _ (by rw [List.length_replicate]; exact Nat.le_refl _), List.length_replicate, Nat.sub_self]
  rfl
theorem bit_split (A i : Nat) : A / 2 ^ i = 2 * (A / 2 ^ (i + 1)) + A / 2 ^ i % 2 := by
  rw [Nat.pow_succ, ← Nat.div_div_eq_div_mul]; omega

/-- comparing from above: from j on they are the same -/
theorem least_of {x y : List Nat} (hx : Lt 256 x) (hy : Lt 256 y) (i : Nat) (h : ∀ j, i + 1 ≤ j → x.getD j 0 = y.getD j 0) (hne : x.getD i 0 ≠ y.getD i 0) : (y.getD i 0 < x.getD i 0) = (nv 256 y ≤ nv 256 x) := by
  obtain ⟨e1, e2⟩ := nv_eq_of (B := 256) (l := x) (r := y) (i + 1) h
  rcases Nat.lt_or_ge (x.getD i 0) (y.getD i 0) with h1 | h1
  · have := e1.1 (cmp_lt (by decide) hx hy i h1)
    exact propext ⟨fun h => by omega, fun h => by omega⟩
  · have h2 : y.getD i 0 < x.getD i 0 := by omega
    have h3 := cmp_lt (by decide : 0 < 256) hy hx i h2
    have : ¬ nv 256 x < nv 256 y := fun h => by have := e1.2 h; omega
    exact propext ⟨fun h => by omega, fun _ => h2⟩
theorem least_eq {x y : List Nat} (hl : x.length = y.length) (h : ∀ j, 0 ≤ j → x.getD j 0 = y.getD j 0) : x = y := by
  refine List.ext_getElem hl fun n h3 h4 => ?_
  have := h n (Nat.zero_le _)
  simpa [List.getD_eq_getElem?_getD, h3, h4] using this

/-- how often b divides a, what is left -/
def oft (b : Nat) : Nat → Nat → Nat × Nat
  | 0, a => (0, a)
  | f + 1, a => if a % b = 0 then ((oft b f (a / b)).1 + 1, (oft b f (a / b)).2) else (0, a)
theorem oft_no {b a f : Nat} (h : a % b ≠ 0) : oft b f a = (0, a) := by cases f <;> simp [oft, h]
theorem oft_yes {b a f : Nat} (h : a % b = 0) : oft b (f + 1) a = ((oft b f (a / b)).1 + 1, (oft b f (a / b)).2) := by simp [oft, h]
theorem oft_lt {b a : Nat} (hb : 2 ≤ b) (ha : 0 < a) (h : a % b = 0) : 0 < a / b ∧ a / b < a := by
  have := Nat.div_add_mod a b
  refine ⟨?_, Nat.div_lt_self ha hb⟩
  rcases Nat.eq_zero_or_pos (a / b) with h1 | h1
  · rw [h1, h] at this; omega
  · exact h1
end Go.Proofs.YtjcmhoiabakclaaDoor

/- NM9 -/
namespace Go.Proofs.YtjcmhoiabakclaaDoor
open Go Go.RowKit Ab
set_option linter.unusedSimpArgs false
set_option linter.unusedVariables false
set_option maxHeartbeats 10000000

/-- quotient, remainder, the code -/
def qQ (u v : Nat) : List Nat := dg B (u / v)
def qR (u v : Nat) : List Nat := if v = 0 then [] else dg B (u % v)
def qE (v : Nat) : Int := if v = 0 then 1 else 0
theorem qQ_0 (u : Nat) : qQ u 0 = [] := by unfold qQ; rw [Nat.div_zero]; rfl
theorem qR_0 (u : Nat) : qR u 0 = [] := if_pos rfl
theorem qE_0 : qE 0 = 1 := rfl
theorem qR_p {u v : Nat} (h : 0 < v) : qR u v = dg B (u % v) := if_neg (by omega)
theorem qE_p {v : Nat} (h : 0 < v) : qE v = 0 := if_neg (by omega)
theorem W1 (x : Nat) : W [x] = [.i .u64 (x : Int)] := rfl
theorem tz_dgW {a : List Nat} (ha : Wd a) : tz a = dg B (nv B a) := tz_dg B2 ha
theorem dg_one {w : Nat} (h0 : 0 < w) (hw : w < B) : dg B w = [w] := by
  rw [← dg_fl B2 (n := 1) (by rw [Nat.pow_one]; exact hw), fl, fl, Nat.mod_eq_of_lt hw, tz, tz, if_neg (by omega)]
theorem nv_get1 {b : List Nat} (h : b.length = 1) : b.getD 0 0 = nv B b := by
  match b, h with
  | [x], _ => simp [nv]

theorem qQ_len {u v m : Nat} (h : u < B ^ m) : (qQ u v).length ≤ m := dlen (Nat.lt_of_le_of_lt (Nat.div_le_self _ _) h)
theorem qR_len {u v m : Nat} (h : u < B ^ m) : (qR u v).length ≤ m := by
  unfold qR; split
  · exact Nat.zero_le _
  · exact dlen (Nat.lt_of_le_of_lt (Nat.mod_le _ _) h)
theorem qQ_Wd (u v : Nat) : Wd (qQ u v) := Wd_dg _
theorem qR_Wd (u v : Nat) : Wd (qR u v) := by unfold qR; split; exact Wd_nil; exact Wd_dg _
theorem qQ_nv (u v : Nat) : nv B (qQ u v) = u / v := nv_dgB _
theorem qR_nil {u v : Nat} : (((qR u v).length : Nat) : Int) = 0 ↔ (v = 0 ∨ u % v = 0) := by
  unfold qR
  split
  · rename_i h; simp [h]
  · rename_i h
    constructor
    · intro h1; exact .inr ((dg_nil B2).1 (List.eq_nil_of_length_eq_zero (by omega)))
    · intro h1; rw [(dg_nil B2).2 (by omega)]; rfl

/-- where nothing is left -/
def exQ (u v : Nat) : List Nat := if v = 0 then [] else if u % v = 0 then dg B (u / v) else []
def exE (u v : Nat) : Int := if v = 0 then 1 else if u % v = 0 then 0 else 4
/-- a multiple? -/
def dvB (u v : Nat) : Bool := if v = 0 then decide (u = 0) else decide (u % v = 0)
theorem norm_len0 {a : List Nat} (ha : Wd a) : (((tz a).length : Nat) : Int) = 0 ↔ nv B a = 0 := by
  rw [tz_dg B2 ha]
  constructor
  · intro h; exact (dg_nil B2).1 (List.eq_nil_of_length_eq_zero (by omega))
  · intro h; rw [(dg_nil B2).2 h]; rfl
/-- rounded up, to the nearest -/
def upQ (u v : Nat) : List Nat := if v = 0 then [] else if u % v = 0 then dg B (u / v) else dg B (u / v + 1)
def nrQ (u v : Nat) : List Nat := if v = 0 then [] else if u % v + u % v < v then dg B (u / v) else dg B (u / v + 1)
theorem nv1 : nv B (dg B 1) = 1 := nv_dgB 1
theorem sg_le {x y : Nat} : (sg x y ≤ 0) = (x ≤ y) := by
  unfold sg
  split
  · rename_i h; exact propext ⟨fun _ => Nat.le_of_lt h, fun _ => by decide⟩
  · rename_i h
    split
    · rename_i h2; exact propext ⟨fun _ => Nat.le_of_eq h2, fun _ => by decide⟩
    · exact propext ⟨fun h => absurd h (by decide), fun h => by omega⟩
theorem norm_dg (a : List Nat) (ha : Wd a) (la : a.length ≤ 1099511627776) : AFun Tryd.prog J0 13 [.l 1 (W a)] (.o 24 1 (W (dg B (nv B a)))) := by
  have := norm_spec a la
  rwa [tz_dg B2 ha] at this

/-- how often: the numbers, the code -/
def ofN (a b : Nat) : Nat := if a = 0 ∨ b ≤ 1 then 0 else (oft b a a).1
def ofL (a b : Nat) : List Nat := if a = 0 ∨ b ≤ 1 then [] else dg B (oft b a a).2
def ofE (a b : Nat) : Int := if a = 0 then 1 else if b ≤ 1 then 3 else 0
/-- the loop: n times it was divided, x is left -/
def OfI (a b : Nat) (s : Nat × Nat) : Prop := 0 < s.2 ∧ b ^ s.1 * s.2 = a ∧ ∃ f, s.2 ≤ f ∧ (oft b f s.2).1 + s.1 = (oft b a a).1 ∧ (oft b f s.2).2 = (oft b a a).2
theorem OfI_0 {a b : Nat} (h : 0 < a) : OfI a b (0, a) := ⟨h, by simp, a, Nat.le_refl _, rfl, rfl⟩
theorem OfI_step {a b n x : Nat} (hb : 2 ≤ b) (h : OfI a b (n, x)) (h0 : x % b = 0) : OfI a b (n + 1, x / b) ∧ x / b < x := by
  obtain ⟨h1, h2, f, h3, h4, h5⟩ := h
  simp only [] at h1 h2 h3 h4 h5
  obtain ⟨k1, k2⟩ := oft_lt hb h1 h0
  obtain ⟨f', rfl⟩ : ∃ f', f = f' + 1 := ⟨f - 1, by omega⟩
  rw [oft_yes h0] at h4 h5
  simp only [] at h4 h5
  refine ⟨⟨k1, ?_, f', by simp only; omega, by simp only; omega, h5⟩, k2⟩
  simp only [Nat.pow_succ, Nat.mul_assoc]
  rw [Nat.mul_div_cancel' (Nat.dvd_of_mod_eq_zero h0)]; exact h2
theorem OfI_end {a b n x : Nat} (h : OfI a b (n, x)) (h0 : x % b ≠ 0) : n = (oft b a a).1 ∧ x = (oft b a a).2 := by
  obtain ⟨h1, h2, f, h3, h4, h5⟩ := h
  rw [oft_no h0] at h4 h5
  simp only [] at h4 h5
  exact ⟨by omega, h5⟩
theorem OfI_bnd {a b n x m : Nat} (hb : 2 ≤ b) (h : OfI a b (n, x)) (ha : a < B ^ m) : n ≤ 64 * m ∧ x < B ^ m := by
  obtain ⟨h1, h2, _⟩ := h
  simp only [] at h1 h2
  have h3 : 2 ^ n ≤ b ^ n := Nat.pow_le_pow_left hb n
  have h4 : b ^ n * 1 ≤ b ^ n * x := Nat.mul_le_mul_left _ h1
  have h6 : 1 * x ≤ b ^ n * x := Nat.mul_le_mul_right _ (Nat.pow_pos (by omega))
  have h5 : 2 ^ n < 2 ^ (64 * m) := by
    rw [Nat.pow_mul, show (2 : Nat) ^ 64 = B from rfl]; omega
  have := (Nat.pow_lt_pow_iff_right (by decide : 1 < 2)).1 h5
  omega
end Go.Proofs.YtjcmhoiabakclaaDoor

/- M8 -/
namespace Go.Proofs.YtjcmhoiabakclaaDoor
open Go Go.RowKit Ab
set_option linter.unusedSimpArgs false
set_option linter.unusedVariables false
set_option maxHeartbeats 10000000
theorem bz_M8 : type_of% (And.intro @wi (And.intro @tn_nat (And.intro @Nat.div_one (And.intro @Nat.mul_one (And.intro @W_len (And.intro @W_nf (@W_cell))))))) := And.intro @wi (And.intro @tn_nat (And.intro @Nat.div_one (And.intro @Nat.mul_one (And.intro @W_len (And.intro @W_nf (@W_cell))))))

theorem W_set0 (a : List Nat) (i : Nat) : (W a).set i (.i .u64 0) = W (a.set i 0) := W_set a i 0
theorem kn_un (t c : Nat) (h : c = t + 1) : (if t < c then 1 else 0 : Nat) = 1 := if_pos (by omega)
theorem kn_m1 (t c : Nat) (h : c = t + 1) : (t + 18446744073709551616 - c) % 18446744073709551616 = 18446744073709551615 := by
  rw [h, show t + 18446744073709551616 - (t + 1) = 18446744073709551615 from by omega]
theorem kn_d1 (g d : Nat) (h : g = d + 1) : (g : Int) - 1 = (d : Int) := by omega
theorem wuN (n : Nat) (h : n < 18446744073709551616) : IntKind.wrap .u64 (n : Int) = (n : Int) := wu ⟨Int.natCast_nonneg _, by omega⟩
theorem W_setM (a : List Nat) (i : Nat) : (W a).set i (.i .u64 18446744073709551615) = W (a.set i 18446744073709551615) := W_set a i 18446744073709551615
theorem wrapM : IntKind.wrap .u64 18446744073709551616 = 0 := by decide
theorem tn_add' (a b : Nat) : ((a : Int) + (b : Int)).toNat = a + b := by omega
theorem tn_add1' (a b : Nat) (h : 1 ≤ b) : ((a : Int) + (b : Int) - 1).toNat = a + (b - 1) := by omega
theorem tn_add2' (a b : Nat) (h : 2 ≤ b) : ((a : Int) + (b : Int) - 2).toNat = a + (b - 2) := by omega
theorem tn_s1 (b : Nat) : ((b : Int) - 1).toNat = b - 1 := by omega
theorem tn_s2 (b : Nat) : ((b : Int) - 2).toNat = b - 2 := by omega

end Go.Proofs.YtjcmhoiabakclaaDoor

/- M9 -/
namespace Go.Proofs.YtjcmhoiabakclaaDoor
open Go Go.RowKit Ab
set_option linter.unusedSimpArgs false
set_option linter.unusedVariables false
set_option maxHeartbeats 10000000
theorem bz_M9 : type_of% (And.intro @wi (And.intro @tn_nat (And.intro @Nat.div_one (And.intro @Nat.mul_one (And.intro @W_len (And.intro @W_nf (And.intro @W_cell (And.intro @W_nil (@W_get))))))))) := And.intro @wi (And.intro @tn_nat (And.intro @Nat.div_one (And.intro @Nat.mul_one (And.intro @W_len (And.intro @W_nf (And.intro @W_cell (And.intro @W_nil (@W_get))))))))

-- surd/nat.Of
def a11 : AC := .seq (.reg [⟨some 2, none, .mv (.k .nl)⟩])
  (.seq (.reg [⟨some 3, none, .mv (.t 0)⟩, 
      ⟨some 4, none, .bsl 24 1 1 [(.i .u64 0)] [(0, (.t 3))]⟩, 
      ⟨some 5, none, .call 28 [(1, (.t 4))]⟩, 
      ⟨some 2, none, .mv (.t 5)⟩])
  (.ret))
theorem natOf_spec (w : Nat) (hw : w < 18446744073709551616) : AFun Tryd.prog J0 11 [.i .u64 (w : Int)] (.o 24 1 (W (dg B w))) := by
  have ho := own_dg [w] (fun x hx => by rw [List.mem_singleton] at hx; subst hx; exact hw) (by simp)
  rw [nv_one] at ho
  refine AFun.mk fol J0s Tryd.func11 rfl (ac := a11) (by kernel_rfl) rfl rfl ?_
  apply vm_start
  unfold a11
  simp only [init_eq, initE]
  have zc1 := ho
  repeat first | (refine hK _ ?_; clear hK K) | simp only [Sv, ↓reduceIte, Nat.reduceEqDiff] | ((first | refine vm_reg (fun K hK => ?_) | refine vm_dreg (fun K hK => ?_) | refine vm_dregx (fun K hK => ?_) | refine clp_q ?_ | refine clq_mk (by assumption) ?_); simp (disch := (first | omega | assumption)) only [S1, ↓reduceIte, Nat.reduceEqDiff, Nat.reduceAdd, Nat.reduceMul, Nat.reduceDiv, AOp.sb, AOp.mut, ↓Bool.false_eq_true, beq_self_eq_true, ite_self, Nat.reduceLeDiff, Int.reduceEq, Int.reduceSub, Int.reduceAdd, Int.reduceNeg, Int.reduceLT, Int.reduceLE, Nat.reduceLT, bz_M9, List.length_nil, List.length_cons, W1])
  simp (disch := (first | omega | assumption)) only [retOk, retN, ret1, retF, ret1F, V.okArg, and_true, true_and, S1, ↓reduceIte, Nat.reduceEqDiff, Nat.reduceAdd, Nat.reduceMul, Nat.reduceDiv, AOp.sb, AOp.mut, ↓Bool.false_eq_true, beq_self_eq_true, ite_self, Nat.reduceLeDiff, Int.reduceEq, Int.reduceSub, Int.reduceAdd, Int.reduceNeg, Int.reduceLT, Int.reduceLE, Nat.reduceLT, bz_M9, List.length_nil, List.length_cons, W1]

end Go.Proofs.YtjcmhoiabakclaaDoor
