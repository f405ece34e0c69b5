/-
  Plain numbers: lists of digits, their value, the list without zeros above, so many digits of a number.
-/
namespace Go.Proofs.Ytngohbpgdeiodaa
set_option linter.unusedSimpArgs false
set_option linter.unusedVariables false
set_option maxHeartbeats 10000000

def nv (b : Nat) : List Nat → Nat
  | [] => 0
  | x :: r => x + b * nv b r
def tz : List Nat → List Nat
  | [] => []
  | x :: r => if x = 0 ∧ tz r = [] then [] else x :: tz r
/-- n digits of v -/
def fl (b : Nat) : Nat → Nat → List Nat
  | 0, _ => []
  | n + 1, v => v % b :: fl b n (v / b)
/-- the digits of v, none 0 above -/
def dg (b v : Nat) : List Nat := tz (fl b v v)
def Lt (b : Nat) (l : List Nat) : Prop := ∀ x, x ∈ l → x < b

section
variable {b : Nat}
theorem Lt_nil : Lt b [] := fun x h => by cases h
theorem Lt_cons {x : Nat} {l : List Nat} : Lt b (x :: l) ↔ x < b ∧ Lt b l := by simp [Lt]
theorem Lt_app {l r : List Nat} : Lt b (l ++ r) ↔ Lt b l ∧ Lt b r := by simp only [Lt, List.mem_append]; exact ⟨fun h => ⟨fun x hx => h x (.inl hx), fun x hx => h x (.inr hx)⟩, fun h x hx => hx.elim (h.1 x) (h.2 x)⟩
theorem Lt_take {l : List Nat} (h : Lt b l) (i : Nat) : Lt b (l.take i) := fun x hx => h x (List.mem_of_mem_take hx)
theorem Lt_drop {l : List Nat} (h : Lt b l) (i : Nat) : Lt b (l.drop i) := fun x hx => h x (List.mem_of_mem_drop hx)
theorem Lt_get {l : List Nat} (h : Lt b l) (hb : 0 < b) (i : Nat) : l.getD i 0 < b := by
  rw [List.getD_eq_getElem?_getD]
  cases e : l[i]? with
  | none => simpa using hb
  | some x => exact h x (List.mem_of_getElem? e)
theorem Lt_rep {n : Nat} (hb : 0 < b) : Lt b (List.replicate n 0) := fun x hx => by rw [List.mem_replicate] at hx; omega
theorem Lt_set {l : List Nat} (h : Lt b l) (i x : Nat) (hx : x < b) : Lt b (l.set i x) := fun y hy => by
  rcases List.mem_or_eq_of_mem_set hy with h1 | h1
  · exact h y h1
  · omega
theorem nv_nil : nv b [] = 0 := rfl
theorem nv_cons {x : Nat} {l : List Nat} : nv b (x :: l) = x + b * nv b l := rfl
theorem nv_one {x : Nat} : nv b [x] = x := by simp [nv]
theorem nv_app : ∀ (l r : List Nat), nv b (l ++ r) = nv b l + b ^ l.length * nv b r
  | [], r => by simp [nv]
  | x :: l, r => by
    simp only [List.cons_append, nv, nv_app l r, List.length_cons, Nat.pow_succ]
    rw [Nat.mul_add, Nat.add_assoc, Nat.mul_comm (b ^ l.length) b, Nat.mul_assoc]
theorem nv_rep (n : Nat) : nv b (List.replicate n 0) = 0 := by
  induction n with
  | zero => rfl
  | succ n ih => rw [List.replicate_succ, nv_cons, ih]; simp
theorem nv_lt : ∀ {l : List Nat}, Lt b l → nv b l < b ^ l.length
  | [], _ => by simp [nv]
  | x :: l, h => by
    have h1 := (Lt_cons.1 h).1
    have h2 := nv_lt (Lt_cons.1 h).2
    simp only [nv, List.length_cons, Nat.pow_succ]
    have : b * (nv b l + 1) ≤ b * b ^ l.length := Nat.mul_le_mul_left _ h2
    rw [Nat.mul_comm (b ^ l.length)]
    rw [Nat.mul_add] at this
    omega
theorem nv_take_drop (l : List Nat) (i : Nat) (hi : i ≤ l.length) : nv b l = nv b (l.take i) + b ^ i * nv b (l.drop i) := by
  have h := nv_app (b := b) (l.take i) (l.drop i)
  rw [List.take_append_drop, List.length_take, Nat.min_eq_left hi] at h
  exact h
theorem nv_take_succ (l : List Nat) (i : Nat) (hi : i < l.length) : nv b (l.take (i + 1)) = nv b (l.take i) + b ^ i * l.getD i 0 := by
  rw [List.take_succ_eq_append_getElem hi, nv_app, List.length_take, Nat.min_eq_left (Nat.le_of_lt hi), nv_one, List.getD_eq_getElem?_getD, List.getElem?_eq_getElem hi]; rfl
theorem nv_drop_get (l : List Nat) (i : Nat) (hi : i < l.length) : nv b (l.drop i) = l.getD i 0 + b * nv b (l.drop (i + 1)) := by
  rw [List.drop_eq_getElem_cons hi, nv_cons, List.getD_eq_getElem?_getD, List.getElem?_eq_getElem hi]; rfl
/-- beyond the list there are zeros -/
theorem nv_take_succ' (l : List Nat) (i : Nat) : nv b (l.take (i + 1)) = nv b (l.take i) + b ^ i * l.getD i 0 := by
  rcases Nat.lt_or_ge i l.length with h | h
  · exact nv_take_succ l i h
  · rw [List.take_of_length_le (by omega), List.take_of_length_le h, List.getD_eq_getElem?_getD, List.getElem?_eq_none h]; simp

theorem fl_len : ∀ (n v : Nat), (fl b n v).length = n
  | 0, _ => rfl
  | n + 1, v => by simp [fl, fl_len n]
theorem fl_Lt (hb : 0 < b) : ∀ (n v : Nat), Lt b (fl b n v)
  | 0, _ => Lt_nil
  | n + 1, v => Lt_cons.2 ⟨Nat.mod_lt _ hb, fl_Lt hb n _⟩
theorem nv_fl : ∀ (n v : Nat), nv b (fl b n v) = v % b ^ n
  | 0, v => by simp [fl, nv, Nat.mod_one]
  | n + 1, v => by rw [fl, nv_cons, nv_fl n, Nat.pow_succ, Nat.mul_comm (b ^ n), Nat.mod_mul]
theorem fl_nv : ∀ {l : List Nat}, Lt b l → fl b l.length (nv b l) = l
  | [], _ => rfl
  | x :: l, h => by
    have h1 := (Lt_cons.1 h).1
    simp only [List.length_cons, fl, nv]
    rw [Nat.add_mul_mod_self_left, Nat.mod_eq_of_lt h1, Nat.add_mul_div_left _ _ (by omega : 0 < b), Nat.div_eq_of_lt h1, Nat.zero_add, fl_nv (Lt_cons.1 h).2]
theorem fl_zero (n : Nat) : fl b n 0 = List.replicate n 0 := by
  induction n with
  | zero => rfl
  | succ n ih => simp [fl, ih, List.replicate_succ]
theorem fl_mod (hb : 0 < b) (n v : Nat) : fl b n (v % b ^ n) = fl b n v := by
  have h1 := fl_nv (fl_Lt hb n v)
  rw [fl_len, nv_fl] at h1; exact h1
theorem fl_add (n k v : Nat) : fl b (n + k) v = fl b n v ++ fl b k (v / b ^ n) := by
  induction n generalizing v with
  | zero => simp [fl]
  | succ n ih =>
    rw [show n + 1 + k = (n + k) + 1 from by omega]
    simp only [fl, List.cons_append]
    rw [ih, Nat.div_div_eq_div_mul, Nat.pow_succ, Nat.mul_comm b]
theorem fl_succ (n v : Nat) : fl b (n + 1) v = fl b n v ++ [v / b ^ n % b] := by rw [fl_add]; rfl
theorem fl_big (n k v : Nat) (hv : v < b ^ n) : fl b (n + k) v = fl b n v ++ List.replicate k 0 := by rw [fl_add, Nat.div_eq_of_lt hv, fl_zero]
theorem eq_of_nv {l r : List Nat} (hl : Lt b l) (hr : Lt b r) (hn : l.length = r.length) (hv : nv b l = nv b r) : l = r := by
  rw [← fl_nv hl, ← fl_nv hr, hn, hv]

theorem tz_rep (n : Nat) : tz (List.replicate n 0) = [] := by
  induction n with
  | zero => rfl
  | succ n ih => rw [List.replicate_succ, tz, ih]; simp
theorem tz_app_rep : ∀ (l : List Nat) (n : Nat), tz (l ++ List.replicate n 0) = tz l
  | [], n => tz_rep n
  | x :: l, n => by simp only [List.cons_append, tz, tz_app_rep l n]
theorem tz_split : ∀ (l : List Nat), ∃ n, l = tz l ++ List.replicate n 0
  | [] => ⟨0, rfl⟩
  | x :: l => by
    obtain ⟨n, h⟩ := tz_split l
    simp only [tz]
    split
    · rename_i hx
      refine ⟨n + 1, ?_⟩
      rw [hx.2] at h
      rw [List.replicate_succ, h, hx.1]; simp
    · exact ⟨n, by rw [List.cons_append, ← h]⟩
theorem tz_len (l : List Nat) : (tz l).length ≤ l.length := by
  obtain ⟨n, h⟩ := tz_split l
  have := congrArg List.length h
  simp at this; omega
theorem tz_take (l : List Nat) : l.take (tz l).length = tz l := by
  obtain ⟨n, h⟩ := tz_split l
  have : (tz l ++ List.replicate n 0).take (tz l).length = tz l := by simp
  rw [← h] at this; exact this
theorem nv_tz (l : List Nat) : nv b (tz l) = nv b l := by
  obtain ⟨n, h⟩ := tz_split l
  have : nv b (tz l ++ List.replicate n 0) = nv b (tz l) := by rw [nv_app, nv_rep]; simp
  rw [← h] at this; exact this.symm
theorem Lt_tz {l : List Nat} (h : Lt b l) : Lt b (tz l) := by rw [← tz_take]; exact Lt_take h _
theorem tz_tz (l : List Nat) : tz (tz l) = tz l := by
  obtain ⟨n, h⟩ := tz_split l
  have : tz (tz l ++ List.replicate n 0) = tz (tz l) := tz_app_rep _ _
  rw [← h] at this; exact this.symm
theorem tz_zero (l : List Nat) (i : Nat) (hi : i < l.length) (h0 : l.getD i 0 = 0) : tz (l.take (i + 1)) = tz (l.take i) := by
  rw [List.take_succ_eq_append_getElem hi]
  have : l[i] = 0 := by rw [List.getD_eq_getElem?_getD, List.getElem?_eq_getElem hi] at h0; exact h0
  rw [this]
  exact tz_app_rep _ 1
theorem tz_last : ∀ (l : List Nat) (x : Nat), x ≠ 0 → tz (l ++ [x]) = l ++ [x]
  | [], x, h => by simp [tz, h]
  | y :: l, x, h => by simp [tz, tz_last l x h]
theorem tz_top (l : List Nat) (i : Nat) (hi : i < l.length) (h0 : l.getD i 0 ≠ 0) : (tz (l.take (i + 1))).length = i + 1 := by
  rw [List.take_succ_eq_append_getElem hi, tz_last _ _ (by rw [List.getD_eq_getElem?_getD, List.getElem?_eq_getElem hi] at h0; exact h0)]
  simp; omega
/-- the digits of a number, from any list of them -/
theorem tz_dg {l : List Nat} (hb : 2 ≤ b) (h : Lt b l) : tz l = dg b (nv b l) := by
  unfold dg
  have key : ∀ n, nv b l < b ^ n → tz (fl b n (nv b l)) = tz l := fun n hn => by
    rcases Nat.le_total l.length n with h1 | h1
    · have : n = l.length + (n - l.length) := by omega
      rw [this, fl_big _ _ _ (nv_lt h), fl_nv h, tz_app_rep]
    · have : l.length = n + (l.length - n) := by omega
      have e : l = fl b n (nv b l) ++ List.replicate (l.length - n) 0 := by
        rw [← fl_big _ _ _ hn, ← this, fl_nv h]
      have := tz_app_rep (fl b n (nv b l)) (l.length - n)
      rw [← e] at this; exact this.symm
  exact (key _ (Nat.lt_of_lt_of_le Nat.lt_two_pow_self (Nat.pow_le_pow_left hb _))).symm
theorem dg_Lt (hb : 0 < b) (v : Nat) : Lt b (dg b v) := Lt_tz (fl_Lt hb _ _)
theorem nv_dg (hb : 2 ≤ b) (v : Nat) : nv b (dg b v) = v := by
  unfold dg
  rw [nv_tz, nv_fl, Nat.mod_eq_of_lt (Nat.lt_of_lt_of_le Nat.lt_two_pow_self (Nat.pow_le_pow_left hb _))]
theorem tz_dg' (v : Nat) : tz (dg b v) = dg b v := tz_tz _
theorem dg_fl (hb : 2 ≤ b) {n v : Nat} (h : v < b ^ n) : tz (fl b n v) = dg b v := by
  rw [tz_dg hb (fl_Lt (by omega) _ _), nv_fl, Nat.mod_eq_of_lt h]
theorem dg_zero : dg b 0 = [] := rfl
theorem dg_inj (hb : 2 ≤ b) {v u : Nat} (h : dg b v = dg b u) : v = u := by rw [← nv_dg hb v, h, nv_dg hb]
theorem dg_nil (hb : 2 ≤ b) {v : Nat} : dg b v = [] ↔ v = 0 := ⟨fun h => dg_inj hb (h.trans dg_zero.symm), fun h => by rw [h, dg_zero]⟩
theorem dg_len (hb : 2 ≤ b) {n v : Nat} (h : v < b ^ n) : (dg b v).length ≤ n := by rw [← dg_fl hb h]; exact Nat.le_trans (tz_len _) (by rw [fl_len]; exact Nat.le_refl _)
theorem tz_nil_iff {l : List Nat} (hb : 0 < b) : tz l = [] ↔ nv b l = 0 := by
  constructor
  · intro h; rw [← nv_tz, h]; rfl
  · intro h
    induction l with
    | nil => rfl
    | cons x l ih =>
      rw [nv_cons] at h
      have h2 : nv b l = 0 := by
        rcases Nat.eq_zero_or_pos (nv b l) with h3 | h3
        · exact h3
        · have := Nat.mul_pos hb h3; omega
      rw [tz, ih h2]; simp; omega
end
end Go.Proofs.Ytngohbpgdeiodaa
