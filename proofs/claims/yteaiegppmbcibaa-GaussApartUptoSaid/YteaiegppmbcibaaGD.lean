/-
  The texts NM, B0, Ext, NM2, NM3, NM4, Limb1, Limb2, Limb3, Nat1.
-/
import Derived.Test.YteaiegppmbcibaaGC
import Derived.Test.YteaiegppmbcibaaRows
import Derived.Laws.Externs
namespace Go.Proofs.Yteaiegppmbcibaa
set_option linter.unusedSimpArgs false
set_option linter.unusedVariables false
set_option maxHeartbeats 10000000
def nv (b : Nat) : List Nat → Nat
  | [] => 0
  | x :: r => x + b * nv b r
def tz : List Nat → List Nat
  | [] => []
  | x :: r => if x = 0 ∧ tz r = [] then [] else x :: tz r
def fl (b : Nat) : Nat → Nat → List Nat
  | 0, _ => []
  | n + 1, v => v % b :: fl b n (v / b)
def dg (b v : Nat) : List Nat := tz (fl b v v)
def Lt (b : Nat) (l : List Nat) : Prop := ∀ x, x ∈ l → x < b
section
variable {b : Nat}
theorem Lt_nil : Lt b [] := fun x h => by cases h
theorem Lt_cons {x : Nat} {l : List Nat} : Lt b (x :: l) ↔ x < b ∧ Lt b l := by simp [Lt]
theorem Lt_take {l : List Nat} (h : Lt b l) (i : Nat) : Lt b (l.take i) := fun x hx => h x (List.mem_of_mem_take hx)
theorem Lt_get {l : List Nat} (h : Lt b l) (hb : 0 < b) (i : Nat) : l.getD i 0 < b := by
  rw [List.getD_eq_getElem?_getD]
  cases e : l[i]? with
  | none => simpa using hb
  | some x => exact h x (List.mem_of_getElem? e)
theorem Lt_rep {n : Nat} (hb : 0 < b) : Lt b (List.replicate n 0) := fun x hx => by rw [List.mem_replicate] at hx; omega
theorem Lt_set {l : List Nat} (h : Lt b l) (i x : Nat) (hx : x < b) : Lt b (l.set i x) := fun y hy => by
  rcases List.mem_or_eq_of_mem_set hy with h1 | h1
  · exact h y h1
  · omega
theorem nv_cons {x : Nat} {l : List Nat} : nv b (x :: l) = x + b * nv b l := rfl
theorem nv_one {x : Nat} : nv b [x] = x := by simp [nv]
theorem nv_app : ∀ (l r : List Nat), nv b (l ++ r) = nv b l + b ^ l.length * nv b r
  | [], r => by simp [nv]
  | x :: l, r => by
    simp only [List.cons_append, nv, nv_app l r, List.length_cons, Nat.pow_succ]
    rw [Nat.mul_add, Nat.add_assoc, Nat.mul_comm (b ^ l.length) b, Nat.mul_assoc]
theorem nv_rep (n : Nat) : nv b (List.replicate n 0) = 0 := by
  induction n with
  | zero => rfl
  | succ n ih => rw [List.replicate_succ, nv_cons, ih]; simp
theorem nv_lt : ∀ {l : List Nat}, Lt b l → nv b l < b ^ l.length
  | [], _ => by simp [nv]
  | x :: l, h => by
    have h1 := (Lt_cons.1 h).1
    have h2 := nv_lt (Lt_cons.1 h).2
    simp only [nv, List.length_cons, Nat.pow_succ]
    have : b * (nv b l + 1) ≤ b * b ^ l.length := Nat.mul_le_mul_left _ h2
    rw [Nat.mul_comm (b ^ l.length)]
    rw [Nat.mul_add] at this
    omega
theorem nv_take_drop (l : List Nat) (i : Nat) (hi : i ≤ l.length) : nv b l = nv b (l.take i) + b ^ i * nv b (l.drop i) := by
  have h := nv_app (b := b) (l.take i) (l.drop i)
  rw [List.take_append_drop, List.length_take, Nat.min_eq_left hi] at h
  exact h
theorem nv_take_succ (l : List Nat) (i : Nat) (hi : i < l.length) : nv b (l.take (i + 1)) = nv b (l.take i) + b ^ i * l.getD i 0 := by
  rw [List.take_succ_eq_append_getElem hi, nv_app, List.length_take, Nat.min_eq_left (Nat.le_of_lt hi), nv_one, List.getD_eq_getElem?_getD, List.getElem?_eq_getElem hi]; rfl
theorem nv_drop_get (l : List Nat) (i : Nat) (hi : i < l.length) : nv b (l.drop i) = l.getD i 0 + b * nv b (l.drop (i + 1)) := by
  rw [List.drop_eq_getElem_cons hi, nv_cons, List.getD_eq_getElem?_getD, List.getElem?_eq_getElem hi]; rfl
theorem nv_take_succ' (l : List Nat) (i : Nat) : nv b (l.take (i + 1)) = nv b (l.take i) + b ^ i * l.getD i 0 := by
  rcases Nat.lt_or_ge i l.length with h | h
  · exact nv_take_succ l i h
  · rw [List.take_of_length_le (by omega), List.take_of_length_le h, List.getD_eq_getElem?_getD, List.getElem?_eq_none h]; simp
theorem fl_len : ∀ (n v : Nat), (fl b n v).length = n
  | 0, _ => rfl
  | n + 1, v => by simp [fl, fl_len n]
theorem fl_Lt (hb : 0 < b) : ∀ (n v : Nat), Lt b (fl b n v)
  | 0, _ => Lt_nil
  | n + 1, v => Lt_cons.2 ⟨Nat.mod_lt _ hb, fl_Lt hb n _⟩
theorem nv_fl : ∀ (n v : Nat), nv b (fl b n v) = v % b ^ n
  | 0, v => by simp [fl, nv, Nat.mod_one]
  | n + 1, v => by rw [fl, nv_cons, nv_fl n, Nat.pow_succ, Nat.mul_comm (b ^ n), Nat.mod_mul]
theorem fl_nv : ∀ {l : List Nat}, Lt b l → fl b l.length (nv b l) = l
  | [], _ => rfl
  | x :: l, h => by
    have h1 := (Lt_cons.1 h).1
    simp only [List.length_cons, fl, nv]
    rw [Nat.add_mul_mod_self_left, Nat.mod_eq_of_lt h1, Nat.add_mul_div_left _ _ (by omega : 0 < b), Nat.div_eq_of_lt h1, Nat.zero_add, fl_nv (Lt_cons.1 h).2]
theorem fl_zero (n : Nat) : fl b n 0 = List.replicate n 0 := by
  induction n with
  | zero => rfl
  | succ n ih => simp [fl, ih, List.replicate_succ]
theorem fl_mod (hb : 0 < b) (n v : Nat) : fl b n (v % b ^ n) = fl b n v := by
  have h1 := fl_nv (fl_Lt hb n v)
  rw [fl_len, nv_fl] at h1; exact h1
theorem fl_add (n k v : Nat) : fl b (n + k) v = fl b n v ++ fl b k (v / b ^ n) := by
  induction n generalizing v with
  | zero => simp [fl]
  | succ n ih =>
    rw [show n + 1 + k = (n + k) + 1 from by omega]
    simp only [fl, List.cons_append]
    rw [ih, Nat.div_div_eq_div_mul, Nat.pow_succ, Nat.mul_comm b]
theorem fl_succ (n v : Nat) : fl b (n + 1) v = fl b n v ++ [v / b ^ n % b] := by rw [fl_add]; rfl
theorem fl_big (n k v : Nat) (hv : v < b ^ n) : fl b (n + k) v = fl b n v ++ List.replicate k 0 := by rw [fl_add, Nat.div_eq_of_lt hv, fl_zero]
theorem tz_rep (n : Nat) : tz (List.replicate n 0) = [] := by
  induction n with
  | zero => rfl
  | succ n ih => rw [List.replicate_succ, tz, ih]; simp
theorem tz_app_rep : ∀ (l : List Nat) (n : Nat), tz (l ++ List.replicate n 0) = tz l
  | [], n => tz_rep n
  | x :: l, n => by simp only [List.cons_append, tz, tz_app_rep l n]
theorem tz_split : ∀ (l : List Nat), ∃ n, l = tz l ++ List.replicate n 0
  | [] => ⟨0, rfl⟩
  | x :: l => by
    obtain ⟨n, h⟩ := tz_split l
    simp only [tz]
    split
    · rename_i hx
      refine ⟨n + 1, ?_⟩
      rw [hx.2] at h
      rw [List.replicate_succ, h, hx.1]; simp
    · exact ⟨n, by rw [List.cons_append, ← h]⟩
theorem tz_len (l : List Nat) : (tz l).length ≤ l.length := by
  obtain ⟨n, h⟩ := tz_split l
  have := congrArg List.length h
  simp at this; omega
theorem tz_take (l : List Nat) : l.take (tz l).length = tz l := by
  obtain ⟨n, h⟩ := tz_split l
  have : (tz l ++ List.replicate n 0).take (tz l).length = tz l := by simp
  rw [← h] at this; exact this
theorem nv_tz (l : List Nat) : nv b (tz l) = nv b l := by
  obtain ⟨n, h⟩ := tz_split l
  have : nv b (tz l ++ List.replicate n 0) = nv b (tz l) := by rw [nv_app, nv_rep]; simp
  rw [← h] at this; exact this.symm
theorem Lt_tz {l : List Nat} (h : Lt b l) : Lt b (tz l) := by rw [← tz_take]; exact Lt_take h _
theorem tz_tz (l : List Nat) : tz (tz l) = tz l := by
  obtain ⟨n, h⟩ := tz_split l
  have : tz (tz l ++ List.replicate n 0) = tz (tz l) := tz_app_rep _ _
  rw [← h] at this; exact this.symm
theorem tz_zero (l : List Nat) (i : Nat) (hi : i < l.length) (h0 : l.getD i 0 = 0) : tz (l.take (i + 1)) = tz (l.take i) := by
  rw [List.take_succ_eq_append_getElem hi]
  have : l[i] = 0 := by rw [List.getD_eq_getElem?_getD, List.getElem?_eq_getElem hi] at h0; exact h0
  rw [this]
  exact tz_app_rep _ 1
theorem tz_last : ∀ (l : List Nat) (x : Nat), x ≠ 0 → tz (l ++ [x]) = l ++ [x]
  | [], x, h => by simp [tz, h]
  | y :: l, x, h => by simp [tz, tz_last l x h]
theorem tz_top (l : List Nat) (i : Nat) (hi : i < l.length) (h0 : l.getD i 0 ≠ 0) : (tz (l.take (i + 1))).length = i + 1 := by
  rw [List.take_succ_eq_append_getElem hi, tz_last _ _ (by rw [List.getD_eq_getElem?_getD, List.getElem?_eq_getElem hi] at h0; exact h0)]
  simp; omega
theorem tz_dg {l : List Nat} (hb : 2 ≤ b) (h : Lt b l) : tz l = dg b (nv b l) := by
  unfold dg
  have key : ∀ n, nv b l < b ^ n → tz (fl b n (nv b l)) = tz l := fun n hn => by
    rcases Nat.le_total l.length n with h1 | h1
    · have : n = l.length + (n - l.length) := by omega
      rw [this, fl_big _ _ _ (nv_lt h), fl_nv h, tz_app_rep]
    · have : l.length = n + (l.length - n) := by omega
      have e : l = fl b n (nv b l) ++ List.replicate (l.length - n) 0 := by
        rw [← fl_big _ _ _ hn, ← this, fl_nv h]
      have := tz_app_rep (fl b n (nv b l)) (l.length - n)
      rw [← e] at this; exact this.symm
  exact (key _ (Nat.lt_of_lt_of_le Nat.lt_two_pow_self (Nat.pow_le_pow_left hb _))).symm
theorem dg_Lt (hb : 0 < b) (v : Nat) : Lt b (dg b v) := Lt_tz (fl_Lt hb _ _)
theorem nv_dg (hb : 2 ≤ b) (v : Nat) : nv b (dg b v) = v := by
  unfold dg
  rw [nv_tz, nv_fl, Nat.mod_eq_of_lt (Nat.lt_of_lt_of_le Nat.lt_two_pow_self (Nat.pow_le_pow_left hb _))]
theorem tz_dg' (v : Nat) : tz (dg b v) = dg b v := tz_tz _
theorem dg_fl (hb : 2 ≤ b) {n v : Nat} (h : v < b ^ n) : tz (fl b n v) = dg b v := by
  rw [tz_dg hb (fl_Lt (by omega) _ _), nv_fl, Nat.mod_eq_of_lt h]
theorem dg_zero : dg b 0 = [] := rfl
theorem dg_inj (hb : 2 ≤ b) {v u : Nat} (h : dg b v = dg b u) : v = u := by rw [← nv_dg hb v, h, nv_dg hb]
theorem dg_nil (hb : 2 ≤ b) {v : Nat} : dg b v = [] ↔ v = 0 := ⟨fun h => dg_inj hb (h.trans dg_zero.symm), fun h => by rw [h, dg_zero]⟩
theorem dg_len (hb : 2 ≤ b) {n v : Nat} (h : v < b ^ n) : (dg b v).length ≤ n := by rw [← dg_fl hb h]; exact Nat.le_trans (tz_len _) (by rw [fl_len]; exact Nat.le_refl _)
end
end Go.Proofs.Yteaiegppmbcibaa
namespace Go.Proofs.Yteaiegppmbcibaa
open Go Go.RowKit Ab
set_option linter.unusedSimpArgs false
set_option linter.unusedVariables false
set_option maxHeartbeats 10000000
def J0 : World → Prop := fun _ => True
theorem J0s : ∀ (w : World) (e : Nat → Prop) (w' : World), J0 w → BelE w e w' → J0 w' := fun _ _ _ _ _ => trivial
theorem fol : Try.prog.follows .mixedOrders = true := by kernel_rfl
def W (a : List Nat) : List V := a.map fun x : Nat => .i .u64 (x : Int)
def D (a : List Nat) : List V := a.map fun x : Nat => .i .i64 (x : Int)
def B : Nat := 18446744073709551616
def Wd (a : List Nat) : Prop := Lt B a
theorem W_len (a : List Nat) : (W a).length = a.length := by simp [W]
theorem D_len (a : List Nat) : (D a).length = a.length := by simp [D]
theorem W_get (a : List Nat) (i : Nat) (h : i < a.length) : (W a).getD i .un = .i .u64 (a.getD i 0 : Nat) := by
  simp [W, List.getD_eq_getElem?_getD, h]
theorem D_get (a : List Nat) (i : Nat) (h : i < a.length) : (D a).getD i .un = .i .i64 (a.getD i 0 : Nat) := by
  simp [D, List.getD_eq_getElem?_getD, h]
theorem W_take (a : List Nat) (i : Nat) : (W a).take i = W (a.take i) := by simp [W]
theorem D_take (a : List Nat) (i : Nat) : (D a).take i = D (a.take i) := by simp [D]
theorem W_cell (a : List Nat) : (W a).all V.cell = true := by simp [W, V.cell]
theorem W_set (a : List Nat) (i x : Nat) : (W a).set i (.i .u64 (x : Int)) = W (a.set i x) := by simp [W]
theorem W_nf (a : List Nat) : anyNF (W a) = false := by
  induction a with
  | nil => rfl
  | cons x r ih => simpa [W, anyNF, V.nf] using ih
theorem D_nf (a : List Nat) : anyNF (D a) = false := by
  induction a with
  | nil => rfl
  | cons x r ih => simpa [D, anyNF, V.nf] using ih
theorem W_nil : W [] = [] := rfl
theorem D_nil : D [] = [] := rfl
theorem Wd_get {a : List Nat} (h : Wd a) (i : Nat) : a.getD i 0 < 18446744073709551616 := by
  rw [List.getD_eq_getElem?_getD]
  cases e : a[i]? with
  | none => simp
  | some x => exact h x (List.mem_of_getElem? e)
theorem Wd_nil : Wd [] := fun x hx => by cases hx
theorem wi {n : Int} (h : -9223372036854775808 ≤ n ∧ n < 9223372036854775808) : IntKind.i64.wrap n = n := by
  rw [IntKind.wrap_i64]; omega
theorem wu {n : Int} (h : 0 ≤ n ∧ n < 18446744073709551616) : IntKind.u64.wrap n = n := by
  rw [IntKind.wrap_u64]; omega
theorem c0 : ((0 : Nat) : Int) = 0 := rfl
theorem c2 : ((2 : Nat) : Int) = 2 := rfl
theorem c3 : ((3 : Nat) : Int) = 3 := rfl
theorem c13 : ((13 : Nat) : Int) = 13 := rfl
theorem c1 : ((1 : Nat) : Int) = 1 := rfl
theorem tn_sub1 (n : Nat) : ((n : Int) - 1).toNat = n - 1 := by omega
theorem tn_nat (n : Nat) : (n : Int).toNat = n := rfl
theorem S1 : type_of% (And.intro S0 (And.intro c0 (And.intro c1 (And.intro c2 (And.intro c3 c13))))) := And.intro S0 (And.intro c0 (And.intro c1 (And.intro c2 (And.intro c3 c13))))
end Go.Proofs.Yteaiegppmbcibaa
namespace Go.Proofs.Yteaiegppmbcibaa
open Go Go.RowKit Ab
set_option linter.unusedSimpArgs false
set_option linter.unusedVariables false
set_option maxHeartbeats 10000000
end Go.Proofs.Yteaiegppmbcibaa
namespace Go.Proofs.Yteaiegppmbcibaa
set_option linter.unusedSimpArgs false
set_option linter.unusedVariables false
set_option maxHeartbeats 10000000
section
variable {b : Nat}
theorem nv_take_lt {l : List Nat} (hb : 0 < b) (h : Lt b l) (i : Nat) : nv b (l.take i) < b ^ i := by
  have h1 := nv_lt (Lt_take h i)
  exact Nat.lt_of_lt_of_le h1 (Nat.pow_le_pow_right hb (by rw [List.length_take]; exact Nat.min_le_left _ _))
theorem sub_step {P A Y x y : Nat} (hP : 0 < P) (hA : A < P) (hY : Y < P) (hx : x < b) (hy : y < b) :
    ((A + P * x + P * b - (Y + P * y)) / P % b = (x + b - (y + if A < Y then 1 else 0)) % b) ∧ ((A + P * x + P * b - (Y + P * y)) % P = (A + P - Y) % P) ∧ ((A + P * x < Y + P * y) ↔ (x < y + if A < Y then 1 else 0)) := by
  have e : A + P * x + P * b - (Y + P * y) = (A + P - Y) + P * (x + b - y - 1) := by
    have h1 : P * x + P * b = P * (x + b) := (Nat.mul_add _ _ _).symm
    have h2 : P * (x + b) = P * y + P * (x + b - y - 1) + P := by rw [← Nat.mul_add, ← Nat.mul_succ]; congr 1; omega
    omega
  have lt : (A + P * x < Y + P * y) ↔ (x < y + if A < Y then 1 else 0) := by
    constructor
    · intro h
      rcases Nat.lt_or_ge x y with h1 | h1
      · split <;> omega
      · have := Nat.mul_le_mul_left P h1
        rcases Nat.lt_or_ge y x with h2 | h2
        · have h3 : P * (y + 1) ≤ P * x := Nat.mul_le_mul_left P h2
          rw [Nat.mul_succ] at h3; omega
        · have h3 : x = y := by omega
          subst h3
          rw [if_pos (by omega)]; omega
    · intro h
      rcases Nat.lt_or_ge x y with h1 | h1
      · have h3 : P * (x + 1) ≤ P * y := Nat.mul_le_mul_left P h1
        rw [Nat.mul_succ] at h3; omega
      · by_cases h2 : A < Y
        · rw [if_pos h2] at h
          have h3 : x = y := by omega
          subst h3; omega
        · rw [if_neg h2] at h; omega
  refine ⟨?_, ?_, lt⟩
  · rw [e, Nat.add_mul_div_left _ _ hP]
    by_cases h2 : A < Y
    · rw [if_pos h2, Nat.div_eq_of_lt (by omega)]; congr 1; omega
    · rw [if_neg h2]
      have : (A + P - Y) / P = 1 := by
        have h3 : A + P - Y = (A - Y) + P * 1 := by omega
        rw [h3, Nat.add_mul_div_left _ _ hP, Nat.div_eq_of_lt (by omega)]
      rw [this]; congr 1; omega
  · rw [e, Nat.add_mul_mod_self_left]
theorem add_step {P A Y x y : Nat} (hP : 0 < P) (hb : 0 < b) :
    (A + P * x + (Y + P * y)) / P % b = (x + y + (A + Y) / P) % b ∧ (A + P * x + (Y + P * y)) % P = (A + Y) % P ∧ (A + P * x + (Y + P * y)) / (P * b) = (x + y + (A + Y) / P) / b := by
  have e : A + P * x + (Y + P * y) = (A + Y) + P * (x + y) := by rw [Nat.mul_add]; omega
  refine ⟨?_, ?_, ?_⟩
  · rw [e, Nat.add_mul_div_left _ _ hP]; congr 1; omega
  · rw [e, Nat.add_mul_mod_self_left]
  · rw [e, ← Nat.div_div_eq_div_mul, Nat.add_mul_div_left _ _ hP]; congr 1; omega
theorem fl_congr (hb : 0 < b) {n v u : Nat} (h : v % b ^ n = u % b ^ n) : fl b n v = fl b n u := by rw [← fl_mod hb, h, fl_mod hb]
theorem cmp_lt {l r : List Nat} (hb : 0 < b) (hl : Lt b l) (hr : Lt b r) (i : Nat) (h : l.getD i 0 < r.getD i 0) : nv b (l.take (i + 1)) < nv b (r.take (i + 1)) := by
  rw [nv_take_succ', nv_take_succ']
  have h1 := nv_take_lt hb hl i
  have h3 : b ^ i * (l.getD i 0 + 1) ≤ b ^ i * r.getD i 0 := Nat.mul_le_mul_left _ h
  rw [Nat.mul_succ] at h3
  omega
end
theorem nv_div {b : Nat} {l : List Nat} (hb : 0 < b) (h : Lt b l) (i : Nat) : nv b l / b ^ i = nv b (l.drop i) := by
  rcases Nat.lt_or_ge l.length i with h1 | h1
  · rw [List.drop_of_length_le (by omega), Nat.div_eq_of_lt (Nat.lt_of_lt_of_le (nv_lt h) (Nat.pow_le_pow_right hb (by omega)))]; rfl
  · rw [nv_take_drop l i h1, Nat.add_mul_div_left _ _ (Nat.pow_pos hb), Nat.div_eq_of_lt (nv_take_lt hb h i), Nat.zero_add]
theorem nv_digit {b : Nat} {l : List Nat} (hb : 0 < b) (h : Lt b l) (i : Nat) : l.getD i 0 = nv b l / b ^ i % b := by
  rw [nv_div hb h]
  rcases Nat.lt_or_ge i l.length with h1 | h1
  · rw [nv_drop_get l i h1, Nat.add_mul_mod_self_left, Nat.mod_eq_of_lt (Lt_get h hb i)]
  · rw [List.drop_of_length_le h1, List.getD_eq_getElem?_getD, List.getElem?_eq_none h1]; simp [nv]
theorem fl_full {b i v : Nat} (hb : 2 ≤ b) (h : i = 0 ∨ b ^ (i - 1) ≤ v) (hv : v < b ^ i) : fl b i v = dg b v := by
  rw [← dg_fl hb hv]
  rcases Nat.eq_zero_or_pos i with h0 | h0
  · subst h0; rfl
  · obtain ⟨n, rfl⟩ : ∃ n, i = n + 1 := ⟨i - 1, by omega⟩
    rw [fl_succ, tz_last]
    have h1 : b ^ n ≤ v := by
      rcases h with h | h
      · omega
      · simpa using h
    rw [Nat.mod_eq_of_lt ((Nat.div_lt_iff_lt_mul (Nat.pow_pos (by omega))).2 (by rw [Nat.mul_comm, ← Nat.pow_succ]; exact hv))]
    have := (Nat.le_div_iff_mul_le (Nat.pow_pos (by omega : 0 < b))).2 (by rw [Nat.one_mul]; exact h1 : 1 * b ^ n ≤ v)
    omega
theorem nv_top {b : Nat} {l : List Nat} (h : tz l = l) (hl : l ≠ []) : b ^ (l.length - 1) ≤ nv b l := by
  obtain ⟨n, hn⟩ : ∃ n, l.length = n + 1 := ⟨l.length - 1, by have := List.length_pos_iff.2 hl; omega⟩
  have h1 := nv_take_succ (b := b) l n (by omega)
  rw [List.take_of_length_le (by omega)] at h1
  have h2 : l.getD n 0 ≠ 0 := fun h0 => by
    have h3 := tz_zero l n (by omega) h0
    rw [List.take_of_length_le (by omega), h] at h3
    have h4 := congrArg List.length h3
    have h5 := tz_len (l.take n)
    rw [List.length_take] at h5
    omega
  rw [h1, hn]
  have : b ^ n * 1 ≤ b ^ n * l.getD n 0 := Nat.mul_le_mul_left _ (by omega)
  simp at this ⊢; omega
theorem nv_eq_of {B : Nat} {l r : List Nat} (i : Nat) (h : ∀ j, i ≤ j → l.getD j 0 = r.getD j 0) : (nv B (l.take i) < nv B (r.take i) ↔ nv B l < nv B r) ∧ (nv B (l.take i) = nv B (r.take i) ↔ nv B l = nv B r) := by
  have key : ∀ k, ∃ t, nv B (l.take (i + k)) = nv B (l.take i) + t ∧ nv B (r.take (i + k)) = nv B (r.take i) + t := fun k => by
    induction k with
    | zero => exact ⟨0, rfl, rfl⟩
    | succ k ih =>
      obtain ⟨t, h1, h2⟩ := ih
      refine ⟨t + B ^ (i + k) * l.getD (i + k) 0, ?_, ?_⟩
      · rw [← Nat.add_assoc i k 1, nv_take_succ', h1, Nat.add_assoc]
      · rw [← Nat.add_assoc i k 1, nv_take_succ', h2, Nat.add_assoc, h _ (by omega)]
  obtain ⟨t, h1, h2⟩ := key (l.length + r.length)
  rw [List.take_of_length_le (by omega)] at h1
  rw [List.take_of_length_le (by omega)] at h2
  omega
end Go.Proofs.Yteaiegppmbcibaa
namespace Go.Proofs.Yteaiegppmbcibaa
open Go Go.RowKit Ab
set_option linter.unusedSimpArgs false
set_option linter.unusedVariables false
set_option maxHeartbeats 10000000
theorem shr64 (x r : Nat) (h : r ≤ 64) : (x : Int).fdiv (2 ^ (min r IntKind.u64.bits)) = ((x / 2 ^ r : Nat) : Int) := by
  rw [show min r IntKind.u64.bits = r from Nat.min_eq_left h]
  have : (2 : Int) ^ r = ((2 ^ r : Nat) : Int) := by simp
  rw [this, Int.fdiv_eq_ediv_of_nonneg _ (Int.natCast_nonneg _)]; rfl
end Go.Proofs.Yteaiegppmbcibaa
namespace Go.Proofs.Yteaiegppmbcibaa
open Go Go.RowKit Ab
set_option linter.unusedSimpArgs false
set_option linter.unusedVariables false
set_option maxHeartbeats 10000000
def bl (x : Nat) : Nat := if x = 0 then 0 else x.log2 + 1
end Go.Proofs.Yteaiegppmbcibaa
namespace Go.Proofs.Yteaiegppmbcibaa
open Go Go.RowKit Ab
set_option linter.unusedSimpArgs false
set_option linter.unusedVariables false
set_option maxHeartbeats 10000000
def a70 : AC := .seq (.reg [qr 2 (.mv (.k .nl))])
 (.seq (.seq (.reg [qm 3 0,
 qr 4 (.isn false (.t 3))])
 (.cond (.t 4)
 (.seq (.reg [qr 2 (.mv (.k .nl))])
 (.ret))
 (.skip)))
 (.seq (.reg [qr 5 (.bsl 60 1 0 [] []),
 qm 6 0,
 qr 7 (.app 60 1 8 (.t 5) (.t 6)),
 qm 2 7])
 (.ret)))
theorem clone_spec (a : List Nat) (ha : a.length ≤ 1099511627776) : AFun Try.prog J0 70 [.l 1 (W a)] (.o 60 1 (W a)) := by
  refine mkQ fol J0s Try.func70 a70 ?_
  unfold a70
  simp only [init_eq, initE, qm, qr, qn]
  rw [vm_seq]
  try simp only [Sv, ↓reduceIte, Nat.reduceEqDiff]
  refine vm_reg (fun K hK => ?_)
  refine smQ trivial ?_
  refine hK _ ?_
  clear hK K
  simp only [Sv]
  try simp only [Sv, ↓reduceIte, Nat.reduceEqDiff]
  refine vm_reg (fun K hK => ?_)
  refine smQ trivial ?_
  refine isp_mk fun t ht => ?_
  refine smQ trivial ?_
  refine hK _ ?_
  clear hK K
  simp only [Sv, ↓reduceIte]
  refine vmc_mk (fun hc => ?_) (fun hc => ?_)
  · try (refine hK _ ?_; clear hK K)
    refine spQ trivial ?_
    simp only [bne_eq_false_iff_eq, ne_eq, bne_iff_ne, Bool.not_eq_false] at hc
    have := ht hc
    exact rtQ @this
  · try (refine hK _ ?_; clear hK K)
    refine spQ (ai @nappA (ai @W_cell (ai @Nat.div_one @W_len))) ?_
    exact rtQ trivial
def a71 : AC := .seq (.reg [qr 2 (.mv (.k (.i .i64 0)))])
 (.seq (.reg [qm 4 0,
 qr 5 (.len (.t 4)),
 qm 3 5])
 (.seq (.blk 0
 (.loop
 (.seq (.seq (.reg [qm 6 3,
 qr 7 (.bin .gtr (.t 6) (.k (.i .i64 0))),
 qm 8 7,
 ⟨some 9, some (8, true), .mv (.t 0)⟩,
 ⟨some 10, some (8, true), .mv (.t 3)⟩,
 ⟨some 11, some (8, true), .bin .sub (.t 10) (.k (.i .i64 1))⟩,
 ⟨some 12, some (8, true), .idx 1 (.t 9) (.t 11)⟩,
 ⟨some 13, some (8, true), .ld false 1 (.t 12)⟩,
 ⟨some 14, some (8, true), .bin .eql (.t 13) (.k (.i .u64 0))⟩,
 qr 15 (.pick (.t 8) (.t 14) (.k (.b false)))])
 (.cond (.t 15)
 (.skip)
 (.exit 0)))
 (.blk 1
 (.reg [qm 16 3,
 qr 17 (.bin .sub (.t 16) (.k (.i .i64 1))),
 qm 3 17])))))
 (.seq (.reg [qm 18 3,
 qm 2 18])
 (.ret))))
theorem top_spec (a : List Nat) (ha : a.length ≤ 1099511627776) : AFun Try.prog J0 71 [.l 1 (W a)] (.i .i64 ((tz a).length : Int)) := by
  refine mkQ fol J0s Try.func71 a71 ?_
  unfold a71
  simp only [init_eq, initE, qm, qr, qn]
  refine spQ (ai @Nat.div_one @W_len) ?_
  refine vm_loop Nat (fun n => ⟨[(0, .l 1 (W a)), (3, .i .i64 (n : Int))], [], 0⟩) (fun n => n ≤ a.length ∧ tz a = tz (a.take n)) (fun n => n) a.length [] ⟨by omega, by rw [List.take_length]⟩ (by
    simp (disch := (first | omega | assumption)) only [Sl, Sa, Sw, ↓reduceIte, Nat.reduceEqDiff, Nat.reduceLT, List.all_nil, List.all_cons, Nat.reduceBneDiff, Nat.reduceAdd, bne_iff_ne, ne_eq, reduceCtorEq, not_false_eq_true, not_true_eq_false, Bool.and_true, Bool.true_and, and_true, true_and, and_self]
    ) ?_
  intro n ⟨hn, ht⟩ Q' hQ he hr
  by_cases h0 : 0 < (n : Int)
  · by_cases h1 : ((a.getD (n - 1) 0 : Nat) : Int) = 0
    · refine spQ (ai @Nat.mul_one (ai @tn_sub1 (ai @wi (ai @W_get (ai @W_len (ai @h1 @h0)))))) ?_
      refine hQ _ (n - 1) [] ⟨by omega, ?_⟩ (by omega) ?_
      · obtain ⟨m, rfl⟩ : ∃ m, n = m + 1 := ⟨n - 1, by omega⟩
        rw [ht]; exact tz_zero a m (by omega) (by simpa using h1)
      · simp (disch := (first | omega | assumption)) only [Sl, Sa, Sw, ↓reduceIte, Nat.reduceEqDiff, Nat.reduceLT, List.all_nil, List.all_cons, Nat.reduceBneDiff, Nat.reduceAdd, bne_iff_ne, ne_eq, reduceCtorEq, not_false_eq_true, not_true_eq_false, Bool.and_true, Bool.true_and, and_true, true_and, and_self, i_eq]
        omega
    · refine spQ (ai @Nat.mul_one (ai @tn_sub1 (ai @wi (ai @W_get (ai @W_len (ai @h1 @h0)))))) ?_
      refine he _ _ ?_
      refine spQ trivial ?_
      refine rtO @i_eq ?_
      obtain ⟨m, rfl⟩ : ∃ m, n = m + 1 := ⟨n - 1, by omega⟩
      rw [ht, tz_top a m (by omega) (by simpa using h1)]
  · refine spQ @h0 ?_
    refine he _ _ ?_
    refine spQ trivial ?_
    refine rtO @i_eq ?_
    obtain rfl : n = 0 := by omega
    rw [ht]; rfl
def a67 : AC := .seq (.reg [qr 2 (.mv (.k .nl))])
 (.seq (.reg [qm 3 0,
 qm 4 0,
 qr 5 (.call 71 [(1, (.t 4))]),
 qr 6 (.sub 1 (.t 3) none (some (.t 5))),
 qr 7 (.call 70 [(1, (.t 6))]),
 qm 2 7])
 (.ret))
theorem trim_spec (a : List Nat) (ha : a.length ≤ 1099511627776) : AFun Try.prog J0 67 [.l 1 (W a)] (.o 60 1 (W (tz a))) := by
  refine mkQ fol J0s Try.func67 a67 ?_
  unfold a67
  simp only [init_eq, initE, qm, qr, qn]
  have hl := tz_len a
  refine spQ trivial ?_
  try simp only [Sv, ↓reduceIte, Nat.reduceEqDiff]
  refine vm_reg (fun K hK => ?_)
  refine smQ trivial ?_
  refine clp_mk _ _ ?_ ?_ ?_ (top_spec a ha) ?_
  · simp (disch := (first | omega | assumption)) only [S1, ↓reduceIte, Nat.reduceEqDiff, Nat.reduceAdd, Nat.reduceMul, Nat.reduceDiv, AOp.sb, AOp.mut, frzf, ↓Bool.false_eq_true, beq_self_eq_true, ite_self, Nat.reduceLeDiff, Int.reduceEq, Int.reduceSub, Int.reduceAdd, Int.reduceNeg, Int.reduceLT, Int.reduceLE, Nat.reduceLT]
  · simp (disch := (first | omega | assumption)) only [S1, ↓reduceIte, Nat.reduceEqDiff, Nat.reduceAdd, Nat.reduceMul, Nat.reduceDiv, AOp.sb, AOp.mut, frzf, ↓Bool.false_eq_true, beq_self_eq_true, ite_self, Nat.reduceLeDiff, Int.reduceEq, Int.reduceSub, Int.reduceAdd, Int.reduceNeg, Int.reduceLT, Int.reduceLE, Nat.reduceLT]
  · first | rfl | (simp (disch := (first | omega | assumption)) only [S1, ↓reduceIte, Nat.reduceEqDiff, Nat.reduceAdd, Nat.reduceMul, Nat.reduceDiv, AOp.sb, AOp.mut, frzf, ↓Bool.false_eq_true, beq_self_eq_true, ite_self, Nat.reduceLeDiff, Int.reduceEq, Int.reduceSub, Int.reduceAdd, Int.reduceNeg, Int.reduceLT, Int.reduceLE, Nat.reduceLT])
  refine smQ (ai @tz_take (ai @W_take (ai @tn_nat (ai @Nat.mul_one @W_len)))) ?_
  refine clp_mk _ _ ?_ ?_ ?_ (clone_spec (tz a) (by omega)) ?_
  · simp (disch := (first | omega | assumption)) only [S1, ↓reduceIte, Nat.reduceEqDiff, Nat.reduceAdd, Nat.reduceMul, Nat.reduceDiv, AOp.sb, AOp.mut, frzf, ↓Bool.false_eq_true, beq_self_eq_true, ite_self, Nat.reduceLeDiff, Int.reduceEq, Int.reduceSub, Int.reduceAdd, Int.reduceNeg, Int.reduceLT, Int.reduceLE, Nat.reduceLT]
  · simp (disch := (first | omega | assumption)) only [S1, ↓reduceIte, Nat.reduceEqDiff, Nat.reduceAdd, Nat.reduceMul, Nat.reduceDiv, AOp.sb, AOp.mut, frzf, ↓Bool.false_eq_true, beq_self_eq_true, ite_self, Nat.reduceLeDiff, Int.reduceEq, Int.reduceSub, Int.reduceAdd, Int.reduceNeg, Int.reduceLT, Int.reduceLE, Nat.reduceLT]
  · first | rfl | (simp (disch := (first | omega | assumption)) only [S1, ↓reduceIte, Nat.reduceEqDiff, Nat.reduceAdd, Nat.reduceMul, Nat.reduceDiv, AOp.sb, AOp.mut, frzf, ↓Bool.false_eq_true, beq_self_eq_true, ite_self, Nat.reduceLeDiff, Int.reduceEq, Int.reduceSub, Int.reduceAdd, Int.reduceNeg, Int.reduceLT, Int.reduceLE, Nat.reduceLT])
  refine smQ (ai @Nat.div_one @W_len) ?_
  refine hK _ ?_
  clear hK K
  try (refine hK _ ?_; clear hK K)
  refine spQ trivial ?_
  exact rtQ trivial
end Go.Proofs.Yteaiegppmbcibaa
namespace Go.Proofs.Yteaiegppmbcibaa
open Go Go.RowKit Ab
set_option linter.unusedSimpArgs false
set_option linter.unusedVariables false
set_option maxHeartbeats 10000000
theorem mx (a b : Nat) : max (a : Int) (b : Int) = ((max a b : Nat) : Int) := by omega
def sg (x y : Nat) : Int := if x < y then -1 else if x = y then 0 else 1
end Go.Proofs.Yteaiegppmbcibaa
namespace Go.Proofs.Yteaiegppmbcibaa
open Go Go.RowKit Ab
set_option linter.unusedSimpArgs false
set_option linter.unusedVariables false
set_option maxHeartbeats 10000000
end Go.Proofs.Yteaiegppmbcibaa
namespace Go.Proofs.Yteaiegppmbcibaa
open Go Go.RowKit Ab
set_option linter.unusedSimpArgs false
set_option linter.unusedVariables false
set_option maxHeartbeats 10000000
theorem bz_Nat1 : type_of% (And.intro @W_len (And.intro @Nat.div_one (And.intro @Nat.mul_one (And.intro @tn_nat (And.intro @W_nf (@W_nil)))))) := And.intro @W_len (And.intro @Nat.div_one (And.intro @Nat.mul_one (And.intro @tn_nat (And.intro @W_nf (@W_nil)))))
theorem B2 : 2 ≤ B := by decide
theorem B0 : 0 < B := by decide
def a69 : AC := .seq (.reg [qr 2 (.mv (.k .nl))])
 (.seq (.reg [qm 4 0,
 qr 5 (.call 67 [(1, (.t 4))]),
 qm 3 5])
 (.seq (.seq (.reg [qm 6 3,
 qr 7 (.len (.t 6)),
 qr 8 (.bin .eql (.t 7) (.k (.i .i64 0)))])
 (.cond (.t 8)
 (.seq (.reg [qr 2 (.mv (.k .nl))])
 (.ret))
 (.skip)))
 (.seq (.reg [qm 9 3,
 qr 10 (.call 70 [(1, (.t 9))]),
 qm 2 10])
 (.ret))))
theorem own_spec (a : List Nat) (ha : a.length ≤ 1099511627776) : AFun Try.prog J0 69 [.l 1 (W a)] (.o 60 1 (W (tz a))) := by
  refine mkQ fol J0s Try.func69 a69 ?_
  unfold a69
  simp only [init_eq, initE, qm, qr, qn]
  have hl := tz_len a
  refine spQ @bz_Nat1 ?_
  try simp only [Sv, ↓reduceIte, Nat.reduceEqDiff]
  refine vm_reg (fun K hK => ?_)
  refine smQ @bz_Nat1 ?_
  refine clp_mk _ _ ?_ ?_ ?_ (trim_spec a ha) ?_
  · simp (disch := (first | omega | assumption)) only [S1, ↓reduceIte, Nat.reduceEqDiff, Nat.reduceAdd, Nat.reduceMul, Nat.reduceDiv, AOp.sb, AOp.mut, frzf, ↓Bool.false_eq_true, beq_self_eq_true, ite_self, Nat.reduceLeDiff, Int.reduceEq, Int.reduceSub, Int.reduceAdd, Int.reduceNeg, Int.reduceLT, Int.reduceLE, Nat.reduceLT, bz_Nat1]
  · simp (disch := (first | omega | assumption)) only [S1, ↓reduceIte, Nat.reduceEqDiff, Nat.reduceAdd, Nat.reduceMul, Nat.reduceDiv, AOp.sb, AOp.mut, frzf, ↓Bool.false_eq_true, beq_self_eq_true, ite_self, Nat.reduceLeDiff, Int.reduceEq, Int.reduceSub, Int.reduceAdd, Int.reduceNeg, Int.reduceLT, Int.reduceLE, Nat.reduceLT, bz_Nat1]
  · first | rfl | (simp (disch := (first | omega | assumption)) only [S1, ↓reduceIte, Nat.reduceEqDiff, Nat.reduceAdd, Nat.reduceMul, Nat.reduceDiv, AOp.sb, AOp.mut, frzf, ↓Bool.false_eq_true, beq_self_eq_true, ite_self, Nat.reduceLeDiff, Int.reduceEq, Int.reduceSub, Int.reduceAdd, Int.reduceNeg, Int.reduceLT, Int.reduceLE, Nat.reduceLT, bz_Nat1])
  refine smQ (ai @W_nf (ai @Nat.div_one (ai @W_len @bz_Nat1))) ?_
  refine hK _ ?_
  clear hK K
  by_cases h : ((tz a).length : Int) = 0
  · try (refine hK _ ?_; clear hK K)
    refine spQ (ai @h @bz_Nat1) ?_
    have e : tz a = [] := List.eq_nil_of_length_eq_zero (by omega)
    exact rtQ (ai @e @bz_Nat1)
  · try (refine hK _ ?_; clear hK K)
    refine spQ (ai @h @bz_Nat1) ?_
    try simp only [Sv, ↓reduceIte, Nat.reduceEqDiff]
    refine vm_reg (fun K hK => ?_)
    refine smQ @bz_Nat1 ?_
    refine clp_mk _ _ ?_ ?_ ?_ (clone_spec (tz a) (by omega)) ?_
    · simp (disch := (first | omega | assumption)) only [S1, ↓reduceIte, Nat.reduceEqDiff, Nat.reduceAdd, Nat.reduceMul, Nat.reduceDiv, AOp.sb, AOp.mut, frzf, ↓Bool.false_eq_true, beq_self_eq_true, ite_self, Nat.reduceLeDiff, Int.reduceEq, Int.reduceSub, Int.reduceAdd, Int.reduceNeg, Int.reduceLT, Int.reduceLE, Nat.reduceLT, bz_Nat1]
    · simp (disch := (first | omega | assumption)) only [S1, ↓reduceIte, Nat.reduceEqDiff, Nat.reduceAdd, Nat.reduceMul, Nat.reduceDiv, AOp.sb, AOp.mut, frzf, ↓Bool.false_eq_true, beq_self_eq_true, ite_self, Nat.reduceLeDiff, Int.reduceEq, Int.reduceSub, Int.reduceAdd, Int.reduceNeg, Int.reduceLT, Int.reduceLE, Nat.reduceLT, bz_Nat1]
    · first | rfl | (simp (disch := (first | omega | assumption)) only [S1, ↓reduceIte, Nat.reduceEqDiff, Nat.reduceAdd, Nat.reduceMul, Nat.reduceDiv, AOp.sb, AOp.mut, frzf, ↓Bool.false_eq_true, beq_self_eq_true, ite_self, Nat.reduceLeDiff, Int.reduceEq, Int.reduceSub, Int.reduceAdd, Int.reduceNeg, Int.reduceLT, Int.reduceLE, Nat.reduceLT, bz_Nat1])
    refine smQ (ai @W_nf (ai @Nat.div_one (ai @W_len @bz_Nat1))) ?_
    refine hK _ ?_
    clear hK K
    try (refine hK _ ?_; clear hK K)
    refine spQ @bz_Nat1 ?_
    exact rtQ @bz_Nat1
def a66 : AC := .seq (.reg [qr 2 (.mv (.k .nl))])
 (.seq (.reg [qm 3 0,
 qr 4 (.call 69 [(1, (.t 3))]),
 qm 2 4])
 (.ret))
theorem norm_spec (a : List Nat) (ha : a.length ≤ 1099511627776) : AFun Try.prog J0 66 [.l 1 (W a)] (.o 60 1 (W (tz a))) := by
  refine mkQ fol J0s Try.func66 a66 ?_
  unfold a66
  simp only [init_eq, initE, qm, qr, qn]
  refine spQ @bz_Nat1 ?_
  try simp only [Sv, ↓reduceIte, Nat.reduceEqDiff]
  refine vm_reg (fun K hK => ?_)
  refine smQ @bz_Nat1 ?_
  refine clp_mk _ _ ?_ ?_ ?_ (own_spec a ha) ?_
  · simp (disch := (first | omega | assumption)) only [S1, ↓reduceIte, Nat.reduceEqDiff, Nat.reduceAdd, Nat.reduceMul, Nat.reduceDiv, AOp.sb, AOp.mut, frzf, ↓Bool.false_eq_true, beq_self_eq_true, ite_self, Nat.reduceLeDiff, Int.reduceEq, Int.reduceSub, Int.reduceAdd, Int.reduceNeg, Int.reduceLT, Int.reduceLE, Nat.reduceLT, bz_Nat1]
  · simp (disch := (first | omega | assumption)) only [S1, ↓reduceIte, Nat.reduceEqDiff, Nat.reduceAdd, Nat.reduceMul, Nat.reduceDiv, AOp.sb, AOp.mut, frzf, ↓Bool.false_eq_true, beq_self_eq_true, ite_self, Nat.reduceLeDiff, Int.reduceEq, Int.reduceSub, Int.reduceAdd, Int.reduceNeg, Int.reduceLT, Int.reduceLE, Nat.reduceLT, bz_Nat1]
  · first | rfl | (simp (disch := (first | omega | assumption)) only [S1, ↓reduceIte, Nat.reduceEqDiff, Nat.reduceAdd, Nat.reduceMul, Nat.reduceDiv, AOp.sb, AOp.mut, frzf, ↓Bool.false_eq_true, beq_self_eq_true, ite_self, Nat.reduceLeDiff, Int.reduceEq, Int.reduceSub, Int.reduceAdd, Int.reduceNeg, Int.reduceLT, Int.reduceLE, Nat.reduceLT, bz_Nat1])
  refine smQ (ai @W_nf (ai @Nat.div_one (ai @W_len @bz_Nat1))) ?_
  refine hK _ ?_
  clear hK K
  try (refine hK _ ?_; clear hK K)
  refine spQ @bz_Nat1 ?_
  exact rtQ @bz_Nat1
end Go.Proofs.Yteaiegppmbcibaa
