/-
  Plain lists: a window of a row of words.
-/
import Derived.Test.YtngohbpgdeiodaaNM5
import Derived.Test.YtngohbpgdeiodaaNM4
namespace Go.Proofs.Ytngohbpgdeiodaa
open Go Go.RowKit Ab
set_option linter.unusedSimpArgs false
set_option linter.unusedVariables false
set_option maxHeartbeats 10000000

section
variable {X A Z R : List Nat} {t j n : Nat}
theorem win_len (hX : X.length = j) (hA : A.length = n) : (X ++ (A ++ t :: Z)).length = j + n + 1 + Z.length := by simp; omega
theorem win_top (hX : X.length = j) (hA : A.length = n) : (X ++ (A ++ t :: Z)).getD (j + n) 0 = t := by
  rw [List.getD_eq_getElem?_getD, List.getElem?_append_right (by omega), List.getElem?_append_right (by omega), hX, hA, show j + n - j - n = 0 from by omega]; rfl
theorem win_get (hX : X.length = j) (hA : A.length = n) {k i : Nat} (hk : k < n) (hi : i = j + k) : (X ++ (A ++ t :: Z)).getD i 0 = A.getD k 0 := by
  subst hi
  rw [List.getD_eq_getElem?_getD, List.getElem?_append_right (by omega), List.getElem?_append_left (by omega), hX, show j + k - j = k from by omega, List.getD_eq_getElem?_getD]
theorem win_sub (hX : X.length = j) (hA : A.length = n) : ((X ++ (A ++ t :: Z)).drop j).take n = A := by
  rw [List.drop_append_of_le_length (by omega), ← hX, List.drop_length, List.nil_append, List.take_append_of_le_length (by omega), ← hA, List.take_length]
theorem win_cut (hX : X.length = j) (hA : A.length = n) : ((X ++ (A ++ t :: Z)).take (j + n)).drop j = A := by
  rw [List.drop_take, Nat.add_sub_cancel_left]; exact win_sub hX hA
theorem win_set (hX : X.length = j) (hA : A.length = n) (t' : Nat) : (X ++ (A ++ t :: Z)).set (j + n) t' = X ++ (A ++ t' :: Z) := by
  rw [List.set_append_right _ _ (by omega), List.set_append_right _ _ (by omega), hX, hA, show j + n - j - n = 0 from by omega]; rfl
end
theorem setAt_app {α : Type} : ∀ (X A R Y : List α), A.length = R.length → setAt (X ++ (A ++ Y)) X.length R = X ++ (R ++ Y)
  | X, [], [], Y, _ => rfl
  | X, [], _ :: _, Y, h => by simp at h
  | X, _ :: _, [], Y, h => by simp at h
  | X, a :: A, r :: R, Y, h => by
    have e : (X ++ (a :: A ++ Y)).set X.length r = (X ++ [r]) ++ (A ++ Y) := by
      rw [List.set_append_right _ _ (Nat.le_refl _), Nat.sub_self]; simp
    show setAt ((X ++ (a :: A ++ Y)).set X.length r) (X.length + 1) R = _
    rw [e, show X.length + 1 = (X ++ [r]).length from by simp, setAt_app (X ++ [r]) A R Y (by simpa using h)]
    simp
theorem W_copy {X A Z R : List Nat} {t j : Nat} (hX : X.length = j) (hR : A.length = R.length) : setAt (W (X ++ (A ++ t :: Z))) j (W R) = W (X ++ (R ++ t :: Z)) := by
  have h := setAt_app (W X) (W A) (W R) (W (t :: Z)) (by rw [W_len, W_len]; exact hR)
  rw [W_len, hX, W_app, W_app, W_app, W_app] at h
  exact h
/-- so many digits: those that there are, zeros above -/
theorem fl_pad {n v : Nat} (h : v < B ^ n) : dg B v ++ List.replicate (n - (dg B v).length) 0 = fl B n v := by
  have e := dg_fl (by decide : 2 ≤ B) h
  obtain ⟨k, hk⟩ := tz_split (fl B n v)
  rw [e] at hk
  have hl := congrArg List.length hk
  rw [fl_len, List.length_append, List.length_replicate] at hl
  rw [show n - (dg B v).length = k from by omega]
  exact hk.symm
theorem kn_norm {b : List Nat} (hb : Wd b) (h1 : 1 ≤ b.length) (h : b.getD (b.length - 1) 0 ≠ 0) :
    B ^ (b.length - 1) ≤ nv B b * 2 ^ (64 - bl (b.getD (b.length - 1) 0)) ∧ nv B b * 2 ^ (64 - bl (b.getD (b.length - 1) 0)) < B ^ b.length ∧ B ^ (b.length - 1) ≤ nv B b := by
  have hy := Wd_get hb (b.length - 1)
  have e := nv_take_succ (b := B) b (b.length - 1) (by omega)
  rw [show b.length - 1 + 1 = b.length from by omega, List.take_length] at e
  have hlo := nv_take_lt (b := B) (by decide) hb (b.length - 1)
  have hpow : B ^ b.length = B ^ (b.length - 1) * B := by rw [← Nat.pow_succ, show (b.length - 1).succ = b.length from by omega]
  have hP : 0 < B ^ (b.length - 1) := Nat.pow_pos (by decide)
  generalize b.getD (b.length - 1) 0 = y at *
  generalize nv B (b.take (b.length - 1)) = lo at *
  generalize B ^ (b.length - 1) = P at *
  have h64 := bl_64 hy
  have hs : (y + 1) * 2 ^ (64 - bl y) ≤ B := by
    have := Nat.mul_le_mul_right (2 ^ (64 - bl y)) (show y + 1 ≤ 2 ^ bl y from bl_lt y)
    rw [← Nat.pow_add, show bl y + (64 - bl y) = 64 from by omega] at this
    exact this
  have hs0 := Nat.two_pow_pos (64 - bl y)
  have hV : P ≤ nv B b := by
    have := Nat.mul_le_mul_left P (show 1 ≤ y by omega)
    omega
  refine ⟨Nat.le_trans hV (Nat.le_mul_of_pos_right _ hs0), ?_, hV⟩
  have h3 : nv B b < P * (y + 1) := by rw [Nat.mul_add]; omega
  have h4 := (Nat.mul_lt_mul_right hs0).2 h3
  rw [hpow]
  refine Nat.lt_of_lt_of_le h4 ?_
  rw [Nat.mul_assoc]
  exact Nat.mul_le_mul_left P hs
/-- the rest at the loop's begin -/
theorem kn_begin {A V la n s : Nat} (hn : n ≤ la) (h1 : 1 ≤ n) (hA : A < B ^ la) (hV : B ^ (n - 1) ≤ V) : A * 2 ^ s / B ^ (la + 1 - n) < V * 2 ^ s := by
  refine (Nat.div_lt_iff_lt_mul (Nat.pow_pos (by decide))).2 ?_
  have h2 := (Nat.mul_lt_mul_right (Nat.two_pow_pos s)).2 hA
  refine Nat.lt_of_lt_of_le h2 ?_
  rw [Nat.mul_right_comm]
  refine Nat.mul_le_mul_right _ ?_
  have := Nat.mul_le_mul_right (B ^ (la + 1 - n)) hV
  rw [← Nat.pow_add, show n - 1 + (la + 1 - n) = la from by omega] at this
  exact this
theorem ms_def {A V w P : Nat} (hA : A < P) : A + P * msC A V w P - V * w < P ∧ A + P * msC A V w P - V * w + V * w = A + P * msC A V w P := by
  have hP : 0 < P := by omega
  have e := Nat.div_add_mod (V * w + (P - 1 - A)) P
  have hm := Nat.mod_lt (V * w + (P - 1 - A)) hP
  unfold msC
  generalize (V * w + (P - 1 - A)) % P = r at *
  generalize P * ((V * w + (P - 1 - A)) / P) = z at *
  generalize V * w = y at *
  omega
def uL (As Vs m n i : Nat) : List Nat := fl B i As ++ (fl B n (As / B ^ i % Vs) ++ List.replicate (m + 1 - i - n) 0)
def qL (As Vs Q i : Nat) : List Nat := List.replicate i 0 ++ fl B (Q - i) (As / B ^ i / Vs)
theorem uL_top {As Vs m n : Nat} (hn : n ≤ m + 1) (h : As / B ^ (m + 1 - n) < Vs) : fl B (m + 1) As = uL As Vs m n (m + 1 - n) := by
  unfold uL
  rw [Nat.mod_eq_of_lt h, show m + 1 - (m + 1 - n) - n = 0 from by omega, List.replicate_zero, List.append_nil, ← fl_add, show m + 1 - n + n = m + 1 from by omega]
theorem win_fl {x R n : Nat} (hx : x < B) : x :: fl B n R = fl B n (R * B + x) ++ [(R * B + x) / B ^ n % B] := by
  have h1 : (R * B + x) % B = x := by rw [Nat.mul_comm, Nat.mul_add_mod, Nat.mod_eq_of_lt hx]
  have h2 : (R * B + x) / B = R := by rw [Nat.mul_comm, Nat.mul_add_div (by decide : 0 < B), Nat.div_eq_of_lt hx, Nat.add_zero]
  rw [← fl_succ, fl, h1, h2]
theorem uL_win {As Vs m n j : Nat} : uL As Vs m n (j + 1) = fl B j As ++ (fl B n (As / B ^ (j + 1) % Vs * B + As / B ^ j % B) ++ ((As / B ^ (j + 1) % Vs * B + As / B ^ j % B) / B ^ n % B) :: List.replicate (m + 1 - (j + 1) - n) 0) := by
  have e := win_fl (R := As / B ^ (j + 1) % Vs) (n := n) (Nat.mod_lt (As / B ^ j) (by decide : 0 < B))
  unfold uL
  generalize List.replicate (m + 1 - (j + 1) - n) 0 = Z
  rw [fl_succ, List.append_assoc, List.singleton_append, ← List.cons_append, e, List.append_assoc, List.singleton_append]
theorem uL_low {As Vs m n j : Nat} (h : j + 1 + n ≤ m + 1) (R : Nat) (hR : As / B ^ j % Vs = R) : fl B j As ++ (fl B n R ++ 0 :: List.replicate (m + 1 - (j + 1) - n) 0) = uL As Vs m n j := by
  unfold uL
  rw [hR, show m + 1 - j - n = (m + 1 - (j + 1) - n) + 1 from by omega, List.replicate_succ]
theorem qL_len {As Vs Q i : Nat} (h : i ≤ Q) : (qL As Vs Q i).length = Q := by unfold qL; rw [List.length_append, List.length_replicate, fl_len]; omega
theorem qL_set {As Vs Q j d : Nat} (h : j + 1 ≤ Q) (h1 : As / B ^ j / Vs % B = d) (h2 : As / B ^ j / Vs / B = As / B ^ (j + 1) / Vs) : (qL As Vs Q (j + 1)).set j d = qL As Vs Q j := by
  unfold qL
  rw [show Q - j = (Q - (j + 1)) + 1 from by omega, fl, h1, h2, List.replicate_succ', List.append_assoc, List.set_append_right _ _ (by rw [List.length_replicate]; exact Nat.le_refl _), List.length_replicate, Nat.sub_self]
  rfl
theorem fl_get {b : Nat} : ∀ (n v k : Nat), k < n → (fl b n v).getD k 0 = v / b ^ k % b
  | 0, v, k, h => by omega
  | n + 1, v, 0, h => by simp [fl]
  | n + 1, v, k + 1, h => by
    show (fl b n (v / b)).getD k 0 = _
    rw [fl_get n (v / b) k (by omega), Nat.div_div_eq_div_mul, Nat.pow_succ, Nat.mul_comm]
end Go.Proofs.Ytngohbpgdeiodaa
