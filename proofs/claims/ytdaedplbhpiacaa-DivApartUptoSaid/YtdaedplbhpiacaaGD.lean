/-
  The texts NM, B0, Ext, NM2, NM3, NM4, Limb1, Limb2, Limb3, Nat1.
-/
import Derived.Test.YtdaedplbhpiacaaGC
import Derived.Test.YtdaedplbhpiacaaRows
import Derived.Laws.Externs
namespace Go.Proofs.Ytdaedplbhpiacaa
set_option linter.unusedSimpArgs false
set_option linter.unusedVariables false
set_option maxHeartbeats 10000000
def nv (b : Nat) : List Nat → Nat
  | [] => 0
  | x :: r => x + b * nv b r
def tz : List Nat → List Nat
  | [] => []
  | x :: r => if x = 0 ∧ tz r = [] then [] else x :: tz r
def fl (b : Nat) : Nat → Nat → List Nat
  | 0, _ => []
  | n + 1, v => v % b :: fl b n (v / b)
def dg (b v : Nat) : List Nat := tz (fl b v v)
def Lt (b : Nat) (l : List Nat) : Prop := ∀ x, x ∈ l → x < b
section
variable {b : Nat}
theorem Lt_nil : Lt b [] := fun x h => by cases h
theorem Lt_cons {x : Nat} {l : List Nat} : Lt b (x :: l) ↔ x < b ∧ Lt b l := by simp [Lt]
theorem Lt_app {l r : List Nat} : Lt b (l ++ r) ↔ Lt b l ∧ Lt b r := by simp only [Lt, List.mem_append]; exact ⟨fun h => ⟨fun x hx => h x (.inl hx), fun x hx => h x (.inr hx)⟩, fun h x hx => hx.elim (h.1 x) (h.2 x)⟩
theorem Lt_take {l : List Nat} (h : Lt b l) (i : Nat) : Lt b (l.take i) := fun x hx => h x (List.mem_of_mem_take hx)
theorem Lt_drop {l : List Nat} (h : Lt b l) (i : Nat) : Lt b (l.drop i) := fun x hx => h x (List.mem_of_mem_drop hx)
theorem Lt_get {l : List Nat} (h : Lt b l) (hb : 0 < b) (i : Nat) : l.getD i 0 < b := by
  rw [List.getD_eq_getElem?_getD]
  cases e : l[i]? with
  | none => simpa using hb
  | some x => exact h x (List.mem_of_getElem? e)
theorem Lt_rep {n : Nat} (hb : 0 < b) : Lt b (List.replicate n 0) := fun x hx => by rw [List.mem_replicate] at hx; omega
theorem Lt_set {l : List Nat} (h : Lt b l) (i x : Nat) (hx : x < b) : Lt b (l.set i x) := fun y hy => by
  rcases List.mem_or_eq_of_mem_set hy with h1 | h1
  · exact h y h1
  · omega
theorem nv_nil : nv b [] = 0 := rfl
theorem nv_cons {x : Nat} {l : List Nat} : nv b (x :: l) = x + b * nv b l := rfl
theorem nv_one {x : Nat} : nv b [x] = x := by simp [nv]
theorem nv_app : ∀ (l r : List Nat), nv b (l ++ r) = nv b l + b ^ l.length * nv b r
  | [], r => by simp [nv]
  | x :: l, r => by
    simp only [List.cons_append, nv, nv_app l r, List.length_cons, Nat.pow_succ]
    rw [Nat.mul_add, Nat.add_assoc, Nat.mul_comm (b ^ l.length) b, Nat.mul_assoc]
theorem nv_rep (n : Nat) : nv b (List.replicate n 0) = 0 := by
  induction n with
  | zero => rfl
  | succ n ih => rw [List.replicate_succ, nv_cons, ih]; simp
theorem nv_lt : ∀ {l : List Nat}, Lt b l → nv b l < b ^ l.length
  | [], _ => by simp [nv]
  | x :: l, h => by
    have h1 := (Lt_cons.1 h).1
    have h2 := nv_lt (Lt_cons.1 h).2
    simp only [nv, List.length_cons, Nat.pow_succ]
    have : b * (nv b l + 1) ≤ b * b ^ l.length := Nat.mul_le_mul_left _ h2
    rw [Nat.mul_comm (b ^ l.length)]
    rw [Nat.mul_add] at this
    omega
theorem nv_take_drop (l : List Nat) (i : Nat) (hi : i ≤ l.length) : nv b l = nv b (l.take i) + b ^ i * nv b (l.drop i) := by
  have h := nv_app (b := b) (l.take i) (l.drop i)
  rw [List.take_append_drop, List.length_take, Nat.min_eq_left hi] at h
  exact h
theorem nv_take_succ (l : List Nat) (i : Nat) (hi : i < l.length) : nv b (l.take (i + 1)) = nv b (l.take i) + b ^ i * l.getD i 0 := by
  rw [List.take_succ_eq_append_getElem hi, nv_app, List.length_take, Nat.min_eq_left (Nat.le_of_lt hi), nv_one, List.getD_eq_getElem?_getD, List.getElem?_eq_getElem hi]; rfl
theorem nv_drop_get (l : List Nat) (i : Nat) (hi : i < l.length) : nv b (l.drop i) = l.getD i 0 + b * nv b (l.drop (i + 1)) := by
  rw [List.drop_eq_getElem_cons hi, nv_cons, List.getD_eq_getElem?_getD, List.getElem?_eq_getElem hi]; rfl
theorem nv_take_succ' (l : List Nat) (i : Nat) : nv b (l.take (i + 1)) = nv b (l.take i) + b ^ i * l.getD i 0 := by
  rcases Nat.lt_or_ge i l.length with h | h
  · exact nv_take_succ l i h
  · rw [List.take_of_length_le (by omega), List.take_of_length_le h, List.getD_eq_getElem?_getD, List.getElem?_eq_none h]; simp
theorem fl_len : ∀ (n v : Nat), (fl b n v).length = n
  | 0, _ => rfl
  | n + 1, v => by simp [fl, fl_len n]
theorem fl_Lt (hb : 0 < b) : ∀ (n v : Nat), Lt b (fl b n v)
  | 0, _ => Lt_nil
  | n + 1, v => Lt_cons.2 ⟨Nat.mod_lt _ hb, fl_Lt hb n _⟩
theorem nv_fl : ∀ (n v : Nat), nv b (fl b n v) = v % b ^ n
  | 0, v => by simp [fl, nv, Nat.mod_one]
  | n + 1, v => by rw [fl, nv_cons, nv_fl n, Nat.pow_succ, Nat.mul_comm (b ^ n), Nat.mod_mul]
theorem fl_nv : ∀ {l : List Nat}, Lt b l → fl b l.length (nv b l) = l
  | [], _ => rfl
  | x :: l, h => by
    have h1 := (Lt_cons.1 h).1
    simp only [List.length_cons, fl, nv]
    rw [Nat.add_mul_mod_self_left, Nat.mod_eq_of_lt h1, Nat.add_mul_div_left _ _ (by omega : 0 < b), Nat.div_eq_of_lt h1, Nat.zero_add, fl_nv (Lt_cons.1 h).2]
theorem fl_zero (n : Nat) : fl b n 0 = List.replicate n 0 := by
  induction n with
  | zero => rfl
  | succ n ih => simp [fl, ih, List.replicate_succ]
theorem fl_mod (hb : 0 < b) (n v : Nat) : fl b n (v % b ^ n) = fl b n v := by
  have h1 := fl_nv (fl_Lt hb n v)
  rw [fl_len, nv_fl] at h1; exact h1
theorem fl_add (n k v : Nat) : fl b (n + k) v = fl b n v ++ fl b k (v / b ^ n) := by
  induction n generalizing v with
  | zero => simp [fl]
  | succ n ih =>
    rw [show n + 1 + k = (n + k) + 1 from by omega]
    simp only [fl, List.cons_append]
    rw [ih, Nat.div_div_eq_div_mul, Nat.pow_succ, Nat.mul_comm b]
theorem fl_succ (n v : Nat) : fl b (n + 1) v = fl b n v ++ [v / b ^ n % b] := by rw [fl_add]; rfl
theorem fl_big (n k v : Nat) (hv : v < b ^ n) : fl b (n + k) v = fl b n v ++ List.replicate k 0 := by rw [fl_add, Nat.div_eq_of_lt hv, fl_zero]
theorem tz_rep (n : Nat) : tz (List.replicate n 0) = [] := by
  induction n with
  | zero => rfl
  | succ n ih => rw [List.replicate_succ, tz, ih]; simp
theorem tz_app_rep : ∀ (l : List Nat) (n : Nat), tz (l ++ List.replicate n 0) = tz l
  | [], n => tz_rep n
  | x :: l, n => by simp only [List.cons_append, tz, tz_app_rep l n]
theorem tz_split : ∀ (l : List Nat), ∃ n, l = tz l ++ List.replicate n 0
  | [] => ⟨0, rfl⟩
  | x :: l => by
    obtain ⟨n, h⟩ := tz_split l
    simp only [tz]
    split
    · rename_i hx
      refine ⟨n + 1, ?_⟩
      rw [hx.2] at h
      rw [List.replicate_succ, h, hx.1]; simp
    · exact ⟨n, by rw [List.cons_append, ← h]⟩
theorem tz_len (l : List Nat) : (tz l).length ≤ l.length := by
  obtain ⟨n, h⟩ := tz_split l
  have := congrArg List.length h
  simp at this; omega
theorem tz_take (l : List Nat) : l.take (tz l).length = tz l := by
  obtain ⟨n, h⟩ := tz_split l
  have : (tz l ++ List.replicate n 0).take (tz l).length = tz l := by simp
  rw [← h] at this; exact this
theorem nv_tz (l : List Nat) : nv b (tz l) = nv b l := by
  obtain ⟨n, h⟩ := tz_split l
  have : nv b (tz l ++ List.replicate n 0) = nv b (tz l) := by rw [nv_app, nv_rep]; simp
  rw [← h] at this; exact this.symm
theorem Lt_tz {l : List Nat} (h : Lt b l) : Lt b (tz l) := by rw [← tz_take]; exact Lt_take h _
theorem tz_tz (l : List Nat) : tz (tz l) = tz l := by
  obtain ⟨n, h⟩ := tz_split l
  have : tz (tz l ++ List.replicate n 0) = tz (tz l) := tz_app_rep _ _
  rw [← h] at this; exact this.symm
theorem tz_zero (l : List Nat) (i : Nat) (hi : i < l.length) (h0 : l.getD i 0 = 0) : tz (l.take (i + 1)) = tz (l.take i) := by
  rw [List.take_succ_eq_append_getElem hi]
  have : l[i] = 0 := by rw [List.getD_eq_getElem?_getD, List.getElem?_eq_getElem hi] at h0; exact h0
  rw [this]
  exact tz_app_rep _ 1
theorem tz_last : ∀ (l : List Nat) (x : Nat), x ≠ 0 → tz (l ++ [x]) = l ++ [x]
  | [], x, h => by simp [tz, h]
  | y :: l, x, h => by simp [tz, tz_last l x h]
theorem tz_top (l : List Nat) (i : Nat) (hi : i < l.length) (h0 : l.getD i 0 ≠ 0) : (tz (l.take (i + 1))).length = i + 1 := by
  rw [List.take_succ_eq_append_getElem hi, tz_last _ _ (by rw [List.getD_eq_getElem?_getD, List.getElem?_eq_getElem hi] at h0; exact h0)]
  simp; omega
theorem tz_dg {l : List Nat} (hb : 2 ≤ b) (h : Lt b l) : tz l = dg b (nv b l) := by
  unfold dg
  have key : ∀ n, nv b l < b ^ n → tz (fl b n (nv b l)) = tz l := fun n hn => by
    rcases Nat.le_total l.length n with h1 | h1
    · have : n = l.length + (n - l.length) := by omega
      rw [this, fl_big _ _ _ (nv_lt h), fl_nv h, tz_app_rep]
    · have : l.length = n + (l.length - n) := by omega
      have e : l = fl b n (nv b l) ++ List.replicate (l.length - n) 0 := by
        rw [← fl_big _ _ _ hn, ← this, fl_nv h]
      have := tz_app_rep (fl b n (nv b l)) (l.length - n)
      rw [← e] at this; exact this.symm
  exact (key _ (Nat.lt_of_lt_of_le Nat.lt_two_pow_self (Nat.pow_le_pow_left hb _))).symm
theorem dg_Lt (hb : 0 < b) (v : Nat) : Lt b (dg b v) := Lt_tz (fl_Lt hb _ _)
theorem nv_dg (hb : 2 ≤ b) (v : Nat) : nv b (dg b v) = v := by
  unfold dg
  rw [nv_tz, nv_fl, Nat.mod_eq_of_lt (Nat.lt_of_lt_of_le Nat.lt_two_pow_self (Nat.pow_le_pow_left hb _))]
theorem tz_dg' (v : Nat) : tz (dg b v) = dg b v := tz_tz _
theorem dg_fl (hb : 2 ≤ b) {n v : Nat} (h : v < b ^ n) : tz (fl b n v) = dg b v := by
  rw [tz_dg hb (fl_Lt (by omega) _ _), nv_fl, Nat.mod_eq_of_lt h]
theorem dg_zero : dg b 0 = [] := rfl
theorem dg_inj (hb : 2 ≤ b) {v u : Nat} (h : dg b v = dg b u) : v = u := by rw [← nv_dg hb v, h, nv_dg hb]
theorem dg_nil (hb : 2 ≤ b) {v : Nat} : dg b v = [] ↔ v = 0 := ⟨fun h => dg_inj hb (h.trans dg_zero.symm), fun h => by rw [h, dg_zero]⟩
theorem dg_len (hb : 2 ≤ b) {n v : Nat} (h : v < b ^ n) : (dg b v).length ≤ n := by rw [← dg_fl hb h]; exact Nat.le_trans (tz_len _) (by rw [fl_len]; exact Nat.le_refl _)
theorem tz_nil_iff {l : List Nat} (hb : 0 < b) : tz l = [] ↔ nv b l = 0 := by
  constructor
  · intro h; rw [← nv_tz, h]; rfl
  · intro h
    induction l with
    | nil => rfl
    | cons x l ih =>
      rw [nv_cons] at h
      have h2 : nv b l = 0 := by
        rcases Nat.eq_zero_or_pos (nv b l) with h3 | h3
        · exact h3
        · have := Nat.mul_pos hb h3; omega
      rw [tz, ih h2]; simp; omega
end
end Go.Proofs.Ytdaedplbhpiacaa
namespace Go.Proofs.Ytdaedplbhpiacaa
open Go Go.RowKit Ab
set_option linter.unusedSimpArgs false
set_option linter.unusedVariables false
set_option maxHeartbeats 10000000
def J0 : World → Prop := fun _ => True
theorem J0s : ∀ (w : World) (e : Nat → Prop) (w' : World), J0 w → BelE w e w' → J0 w' := fun _ _ _ _ _ => trivial
theorem fol : Try.prog.follows .mixedOrders = true := by kernel_rfl
def W (a : List Nat) : List V := a.map fun x : Nat => .i .u64 (x : Int)
def D (a : List Nat) : List V := a.map fun x : Nat => .i .i64 (x : Int)
def B : Nat := 18446744073709551616
def Wd (a : List Nat) : Prop := Lt B a
theorem W_len (a : List Nat) : (W a).length = a.length := by simp [W]
theorem D_len (a : List Nat) : (D a).length = a.length := by simp [D]
theorem W_get (a : List Nat) (i : Nat) (h : i < a.length) : (W a).getD i .un = .i .u64 (a.getD i 0 : Nat) := by
  simp [W, List.getD_eq_getElem?_getD, h]
theorem D_get (a : List Nat) (i : Nat) (h : i < a.length) : (D a).getD i .un = .i .i64 (a.getD i 0 : Nat) := by
  simp [D, List.getD_eq_getElem?_getD, h]
theorem W_take (a : List Nat) (i : Nat) : (W a).take i = W (a.take i) := by simp [W]
theorem W_drop (a : List Nat) (i : Nat) : (W a).drop i = W (a.drop i) := by simp [W]
theorem D_take (a : List Nat) (i : Nat) : (D a).take i = D (a.take i) := by simp [D]
theorem W_app (a b : List Nat) : W a ++ W b = W (a ++ b) := by simp [W]
theorem W_app1 (a : List Nat) (x : Nat) : W a ++ [V.i .u64 (x : Int)] = W (a ++ [x]) := by simp [W]
theorem D_app1 (a : List Nat) (x : Nat) : D a ++ [V.i .i64 (x : Int)] = D (a ++ [x]) := by simp [D]
theorem W_cell (a : List Nat) : (W a).all V.cell = true := by simp [W, V.cell]
theorem D_cell (a : List Nat) : (D a).all V.cell = true := by simp [D, V.cell]
theorem W_set (a : List Nat) (i x : Nat) : (W a).set i (.i .u64 (x : Int)) = W (a.set i x) := by simp [W]
theorem W_nf (a : List Nat) : anyNF (W a) = false := by
  induction a with
  | nil => rfl
  | cons x r ih => simpa [W, anyNF, V.nf] using ih
theorem D_nf (a : List Nat) : anyNF (D a) = false := by
  induction a with
  | nil => rfl
  | cons x r ih => simpa [D, anyNF, V.nf] using ih
theorem W_nil : W [] = [] := rfl
theorem D_nil : D [] = [] := rfl
theorem Wd_get {a : List Nat} (h : Wd a) (i : Nat) : a.getD i 0 < 18446744073709551616 := by
  rw [List.getD_eq_getElem?_getD]
  cases e : a[i]? with
  | none => simp
  | some x => exact h x (List.mem_of_getElem? e)
theorem Wd_take {a : List Nat} (h : Wd a) (i : Nat) : Wd (a.take i) := fun x hx => h x (List.mem_of_mem_take hx)
theorem Wd_drop {a : List Nat} (h : Wd a) (i : Nat) : Wd (a.drop i) := fun x hx => h x (List.mem_of_mem_drop hx)
theorem Wd_app {a b : List Nat} (h : Wd a) (k : Wd b) : Wd (a ++ b) := fun x hx => (List.mem_append.1 hx).elim (h x) (k x)
theorem Wd_nil : Wd [] := fun x hx => by cases hx
theorem wi {n : Int} (h : -9223372036854775808 ≤ n ∧ n < 9223372036854775808) : IntKind.i64.wrap n = n := by
  rw [IntKind.wrap_i64]; omega
theorem wu {n : Int} (h : 0 ≤ n ∧ n < 18446744073709551616) : IntKind.u64.wrap n = n := by
  rw [IntKind.wrap_u64]; omega
theorem c0 : ((0 : Nat) : Int) = 0 := rfl
theorem c2 : ((2 : Nat) : Int) = 2 := rfl
theorem c3 : ((3 : Nat) : Int) = 3 := rfl
theorem c13 : ((13 : Nat) : Int) = 13 := rfl
theorem c1 : ((1 : Nat) : Int) = 1 := rfl
theorem tn_sub1 (n : Nat) : ((n : Int) - 1).toNat = n - 1 := by omega
theorem tn_nat (n : Nat) : (n : Int).toNat = n := rfl
theorem S1 : type_of% (And.intro S0 (And.intro c0 (And.intro c1 (And.intro c2 (And.intro c3 c13))))) := And.intro S0 (And.intro c0 (And.intro c1 (And.intro c2 (And.intro c3 c13))))
end Go.Proofs.Ytdaedplbhpiacaa
namespace Go.Proofs.Ytdaedplbhpiacaa
open Go Go.RowKit Ab
set_option linter.unusedSimpArgs false
set_option linter.unusedVariables false
set_option maxHeartbeats 10000000
def sub64Entry : Array Value → Sem Value := fun args => do
  let (x, y, b) ← Extern.MathBitsCarry.three "Sub64" args
  pure (Extern.MathBitsCarry.pair ((x + Extern.MathBitsCarry.m64 - y - b) % Extern.MathBitsCarry.m64) (if x < y + b then 1 else 0))
theorem add64_x (x y : Nat) : XFun Try.prog 69 [.i .u64 (x : Int), .i .u64 (y : Int), .i .u64 0] (.t [.i .u64 (((x + y) % 18446744073709551616 : Nat) : Int), .i .u64 (((x + y) / 18446744073709551616 : Nat) : Int)]) := by
  intro w H ov vs hl hr
  match vs, hl with
  | [a, b, c], _ =>
    have h1 := (hr 0 a _ rfl rfl).inv_i
    have h2 := (hr 1 b _ rfl rfl).inv_i
    have h3 := (hr 2 c _ rfl rfl).inv_i
    subst h1 h2 h3
    refine ⟨_, by rw [run_callFunc_extern Try.func69 (e := add64Entry) (by kernel_rfl) (by kernel_rfl) (by kernel_rfl) (by kernel_rfl), run_add64 _ _ _ (by omega) (by omega) (by omega) (by omega)]; rfl, .up (.t [.int .u64 _, .int .u64 _] _ rfl ?_)⟩
    intro j v x hv hx
    match j with
    | 0 => cases hv; cases hx; simp only [Int.add_zero]; exact .i _ _
    | 1 => cases hv; cases hx; simp only [Int.add_zero]; exact .i _ _
    | (k + 2) => cases hv
theorem sub64_x (x y : Nat) (hy : y < 18446744073709551616) : XFun Try.prog 54 [.i .u64 (x : Int), .i .u64 (y : Int), .i .u64 0] (.t [.i .u64 (((x + 18446744073709551616 - y) % 18446744073709551616 : Nat) : Int), .i .u64 ((if x < y then 1 else 0 : Nat) : Int)]) := by
  intro w H ov vs hl hr
  match vs, hl with
  | [a, b, c], _ =>
    have h1 := (hr 0 a _ rfl rfl).inv_i
    have h2 := (hr 1 b _ rfl rfl).inv_i
    have h3 := (hr 2 c _ rfl rfl).inv_i
    subst h1 h2 h3
    have run : (sub64Entry #[.int .u64 (x : Int), .int .u64 (y : Int), .int .u64 0]).run Try.prog w = .ok (Extern.MathBitsCarry.pair ((x + Extern.MathBitsCarry.m64 - y - 0) % Extern.MathBitsCarry.m64) (if x < y + 0 then 1 else 0)) w := rfl
    refine ⟨_, by rw [run_callFunc_extern Try.func54 (e := sub64Entry) (by kernel_rfl) (by kernel_rfl) (by kernel_rfl) (by kernel_rfl), run]; rfl, .up (.t [.int .u64 _, .int .u64 _] _ rfl ?_)⟩
    intro j v x hv hx
    match j with
    | 0 => cases hv; cases hx; exact .i _ _
    | 1 => cases hv; cases hx; exact .i _ _
    | (k + 2) => cases hv
end Go.Proofs.Ytdaedplbhpiacaa
namespace Go.Proofs.Ytdaedplbhpiacaa
set_option linter.unusedSimpArgs false
set_option linter.unusedVariables false
set_option maxHeartbeats 10000000
section
variable {b : Nat}
theorem nv_take_lt {l : List Nat} (hb : 0 < b) (h : Lt b l) (i : Nat) : nv b (l.take i) < b ^ i := by
  have h1 := nv_lt (Lt_take h i)
  exact Nat.lt_of_lt_of_le h1 (Nat.pow_le_pow_right hb (by rw [List.length_take]; exact Nat.min_le_left _ _))
theorem sub_step {P A Y x y : Nat} (hP : 0 < P) (hA : A < P) (hY : Y < P) (hx : x < b) (hy : y < b) :
    ((A + P * x + P * b - (Y + P * y)) / P % b = (x + b - (y + if A < Y then 1 else 0)) % b) ∧ ((A + P * x + P * b - (Y + P * y)) % P = (A + P - Y) % P) ∧ ((A + P * x < Y + P * y) ↔ (x < y + if A < Y then 1 else 0)) := by
  have e : A + P * x + P * b - (Y + P * y) = (A + P - Y) + P * (x + b - y - 1) := by
    have h1 : P * x + P * b = P * (x + b) := (Nat.mul_add _ _ _).symm
    have h2 : P * (x + b) = P * y + P * (x + b - y - 1) + P := by rw [← Nat.mul_add, ← Nat.mul_succ]; congr 1; omega
    omega
  have lt : (A + P * x < Y + P * y) ↔ (x < y + if A < Y then 1 else 0) := by
    constructor
    · intro h
      rcases Nat.lt_or_ge x y with h1 | h1
      · split <;> omega
      · have := Nat.mul_le_mul_left P h1
        rcases Nat.lt_or_ge y x with h2 | h2
        · have h3 : P * (y + 1) ≤ P * x := Nat.mul_le_mul_left P h2
          rw [Nat.mul_succ] at h3; omega
        · have h3 : x = y := by omega
          subst h3
          rw [if_pos (by omega)]; omega
    · intro h
      rcases Nat.lt_or_ge x y with h1 | h1
      · have h3 : P * (x + 1) ≤ P * y := Nat.mul_le_mul_left P h1
        rw [Nat.mul_succ] at h3; omega
      · by_cases h2 : A < Y
        · rw [if_pos h2] at h
          have h3 : x = y := by omega
          subst h3; omega
        · rw [if_neg h2] at h; omega
  refine ⟨?_, ?_, lt⟩
  · rw [e, Nat.add_mul_div_left _ _ hP]
    by_cases h2 : A < Y
    · rw [if_pos h2, Nat.div_eq_of_lt (by omega)]; congr 1; omega
    · rw [if_neg h2]
      have : (A + P - Y) / P = 1 := by
        have h3 : A + P - Y = (A - Y) + P * 1 := by omega
        rw [h3, Nat.add_mul_div_left _ _ hP, Nat.div_eq_of_lt (by omega)]
      rw [this]; congr 1; omega
  · rw [e, Nat.add_mul_mod_self_left]
theorem add_step {P A Y x y : Nat} (hP : 0 < P) (hb : 0 < b) :
    (A + P * x + (Y + P * y)) / P % b = (x + y + (A + Y) / P) % b ∧ (A + P * x + (Y + P * y)) % P = (A + Y) % P ∧ (A + P * x + (Y + P * y)) / (P * b) = (x + y + (A + Y) / P) / b := by
  have e : A + P * x + (Y + P * y) = (A + Y) + P * (x + y) := by rw [Nat.mul_add]; omega
  refine ⟨?_, ?_, ?_⟩
  · rw [e, Nat.add_mul_div_left _ _ hP]; congr 1; omega
  · rw [e, Nat.add_mul_mod_self_left]
  · rw [e, ← Nat.div_div_eq_div_mul, Nat.add_mul_div_left _ _ hP]; congr 1; omega
theorem fl_congr (hb : 0 < b) {n v u : Nat} (h : v % b ^ n = u % b ^ n) : fl b n v = fl b n u := by rw [← fl_mod hb, h, fl_mod hb]
theorem cmp_lt {l r : List Nat} (hb : 0 < b) (hl : Lt b l) (hr : Lt b r) (i : Nat) (h : l.getD i 0 < r.getD i 0) : nv b (l.take (i + 1)) < nv b (r.take (i + 1)) := by
  rw [nv_take_succ', nv_take_succ']
  have h1 := nv_take_lt hb hl i
  have h3 : b ^ i * (l.getD i 0 + 1) ≤ b ^ i * r.getD i 0 := Nat.mul_le_mul_left _ h
  rw [Nat.mul_succ] at h3
  omega
end
theorem nv_div {b : Nat} {l : List Nat} (hb : 0 < b) (h : Lt b l) (i : Nat) : nv b l / b ^ i = nv b (l.drop i) := by
  rcases Nat.lt_or_ge l.length i with h1 | h1
  · rw [List.drop_of_length_le (by omega), Nat.div_eq_of_lt (Nat.lt_of_lt_of_le (nv_lt h) (Nat.pow_le_pow_right hb (by omega)))]; rfl
  · rw [nv_take_drop l i h1, Nat.add_mul_div_left _ _ (Nat.pow_pos hb), Nat.div_eq_of_lt (nv_take_lt hb h i), Nat.zero_add]
theorem nv_digit {b : Nat} {l : List Nat} (hb : 0 < b) (h : Lt b l) (i : Nat) : l.getD i 0 = nv b l / b ^ i % b := by
  rw [nv_div hb h]
  rcases Nat.lt_or_ge i l.length with h1 | h1
  · rw [nv_drop_get l i h1, Nat.add_mul_mod_self_left, Nat.mod_eq_of_lt (Lt_get h hb i)]
  · rw [List.drop_of_length_le h1, List.getD_eq_getElem?_getD, List.getElem?_eq_none h1]; simp [nv]
theorem fl_full {b i v : Nat} (hb : 2 ≤ b) (h : i = 0 ∨ b ^ (i - 1) ≤ v) (hv : v < b ^ i) : fl b i v = dg b v := by
  rw [← dg_fl hb hv]
  rcases Nat.eq_zero_or_pos i with h0 | h0
  · subst h0; rfl
  · obtain ⟨n, rfl⟩ : ∃ n, i = n + 1 := ⟨i - 1, by omega⟩
    rw [fl_succ, tz_last]
    have h1 : b ^ n ≤ v := by
      rcases h with h | h
      · omega
      · simpa using h
    rw [Nat.mod_eq_of_lt ((Nat.div_lt_iff_lt_mul (Nat.pow_pos (by omega))).2 (by rw [Nat.mul_comm, ← Nat.pow_succ]; exact hv))]
    have := (Nat.le_div_iff_mul_le (Nat.pow_pos (by omega : 0 < b))).2 (by rw [Nat.one_mul]; exact h1 : 1 * b ^ n ≤ v)
    omega
theorem nv_top {b : Nat} {l : List Nat} (h : tz l = l) (hl : l ≠ []) : b ^ (l.length - 1) ≤ nv b l := by
  obtain ⟨n, hn⟩ : ∃ n, l.length = n + 1 := ⟨l.length - 1, by have := List.length_pos_iff.2 hl; omega⟩
  have h1 := nv_take_succ (b := b) l n (by omega)
  rw [List.take_of_length_le (by omega)] at h1
  have h2 : l.getD n 0 ≠ 0 := fun h0 => by
    have h3 := tz_zero l n (by omega) h0
    rw [List.take_of_length_le (by omega), h] at h3
    have h4 := congrArg List.length h3
    have h5 := tz_len (l.take n)
    rw [List.length_take] at h5
    omega
  rw [h1, hn]
  have : b ^ n * 1 ≤ b ^ n * l.getD n 0 := Nat.mul_le_mul_left _ (by omega)
  simp at this ⊢; omega
theorem nv_eq_of {B : Nat} {l r : List Nat} (i : Nat) (h : ∀ j, i ≤ j → l.getD j 0 = r.getD j 0) : (nv B (l.take i) < nv B (r.take i) ↔ nv B l < nv B r) ∧ (nv B (l.take i) = nv B (r.take i) ↔ nv B l = nv B r) := by
  have key : ∀ k, ∃ t, nv B (l.take (i + k)) = nv B (l.take i) + t ∧ nv B (r.take (i + k)) = nv B (r.take i) + t := fun k => by
    induction k with
    | zero => exact ⟨0, rfl, rfl⟩
    | succ k ih =>
      obtain ⟨t, h1, h2⟩ := ih
      refine ⟨t + B ^ (i + k) * l.getD (i + k) 0, ?_, ?_⟩
      · rw [← Nat.add_assoc i k 1, nv_take_succ', h1, Nat.add_assoc]
      · rw [← Nat.add_assoc i k 1, nv_take_succ', h2, Nat.add_assoc, h _ (by omega)]
  obtain ⟨t, h1, h2⟩ := key (l.length + r.length)
  rw [List.take_of_length_le (by omega)] at h1
  rw [List.take_of_length_le (by omega)] at h2
  omega
end Go.Proofs.Ytdaedplbhpiacaa
namespace Go.Proofs.Ytdaedplbhpiacaa
open Go Go.RowKit Ab
set_option linter.unusedSimpArgs false
set_option linter.unusedVariables false
set_option maxHeartbeats 10000000
theorem B64 : B = 2 ^ 64 := rfl
theorem bor64 (a b : Nat) (ha : a < 18446744073709551616) (hb : b < 18446744073709551616) : bits .or .u64 (a : Int) (b : Int) = ((a ||| b : Nat) : Int) := by
  have h : a ||| b < 2 ^ 64 := Nat.or_lt_two_pow ha hb
  have e : (BitVec.ofNat 64 a ||| BitVec.ofNat 64 b).toNat = a ||| b := by rw [BitVec.toNat_or, BitVec.toNat_ofNat, BitVec.toNat_ofNat, Nat.mod_eq_of_lt ha, Nat.mod_eq_of_lt hb]
  have k : bits .or .u64 (a : Int) (b : Int) = IntKind.u64.wrap (((BitVec.ofInt 64 (a : Int) ||| BitVec.ofInt 64 (b : Int)).toNat : Nat) : Int) := rfl
  rw [k, BitVec.ofInt_natCast, BitVec.ofInt_natCast, e]
  exact wu ⟨by omega, by omega⟩
theorem band64 (a b : Nat) (ha : a < 18446744073709551616) (hb : b < 18446744073709551616) : bits .and .u64 (a : Int) (b : Int) = ((a &&& b : Nat) : Int) := by
  have h : a &&& b < 2 ^ 64 := Nat.lt_of_le_of_lt Nat.and_le_left ha
  have e : (BitVec.ofNat 64 a &&& BitVec.ofNat 64 b).toNat = a &&& b := by rw [BitVec.toNat_and, BitVec.toNat_ofNat, BitVec.toNat_ofNat, Nat.mod_eq_of_lt ha, Nat.mod_eq_of_lt hb]
  have k : bits .and .u64 (a : Int) (b : Int) = IntKind.u64.wrap (((BitVec.ofInt 64 (a : Int) &&& BitVec.ofInt 64 (b : Int)).toNat : Nat) : Int) := rfl
  rw [k, BitVec.ofInt_natCast, BitVec.ofInt_natCast, e]
  exact wu ⟨by omega, by omega⟩
theorem shl64 (x r : Nat) (h : r ≤ 64) : IntKind.u64.wrap ((x : Int) * 2 ^ (min r IntKind.u64.bits)) = ((x * 2 ^ r % 18446744073709551616 : Nat) : Int) := by
  rw [show min r IntKind.u64.bits = r from Nat.min_eq_left h, IntKind.wrap_u64]
  have : (x : Int) * 2 ^ r = ((x * 2 ^ r : Nat) : Int) := by simp
  rw [this]; omega
theorem shr64 (x r : Nat) (h : r ≤ 64) : (x : Int).fdiv (2 ^ (min r IntKind.u64.bits)) = ((x / 2 ^ r : Nat) : Int) := by
  rw [show min r IntKind.u64.bits = r from Nat.min_eq_left h]
  have : (2 : Int) ^ r = ((2 ^ r : Nat) : Int) := by simp
  rw [this, Int.fdiv_eq_ediv_of_nonneg _ (Int.natCast_nonneg _)]; rfl
theorem tn_64 (r : Nat) : (64 - (r : Int)).toNat = 64 - r := by omega
theorem tmod_64 (n : Nat) : (n : Int).tmod 64 = ((n % 64 : Nat) : Int) := rfl
theorem tdiv_64 (n : Nat) : (n : Int).tdiv 64 = ((n / 64 : Nat) : Int) := rfl
theorem or_low {x r low : Nat} (hr : r ≤ 64) (hl : low < 2 ^ r) : (x * 2 ^ r % 18446744073709551616) ||| low = x * 2 ^ r % 18446744073709551616 + low := by
  have e : x * 2 ^ r % 18446744073709551616 = 2 ^ r * (x % 2 ^ (64 - r)) := by
    rw [show 18446744073709551616 = 2 ^ r * 2 ^ (64 - r) from by rw [← Nat.pow_add, show r + (64 - r) = 64 from by omega], Nat.mul_comm x, Nat.mul_mod_mul_left]
  rw [e, ← Nat.two_pow_add_eq_or_of_lt hl]
theorem or_high {x r low : Nat} (hr : r ≤ 64) (hl : low < 2 ^ r) : low ||| (x * 2 ^ r % 18446744073709551616) = low + x * 2 ^ r % 18446744073709551616 := by
  rw [Nat.or_comm, or_low hr hl, Nat.add_comm]
theorem shl_step {V P x r : Nat} (hP : 0 < P) (hV : V < P) (hx : x < B) (hr : r ≤ 64) :
    ((V + P * x) * 2 ^ r) / P % B = x * 2 ^ r % 18446744073709551616 + V * 2 ^ r / P ∧ ((V + P * x) * 2 ^ r) / (P * B) = x / 2 ^ (64 - r) ∧ ((V + P * x) * 2 ^ r) % P = (V * 2 ^ r) % P ∧ V * 2 ^ r / P < 2 ^ r := by
  have hl : V * 2 ^ r / P < 2 ^ r := (Nat.div_lt_iff_lt_mul hP).2 (by rw [Nat.mul_comm]; exact Nat.mul_lt_mul_of_pos_left hV (Nat.pow_pos (by decide)))
  have e : (V + P * x) * 2 ^ r = V * 2 ^ r + P * (x * 2 ^ r) := by rw [Nat.add_mul, Nat.mul_assoc]
  have eB : B = 2 ^ (64 - r) * 2 ^ r := by rw [← Nat.pow_add, show 64 - r + r = 64 from by omega]; rfl
  have em : x * 2 ^ r % 18446744073709551616 = 2 ^ r * (x % 2 ^ (64 - r)) := by
    rw [show 18446744073709551616 = 2 ^ r * 2 ^ (64 - r) from by rw [← Nat.pow_add, show r + (64 - r) = 64 from by omega], Nat.mul_comm x, Nat.mul_mod_mul_left]
  have e1 : (V + P * x) * 2 ^ r / P = V * 2 ^ r / P + x * 2 ^ r := by rw [e, Nat.add_mul_div_left _ _ hP]
  have hq : x * 2 ^ r / B = x / 2 ^ (64 - r) := by rw [eB, Nat.mul_div_mul_right _ _ (Nat.pow_pos (by decide))]
  have hsum : V * 2 ^ r / P + x * 2 ^ r = (x * 2 ^ r % B + V * 2 ^ r / P) + B * (x * 2 ^ r / B) := by have := Nat.mod_add_div (x * 2 ^ r) B; omega
  have hlt : x * 2 ^ r % B + V * 2 ^ r / P < B := by
    have h1 : x % 2 ^ (64 - r) < 2 ^ (64 - r) := Nat.mod_lt _ (Nat.pow_pos (by decide))
    have h2 : 2 ^ r * (x % 2 ^ (64 - r) + 1) ≤ 2 ^ r * 2 ^ (64 - r) := Nat.mul_le_mul_left _ h1
    rw [show x * 2 ^ r % B = 2 ^ r * (x % 2 ^ (64 - r)) from em]
    rw [Nat.mul_add, Nat.mul_one, Nat.mul_comm (2 ^ r) (2 ^ (64 - r)), ← eB] at h2
    omega
  have hB : 0 < B := by decide
  refine ⟨?_, ?_, ?_, hl⟩
  · rw [e1, hsum, Nat.add_mul_mod_self_left, Nat.mod_eq_of_lt hlt]; rfl
  · rw [← Nat.div_div_eq_div_mul, e1, hsum, Nat.add_mul_div_left _ _ hB, Nat.div_eq_of_lt hlt, Nat.zero_add, hq]
  · rw [e, Nat.add_mul_mod_self_left]
theorem shr_step {X r : Nat} (h0 : 0 < r) (hr : r < 64) : X / 2 ^ r % B = X % B / 2 ^ r + (X / B % B) * 2 ^ (64 - r) % 18446744073709551616 ∧ X % B / 2 ^ r < 2 ^ (64 - r) := by
  have eB : B = 2 ^ r * 2 ^ (64 - r) := by rw [← Nat.pow_add, show r + (64 - r) = 64 from by omega]; rfl
  have hlt : X % B / 2 ^ r < 2 ^ (64 - r) := (Nat.div_lt_iff_lt_mul (Nat.pow_pos (by decide))).2 (by rw [Nat.mul_comm, ← eB]; exact Nat.mod_lt _ (by decide))
  refine ⟨?_, hlt⟩
  have e1 : X / 2 ^ r = X % B / 2 ^ r + 2 ^ (64 - r) * (X / B) := by
    have h1 := Nat.mod_add_div X B
    have h2 : X = X % B + 2 ^ r * (2 ^ (64 - r) * (X / B)) := by rw [← Nat.mul_assoc, ← eB]; omega
    calc X / 2 ^ r = (X % B + 2 ^ r * (2 ^ (64 - r) * (X / B))) / 2 ^ r := by rw [← h2]
      _ = _ := Nat.add_mul_div_left _ _ (Nat.pow_pos (by decide))
  have em : ∀ y, y * 2 ^ (64 - r) % B = 2 ^ (64 - r) * (y % 2 ^ r) := fun y => by rw [eB, Nat.mul_comm y, Nat.mul_comm (2 ^ r), Nat.mul_mod_mul_left]
  have em2 : X / B % B * 2 ^ (64 - r) % 18446744073709551616 = 2 ^ (64 - r) * (X / B % 2 ^ r) := by
    rw [show (18446744073709551616 : Nat) = B from rfl, em, eB, Nat.mod_mul_right_mod]
  have em3 : 2 ^ (64 - r) * (X / B) % B = 2 ^ (64 - r) * (X / B % 2 ^ r) := by rw [Nat.mul_comm, em]
  rw [em2, e1]
  have h3 : X % B / 2 ^ r + 2 ^ (64 - r) * (X / B % 2 ^ r) < B := by
    have h4 : X / B % 2 ^ r < 2 ^ r := Nat.mod_lt _ (Nat.pow_pos (by decide))
    have h5 : 2 ^ (64 - r) * (X / B % 2 ^ r + 1) ≤ 2 ^ (64 - r) * 2 ^ r := Nat.mul_le_mul_left _ h4
    rw [Nat.mul_add, Nat.mul_one, Nat.mul_comm _ (2 ^ r), ← eB] at h5
    omega
  rw [Nat.add_mod, em3, Nat.mod_eq_of_lt (show X % B / 2 ^ r < B from by omega), Nat.mod_eq_of_lt h3]
def shlOut (a : List Nat) (n : Nat) : List Nat := List.replicate (n / 64) 0 ++ (if n % 64 = 0 then a else fl B (a.length + 1) (nv B a * 2 ^ (n % 64)))
theorem shlOut_len (a : List Nat) (n : Nat) : (shlOut a n).length ≤ n / 64 + a.length + 1 := by
  unfold shlOut
  rw [List.length_append, List.length_replicate]
  split
  · omega
  · rw [fl_len]; omega
theorem shlOut_Wd {a : List Nat} (ha : Wd a) (n : Nat) : Wd (shlOut a n) := by
  unfold shlOut
  refine Lt_app.2 ⟨Lt_rep (by decide), ?_⟩
  split
  · exact ha
  · exact fl_Lt (by decide) _ _
theorem shlOut_nv {a : List Nat} (ha : Wd a) (n : Nat) : nv B (shlOut a n) = nv B a * 2 ^ n := by
  have e : (2 : Nat) ^ n = B ^ (n / 64) * 2 ^ (n % 64) := by rw [B64, ← Nat.pow_mul, ← Nat.pow_add, Nat.div_add_mod]
  unfold shlOut
  rw [nv_app, nv_rep, Nat.zero_add, List.length_replicate, e]
  split
  · rename_i h; rw [h, Nat.pow_zero, Nat.mul_one, Nat.mul_comm]
  · rw [nv_fl, Nat.mod_eq_of_lt, Nat.mul_left_comm]
    have h1 := nv_lt ha
    have h2 : 2 ^ (n % 64) ≤ B := by rw [B64]; exact Nat.pow_le_pow_right (by decide) (by omega)
    rw [Nat.pow_succ]
    exact Nat.lt_of_lt_of_le (Nat.mul_lt_mul_of_pos_right h1 (Nat.pow_pos (by decide))) (Nat.mul_le_mul_left _ h2)
theorem pow_split (n : Nat) : (2 : Nat) ^ n = B ^ (n / 64) * 2 ^ (n % 64) := by rw [B64, ← Nat.pow_mul, ← Nat.pow_add, Nat.div_add_mod]
theorem shr_digit {A n i : Nat} : A / 2 ^ n / B ^ i % B = A / B ^ (n / 64 + i) / 2 ^ (n % 64) % B := by
  rw [pow_split, Nat.div_div_eq_div_mul, Nat.div_div_eq_div_mul, Nat.pow_add]
  congr 2
  rw [Nat.mul_right_comm]
end Go.Proofs.Ytdaedplbhpiacaa
namespace Go.Proofs.Ytdaedplbhpiacaa
open Go Go.RowKit Ab
set_option linter.unusedSimpArgs false
set_option linter.unusedVariables false
set_option maxHeartbeats 10000000
def bl (x : Nat) : Nat := if x = 0 then 0 else x.log2 + 1
theorem bl_lt (x : Nat) : x < 2 ^ bl x := by
  unfold bl
  split
  · omega
  · exact Nat.lt_log2_self
theorem bl_le {x : Nat} (h : x ≠ 0) : 2 ^ (bl x - 1) ≤ x ∧ 1 ≤ bl x := by
  unfold bl
  rw [if_neg h]
  exact ⟨Nat.log2_self_le h, by omega⟩
theorem bl_uniq {x k : Nat} (h1 : 2 ^ k ≤ x) (h2 : x < 2 ^ (k + 1)) : bl x = k + 1 := by
  have h0 : x ≠ 0 := by have := Nat.two_pow_pos k; omega
  obtain ⟨h3, h4⟩ := bl_le h0
  have h5 := bl_lt x
  rcases Nat.lt_trichotomy (bl x) (k + 1) with h | h | h
  · have := Nat.pow_le_pow_right (show 0 < 2 by decide) (show bl x ≤ k by omega); omega
  · exact h
  · have := Nat.pow_le_pow_right (show 0 < 2 by decide) (show k + 1 ≤ bl x - 1 by omega); omega
theorem bl_div {x n : Nat} (h : 2 ^ n ≤ x) : bl x = n + bl (x / 2 ^ n) := by
  have hp := Nat.two_pow_pos n
  have hq : x / 2 ^ n ≠ 0 := by have := (Nat.le_div_iff_mul_le hp).2 (by simpa using h : 1 * 2 ^ n ≤ x); omega
  obtain ⟨h1, h2⟩ := bl_le hq
  have h3 := bl_lt (x / 2 ^ n)
  obtain ⟨k, hk⟩ : ∃ k, bl (x / 2 ^ n) = k + 1 := ⟨bl (x / 2 ^ n) - 1, by omega⟩
  rw [hk] at h1 h3 ⊢
  rw [← Nat.add_assoc]
  refine bl_uniq ?_ ?_
  · rw [Nat.add_comm, Nat.pow_add]; exact (Nat.le_div_iff_mul_le hp).1 h1
  · rw [show n + k + 1 = (k + 1) + n from by omega, Nat.pow_add]; exact (Nat.div_lt_iff_lt_mul hp).1 h3
theorem bl_64 {x : Nat} (h : x < 18446744073709551616) : bl x ≤ 64 := by
  by_cases h0 : x = 0
  · subst h0; decide
  · obtain ⟨h1, h2⟩ := bl_le h0
    rcases Nat.lt_or_ge 64 (bl x) with h3 | h3
    · have := Nat.pow_le_pow_right (show 0 < 2 by decide) (show 64 ≤ bl x - 1 by omega); omega
    · exact h3
theorem dig_stop {yn1 yn0 u32 u1 q r : Nat} (h : q * yn1 + r = u32) (h2 : q * yn0 ≤ 4294967296 * r + u1) : q * (yn1 * 4294967296 + yn0) ≤ u32 * 4294967296 + u1 := by
  have e : q * (yn1 * 4294967296 + yn0) = q * yn1 * 4294967296 + q * yn0 := by rw [Nat.mul_add, Nat.mul_assoc]
  rw [e]; generalize q * yn1 = a at *; generalize q * yn0 = c at *; omega
theorem dig_over {yn1 yn0 u32 u1 q r : Nat} (h : q * yn1 + r = u32) (h2 : 4294967296 * r + u1 < q * yn0) : u32 * 4294967296 + u1 < q * (yn1 * 4294967296 + yn0) := by
  have e : q * (yn1 * 4294967296 + yn0) = q * yn1 * 4294967296 + q * yn0 := by rw [Nat.mul_add, Nat.mul_assoc]
  rw [e]; generalize q * yn1 = a at *; generalize q * yn0 = c at *; omega
theorem dig_big {Y u32 u1 q : Nat} (hu : u32 < Y) (h1 : u1 < 4294967296) (hq : 4294967296 ≤ q) : u32 * 4294967296 + u1 < q * Y := by
  have := Nat.mul_le_mul hq (show u32 + 1 ≤ Y from hu)
  omega
theorem dig_init {yn1 yn0 u32 u1 : Nat} (h31 : 2147483648 ≤ yn1) (h0 : yn0 < 4294967296) (hu : u32 < yn1 * 4294967296 + yn0) (h1 : u1 < 4294967296) :
    u32 / yn1 * yn1 + u32 % yn1 = u32 ∧ u32 * 4294967296 + u1 < (u32 / yn1 + 1) * (yn1 * 4294967296 + yn0) ∧ u32 / yn1 ≤ 4294967297 := by
  have e := Nat.div_add_mod u32 yn1
  have hm := Nat.mod_lt u32 (show 0 < yn1 by omega)
  rw [Nat.mul_comm] at e
  refine ⟨e, ?_, ?_⟩
  · have h : (u32 / yn1 + 1) * (yn1 * 4294967296 + yn0) = (u32 / yn1 * yn1 + yn1) * 4294967296 + (u32 / yn1 + 1) * yn0 := by rw [Nat.mul_add, ← Nat.mul_assoc, Nat.add_mul _ 1 yn1, Nat.one_mul]
    rw [h]
    generalize u32 / yn1 * yn1 = a at *
    generalize (u32 / yn1 + 1) * yn0 = c at *
    omega
  · have : u32 / yn1 < 4294967298 := (Nat.div_lt_iff_lt_mul (by omega)).2 (by omega)
    omega
theorem dig_one {Y N q : Nat} (h1 : q * Y ≤ N) (h2 : N < (q + 1) * Y) : q = N / Y := by
  have hY : 0 < Y := by
    rcases Nat.eq_zero_or_pos Y with h | h
    · subst h; simp at h2
    · exact h
  exact (Nat.div_eq_of_lt_le h1 h2).symm
theorem dig_two' {Y N un0 q r : Nat} (hY : 0 < Y) (e : Y * q + r = N) : (N * 4294967296 + un0) / Y = q * 4294967296 + (r * 4294967296 + un0) / Y ∧ (N * 4294967296 + un0) % Y = (r * 4294967296 + un0) % Y := by
  have h : N * 4294967296 + un0 = (r * 4294967296 + un0) + Y * (q * 4294967296) := by
    rw [← e, ← Nat.mul_assoc]; omega
  rw [h, Nat.add_mul_div_left _ _ hY, Nat.add_mul_mod_self_left, Nat.add_comm]
  exact ⟨rfl, rfl⟩
theorem dig_two {Y N un0 : Nat} (hY : 0 < Y) : (N * 4294967296 + un0) / Y = N / Y * 4294967296 + (N % Y * 4294967296 + un0) / Y ∧ (N * 4294967296 + un0) % Y = (N % Y * 4294967296 + un0) % Y :=
  dig_two' hY (Nat.div_add_mod N Y)
theorem norm_bits {y : Nat} (h0 : y ≠ 0) (hy : y < 18446744073709551616) : 9223372036854775808 ≤ y * 2 ^ (64 - bl y) ∧ y * 2 ^ (64 - bl y) < 18446744073709551616 := by
  obtain ⟨h1, h2⟩ := bl_le h0
  have h3 := bl_lt y
  have h4 := bl_64 hy
  constructor
  · have := Nat.mul_le_mul_right (2 ^ (64 - bl y)) h1
    rw [← Nat.pow_add, show bl y - 1 + (64 - bl y) = 63 from by omega] at this
    exact this
  · have := (Nat.mul_lt_mul_right (Nat.two_pow_pos (64 - bl y))).2 h3
    rw [← Nat.pow_add, show bl y + (64 - bl y) = 64 from by omega] at this
    exact this
theorem shl_split {lo s : Nat} (hs : s ≤ 64) : lo * 2 ^ s = lo / 2 ^ (64 - s) * 18446744073709551616 + lo * 2 ^ s % 18446744073709551616 := by
  have e : (18446744073709551616 : Nat) = 2 ^ s * 2 ^ (64 - s) := by rw [← Nat.pow_add, show s + (64 - s) = 64 from by omega]
  have h := Nat.div_add_mod (lo * 2 ^ s) 18446744073709551616
  have h2 : lo * 2 ^ s / 18446744073709551616 = lo / 2 ^ (64 - s) := by rw [e, Nat.mul_comm lo, Nat.mul_div_mul_left _ _ (Nat.two_pow_pos s)]
  rw [h2] at h
  omega
theorem shr_lt {lo s : Nat} (hs : s ≤ 64) (hl : lo < 18446744073709551616) : lo / 2 ^ (64 - s) < 2 ^ s := by
  refine (Nat.div_lt_iff_lt_mul (Nat.two_pow_pos _)).2 ?_
  rw [← Nat.pow_add, show s + (64 - s) = 64 from by omega]; exact hl
theorem scale_div {U y s : Nat} : U * 2 ^ s / (y * 2 ^ s) = U / y ∧ U * 2 ^ s % (y * 2 ^ s) / 2 ^ s = U % y := by
  refine ⟨Nat.mul_div_mul_right _ _ (Nat.two_pow_pos s), ?_⟩
  rw [Nat.mul_mod_mul_right, Nat.mul_div_cancel _ (Nat.two_pow_pos s)]
end Go.Proofs.Ytdaedplbhpiacaa
namespace Go.Proofs.Ytdaedplbhpiacaa
open Go Go.RowKit Ab
set_option linter.unusedSimpArgs false
set_option linter.unusedVariables false
set_option maxHeartbeats 10000000
def a57 : AC := .seq (.reg [qr 2 (.mv (.k .nl))])
 (.seq (.seq (.reg [qm 3 0,
 qr 4 (.isn false (.t 3))])
 (.cond (.t 4)
 (.seq (.reg [qr 2 (.mv (.k .nl))])
 (.ret))
 (.skip)))
 (.seq (.reg [qr 5 (.bsl 24 1 0 [] []),
 qm 6 0,
 qr 7 (.app 24 1 8 (.t 5) (.t 6)),
 qm 2 7])
 (.ret)))
theorem clone_spec (a : List Nat) (ha : a.length ≤ 1099511627776) : AFun Try.prog J0 57 [.l 1 (W a)] (.o 24 1 (W a)) := by
  refine mkQ fol J0s Try.func57 a57 ?_
  unfold a57
  simp only [init_eq, initE, qm, qr, qn]
  rw [vm_seq]
  try simp only [Sv, ↓reduceIte, Nat.reduceEqDiff]
  refine vm_reg (fun K hK => ?_)
  refine smQ trivial ?_
  refine hK _ ?_
  clear hK K
  simp only [Sv]
  try simp only [Sv, ↓reduceIte, Nat.reduceEqDiff]
  refine vm_reg (fun K hK => ?_)
  refine smQ trivial ?_
  refine isp_mk fun t ht => ?_
  refine smQ trivial ?_
  refine hK _ ?_
  clear hK K
  simp only [Sv, ↓reduceIte]
  refine vmc_mk (fun hc => ?_) (fun hc => ?_)
  · try (refine hK _ ?_; clear hK K)
    refine spQ trivial ?_
    simp only [bne_eq_false_iff_eq, ne_eq, bne_iff_ne, Bool.not_eq_false] at hc
    have := ht hc
    exact rtQ @this
  · try (refine hK _ ?_; clear hK K)
    refine spQ (ai @nappA (ai @W_cell (ai @Nat.div_one @W_len))) ?_
    exact rtQ trivial
def a77 : AC := .seq (.reg [qr 2 (.mv (.k (.i .i64 0)))])
 (.seq (.reg [qm 4 0,
 qr 5 (.len (.t 4)),
 qm 3 5])
 (.seq (.blk 0
 (.loop
 (.seq (.seq (.reg [qm 6 3,
 qr 7 (.bin .gtr (.t 6) (.k (.i .i64 0))),
 qm 8 7,
 ⟨some 9, some (8, true), .mv (.t 0)⟩,
 ⟨some 10, some (8, true), .mv (.t 3)⟩,
 ⟨some 11, some (8, true), .bin .sub (.t 10) (.k (.i .i64 1))⟩,
 ⟨some 12, some (8, true), .idx 1 (.t 9) (.t 11)⟩,
 ⟨some 13, some (8, true), .ld false 1 (.t 12)⟩,
 ⟨some 14, some (8, true), .bin .eql (.t 13) (.k (.i .u64 0))⟩,
 qr 15 (.pick (.t 8) (.t 14) (.k (.b false)))])
 (.cond (.t 15)
 (.skip)
 (.exit 0)))
 (.blk 1
 (.reg [qm 16 3,
 qr 17 (.bin .sub (.t 16) (.k (.i .i64 1))),
 qm 3 17])))))
 (.seq (.reg [qm 18 3,
 qm 2 18])
 (.ret))))
theorem top_spec (a : List Nat) (ha : a.length ≤ 1099511627776) : AFun Try.prog J0 77 [.l 1 (W a)] (.i .i64 ((tz a).length : Int)) := by
  refine mkQ fol J0s Try.func77 a77 ?_
  unfold a77
  simp only [init_eq, initE, qm, qr, qn]
  refine spQ (ai @Nat.div_one @W_len) ?_
  refine vm_loop Nat (fun n => ⟨[(0, .l 1 (W a)), (3, .i .i64 (n : Int))], [], 0⟩) (fun n => n ≤ a.length ∧ tz a = tz (a.take n)) (fun n => n) a.length [] ⟨by omega, by rw [List.take_length]⟩ (by
    simp (disch := (first | omega | assumption)) only [Sl, Sa, Sw, ↓reduceIte, Nat.reduceEqDiff, Nat.reduceLT, List.all_nil, List.all_cons, Nat.reduceBneDiff, Nat.reduceAdd, bne_iff_ne, ne_eq, reduceCtorEq, not_false_eq_true, not_true_eq_false, Bool.and_true, Bool.true_and, and_true, true_and, and_self]
    ) ?_
  intro n ⟨hn, ht⟩ Q' hQ he hr
  by_cases h0 : 0 < (n : Int)
  · by_cases h1 : ((a.getD (n - 1) 0 : Nat) : Int) = 0
    · refine spQ (ai @Nat.mul_one (ai @tn_sub1 (ai @wi (ai @W_get (ai @W_len (ai @h1 @h0)))))) ?_
      refine hQ _ (n - 1) [] ⟨by omega, ?_⟩ (by omega) ?_
      · obtain ⟨m, rfl⟩ : ∃ m, n = m + 1 := ⟨n - 1, by omega⟩
        rw [ht]; exact tz_zero a m (by omega) (by simpa using h1)
      · simp (disch := (first | omega | assumption)) only [Sl, Sa, Sw, ↓reduceIte, Nat.reduceEqDiff, Nat.reduceLT, List.all_nil, List.all_cons, Nat.reduceBneDiff, Nat.reduceAdd, bne_iff_ne, ne_eq, reduceCtorEq, not_false_eq_true, not_true_eq_false, Bool.and_true, Bool.true_and, and_true, true_and, and_self, i_eq]
        omega
    · refine spQ (ai @Nat.mul_one (ai @tn_sub1 (ai @wi (ai @W_get (ai @W_len (ai @h1 @h0)))))) ?_
      refine he _ _ ?_
      refine spQ trivial ?_
      refine rtO @i_eq ?_
      obtain ⟨m, rfl⟩ : ∃ m, n = m + 1 := ⟨n - 1, by omega⟩
      rw [ht, tz_top a m (by omega) (by simpa using h1)]
  · refine spQ @h0 ?_
    refine he _ _ ?_
    refine spQ trivial ?_
    refine rtO @i_eq ?_
    obtain rfl : n = 0 := by omega
    rw [ht]; rfl
def a64 : AC := .seq (.reg [qr 2 (.mv (.k .nl))])
 (.seq (.reg [qm 3 0,
 qm 4 0,
 qr 5 (.call 77 [(1, (.t 4))]),
 qr 6 (.sub 1 (.t 3) none (some (.t 5))),
 qr 7 (.call 57 [(1, (.t 6))]),
 qm 2 7])
 (.ret))
theorem trim_spec (a : List Nat) (ha : a.length ≤ 1099511627776) : AFun Try.prog J0 64 [.l 1 (W a)] (.o 24 1 (W (tz a))) := by
  refine mkQ fol J0s Try.func64 a64 ?_
  unfold a64
  simp only [init_eq, initE, qm, qr, qn]
  have hl := tz_len a
  refine spQ trivial ?_
  try simp only [Sv, ↓reduceIte, Nat.reduceEqDiff]
  refine vm_reg (fun K hK => ?_)
  refine smQ trivial ?_
  refine clp_mk _ _ ?_ ?_ ?_ (top_spec a ha) ?_
  · simp (disch := (first | omega | assumption)) only [S1, ↓reduceIte, Nat.reduceEqDiff, Nat.reduceAdd, Nat.reduceMul, Nat.reduceDiv, AOp.sb, AOp.mut, frzf, ↓Bool.false_eq_true, beq_self_eq_true, ite_self, Nat.reduceLeDiff, Int.reduceEq, Int.reduceSub, Int.reduceAdd, Int.reduceNeg, Int.reduceLT, Int.reduceLE, Nat.reduceLT]
  · simp (disch := (first | omega | assumption)) only [S1, ↓reduceIte, Nat.reduceEqDiff, Nat.reduceAdd, Nat.reduceMul, Nat.reduceDiv, AOp.sb, AOp.mut, frzf, ↓Bool.false_eq_true, beq_self_eq_true, ite_self, Nat.reduceLeDiff, Int.reduceEq, Int.reduceSub, Int.reduceAdd, Int.reduceNeg, Int.reduceLT, Int.reduceLE, Nat.reduceLT]
  · first | rfl | (simp (disch := (first | omega | assumption)) only [S1, ↓reduceIte, Nat.reduceEqDiff, Nat.reduceAdd, Nat.reduceMul, Nat.reduceDiv, AOp.sb, AOp.mut, frzf, ↓Bool.false_eq_true, beq_self_eq_true, ite_self, Nat.reduceLeDiff, Int.reduceEq, Int.reduceSub, Int.reduceAdd, Int.reduceNeg, Int.reduceLT, Int.reduceLE, Nat.reduceLT])
  refine smQ (ai @tz_take (ai @W_take (ai @tn_nat (ai @Nat.mul_one @W_len)))) ?_
  refine clp_mk _ _ ?_ ?_ ?_ (clone_spec (tz a) (by omega)) ?_
  · simp (disch := (first | omega | assumption)) only [S1, ↓reduceIte, Nat.reduceEqDiff, Nat.reduceAdd, Nat.reduceMul, Nat.reduceDiv, AOp.sb, AOp.mut, frzf, ↓Bool.false_eq_true, beq_self_eq_true, ite_self, Nat.reduceLeDiff, Int.reduceEq, Int.reduceSub, Int.reduceAdd, Int.reduceNeg, Int.reduceLT, Int.reduceLE, Nat.reduceLT]
  · simp (disch := (first | omega | assumption)) only [S1, ↓reduceIte, Nat.reduceEqDiff, Nat.reduceAdd, Nat.reduceMul, Nat.reduceDiv, AOp.sb, AOp.mut, frzf, ↓Bool.false_eq_true, beq_self_eq_true, ite_self, Nat.reduceLeDiff, Int.reduceEq, Int.reduceSub, Int.reduceAdd, Int.reduceNeg, Int.reduceLT, Int.reduceLE, Nat.reduceLT]
  · first | rfl | (simp (disch := (first | omega | assumption)) only [S1, ↓reduceIte, Nat.reduceEqDiff, Nat.reduceAdd, Nat.reduceMul, Nat.reduceDiv, AOp.sb, AOp.mut, frzf, ↓Bool.false_eq_true, beq_self_eq_true, ite_self, Nat.reduceLeDiff, Int.reduceEq, Int.reduceSub, Int.reduceAdd, Int.reduceNeg, Int.reduceLT, Int.reduceLE, Nat.reduceLT])
  refine smQ (ai @Nat.div_one @W_len) ?_
  refine hK _ ?_
  clear hK K
  try (refine hK _ ?_; clear hK K)
  refine spQ trivial ?_
  exact rtQ trivial
def a65 : AC := .seq (.reg [qr 4 (.mv (.k (.i .u64 0)))])
 (.seq (.seq (.reg [qm 5 1,
 qm 6 0,
 qr 7 (.len (.t 6)),
 qr 8 (.bin .lss (.t 5) (.t 7))])
 (.cond (.t 8)
 (.seq (.reg [qm 9 0,
 qm 10 1,
 qr 11 (.idx 1 (.t 9) (.t 10)),
 qr 12 (.ld false 1 (.t 11)),
 qm 4 12])
 (.ret))
 (.skip)))
 (.seq (.reg [qr 4 (.mv (.k (.i .u64 0)))])
 (.ret)))
theorem at_spec (a : List Nat) (i : Nat) : AFun Try.prog J0 65 [.l 1 (W a), .i .i64 i] (.i .u64 ((a.getD i 0 : Nat) : Int)) := by
  refine mkQ fol J0s Try.func65 a65 ?_
  unfold a65
  simp only [init_eq, initE, qm, qr, qn]
  by_cases h : (i : Int) < a.length
  · refine spQ (ai @tn_nat (ai @Nat.mul_one (ai @Nat.div_one (ai @W_get (ai @W_len @h))))) ?_
    exact rtQ trivial
  · refine spQ (ai @tn_nat (ai @Nat.mul_one (ai @Nat.div_one (ai @W_get (ai @W_len @h))))) ?_
    refine rtO @i_eq ?_
    rw [List.getD_eq_getElem?_getD, List.getElem?_eq_none (by omega)]; rfl
def a73 : AC := .seq (.reg [qr 6 (.mv (.k (.i .u64 0))),
 qr 7 (.mv (.k (.i .u64 0)))])
 (.seq (.reg [qm 12 0,
 qm 13 1,
 qr 14 (.xcall 69 [(.t 12), (.t 13), (.k (.i .u64 0))]),
 qm 11 14,
 qr 15 (.ext (.t 11) 0),
 qr 16 (.ext (.t 11) 1),
 qm 8 15,
 qm 9 16])
 (.seq (.reg [qm 18 8,
 qm 19 2,
 qr 20 (.xcall 69 [(.t 18), (.t 19), (.k (.i .u64 0))]),
 qm 17 20,
 qr 21 (.ext (.t 17) 0),
 qr 22 (.ext (.t 17) 1),
 qm 8 21,
 qm 10 22])
 (.seq (.reg [qm 23 8,
 qm 24 9,
 qm 25 10,
 qr 26 (.bin .add (.t 24) (.t 25)),
 qm 6 23,
 qm 7 26])
 (.ret))))
theorem addW_spec (x y c : Nat) (hx : x < 18446744073709551616) (hy : y < 18446744073709551616) (hc : c < 18446744073709551616) :
    AFun Try.prog J0 73 [.i .u64 x, .i .u64 y, .i .u64 c] (.t [.i .u64 (((x + y + c) % 18446744073709551616 : Nat) : Int), .i .u64 (((x + y + c) / 18446744073709551616 : Nat) : Int)]) := by
  refine mkQ fol J0s Try.func73 a73 ?_
  unfold a73
  simp only [init_eq, initE, qm, qr, qn]
  refine spQ trivial ?_
  try simp only [Sv, ↓reduceIte, Nat.reduceEqDiff]
  refine vm_reg (fun K hK => ?_)
  refine smQ trivial ?_
  refine xlp_mk _ (add64_x x y) ?_
  refine smQ trivial ?_
  refine hK _ ?_
  clear hK K
  try (refine hK _ ?_; clear hK K)
  refine spQ trivial ?_
  try simp only [Sv, ↓reduceIte, Nat.reduceEqDiff]
  refine vm_reg (fun K hK => ?_)
  refine smQ trivial ?_
  refine xlp_mk _ (add64_x ((x + y) % 18446744073709551616) c) ?_
  refine smQ trivial ?_
  refine hK _ ?_
  clear hK K
  try (refine hK _ ?_; clear hK K)
  refine spQ @wu ?_
  refine rtO @i_eq ?_
  omega
def a72 : AC := .seq (.reg [qr 6 (.mv (.k (.i .u64 0))),
 qr 7 (.mv (.k (.i .u64 0)))])
 (.seq (.reg [qm 12 0,
 qm 13 1,
 qr 14 (.xcall 54 [(.t 12), (.t 13), (.k (.i .u64 0))]),
 qm 11 14,
 qr 15 (.ext (.t 11) 0),
 qr 16 (.ext (.t 11) 1),
 qm 8 15,
 qm 9 16])
 (.seq (.reg [qm 18 8,
 qm 19 2,
 qr 20 (.xcall 54 [(.t 18), (.t 19), (.k (.i .u64 0))]),
 qm 17 20,
 qr 21 (.ext (.t 17) 0),
 qr 22 (.ext (.t 17) 1),
 qm 8 21,
 qm 10 22])
 (.seq (.reg [qm 23 8,
 qm 24 9,
 qm 25 10,
 qr 26 (.bin .add (.t 24) (.t 25)),
 qm 6 23,
 qm 7 26])
 (.ret))))
theorem subW_spec (x y c : Nat) (hx : x < 18446744073709551616) (hy : y < 18446744073709551616) (hc : c ≤ 1) :
    AFun Try.prog J0 72 [.i .u64 x, .i .u64 y, .i .u64 c] (.t [.i .u64 (((x + 18446744073709551616 - (y + c)) % 18446744073709551616 : Nat) : Int), .i .u64 ((if x < y + c then 1 else 0 : Nat) : Int)]) := by
  refine mkQ fol J0s Try.func72 a72 ?_
  unfold a72
  simp only [init_eq, initE, qm, qr, qn]
  refine spQ trivial ?_
  try simp only [Sv, ↓reduceIte, Nat.reduceEqDiff]
  refine vm_reg (fun K hK => ?_)
  refine smQ trivial ?_
  refine xlp_mk _ (sub64_x x y hy) ?_
  refine smQ trivial ?_
  refine hK _ ?_
  clear hK K
  try (refine hK _ ?_; clear hK K)
  refine spQ trivial ?_
  try simp only [Sv, ↓reduceIte, Nat.reduceEqDiff]
  refine vm_reg (fun K hK => ?_)
  refine smQ trivial ?_
  refine xlp_mk _ (sub64_x ((x + 18446744073709551616 - y) % 18446744073709551616) c (by omega)) ?_
  refine smQ trivial ?_
  refine hK _ ?_
  clear hK K
  try (refine hK _ ?_; clear hK K)
  refine spQ trivial ?_
  refine rtO @i_eq ?_
  constructor
  · omega
  · rw [wu (by split <;> split <;> omega)]
    split <;> split <;> split <;> omega
end Go.Proofs.Ytdaedplbhpiacaa
namespace Go.Proofs.Ytdaedplbhpiacaa
open Go Go.RowKit Ab
set_option linter.unusedSimpArgs false
set_option linter.unusedVariables false
set_option maxHeartbeats 10000000
theorem mk_W (n : Nat) : (List.replicate n [V.i .u64 0]).flatten = W (List.replicate n 0) := by
  induction n with
  | zero => rfl
  | succ n ih => rw [List.replicate_succ, List.flatten_cons, ih, List.replicate_succ]; rfl
theorem mx (a b : Nat) : max (a : Int) (b : Int) = ((max a b : Nat) : Int) := by omega
theorem W_eq {a b : List Nat} (h : a = b) : W a = W b := by rw [h]
theorem rep_len (n x : Nat) : (List.replicate n x).length = n := by simp
def a82 : AC := .seq (.reg [qr 4 (.mv (.k .nl)),
 qr 5 (.mv (.k (.i .u64 0)))])
 (.seq (.reg [qm 9 0,
 qr 10 (.len (.t 9)),
 qm 11 1,
 qr 12 (.len (.t 11)),
 qr 13 (.mm true (.t 10) (.t 12)),
 qr 14 (.mk 24 1 8 [(.i .u64 0)] (.t 13) (.t 13)),
 qm 6 14])
 (.seq (.reg [qr 7 (.mv (.k (.i .u64 0)))])
 (.seq (.seq (.reg [qm 15 6,
 qr 16 (.len (.t 15)),
 qr 17 (.mv (.k (.i .i64 0)))])
 (.blk 0
 (.loop
 (.seq (.reg [qr 18 (.bin .lss (.t 17) (.t 16))])
 (.seq (.cond (.t 18)
 (.skip)
 (.exit 0))
 (.seq (.blk 1
 (.seq (.reg [qm 19 17,
 qm 8 19])
 (.reg [qm 21 6,
 qm 22 8,
 qm 23 0,
 qm 24 8,
 qr 25 (.call 65 [(1, (.t 23)), (1, (.t 24))]),
 qm 26 1,
 qm 27 8,
 qr 28 (.call 65 [(1, (.t 26)), (1, (.t 27))]),
 qm 29 7,
 qr 30 (.call 72 [(1, (.t 25)), (1, (.t 28)), (1, (.t 29))]),
 qm 20 30,
 qr 31 (.ext (.t 20) 0),
 qr 32 (.ext (.t 20) 1),
 qr 33 (.idx 1 (.t 21) (.t 22)),
 qn (.st 1 (.t 33) (.t 31)),
 qm 7 32])))
 (.reg [qr 34 (.bin .add (.t 17) (.k (.i .i64 1))),
 qm 17 34])))))))
 (.seq (.reg [qm 35 6,
 qm 36 7,
 qm 4 35,
 qm 5 36])
 (.ret)))))
theorem limbSub_spec (a b : List Nat) (ha : Wd a) (hb : Wd b) (la : a.length ≤ 1099511627776) (lb : b.length ≤ 1099511627776) :
    AFun Try.prog J0 82 [.l 1 (W a), .l 1 (W b)] (.t [.l 1 (W (fl B (max a.length b.length) (nv B a + B ^ (max a.length b.length) - nv B b))), .i .u64 ((if nv B a < nv B b then 1 else 0 : Nat) : Int)]) := by
  refine mkQ fol J0s Try.func82 a82 ?_
  unfold a82
  simp only [init_eq, initE, qm, qr, qn]
  generalize hm : max a.length b.length = m
  have hm' : m ≤ 1099511627776 := by omega
  refine spQ (ai @tn_nat (ai @mk_W (ai @hm (ai @mx (ai @Nat.div_one @W_len))))) ?_
  refine vm_loop Nat (fun i => ⟨[(0, .l 1 (W a)), (1, .l 1 (W b)), (6, .ow 1 0 m), (7, .i .u64 ((if nv B (a.take i) < nv B (b.take i) then 1 else 0 : Nat) : Int)), (16, .i .i64 (m : Int)), (17, .i .i64 (i : Int))],
    [(0, some ⟨24, 1, W (fl B i (nv B (a.take i) + B ^ i - nv B (b.take i)) ++ List.replicate (m - i) 0), true, false⟩)], 1⟩)
    (fun i => i ≤ m) (fun i => m - i) 0 [(0, 7)] (Nat.zero_le _) (by
    simp (disch := (first | omega | assumption)) only [Sl, Sa, Sw, ↓reduceIte, Nat.reduceEqDiff, Nat.reduceLT, List.all_nil, List.all_cons, Nat.reduceBneDiff, Nat.reduceAdd, bne_iff_ne, ne_eq, reduceCtorEq, not_false_eq_true, not_true_eq_false, Bool.and_true, Bool.true_and, and_true, true_and, and_self]
    exact ⟨⟨by simp [nv], rfl⟩, W_eq (by simp [fl])⟩) ?_
  intro i hi Q' hQ he hr
  by_cases h : (i : Int) < m
  · have lf : (fl B i (nv B (a.take i) + B ^ i - nv B (b.take i))).length = i := fl_len _ _
    generalize hc : (if nv B (a.take i) < nv B (b.take i) then 1 else 0 : Nat) = c
    have hc1 : c ≤ 1 := by rw [← hc]; split <;> omega
    generalize hl : fl B i (nv B (a.take i) + B ^ i - nv B (b.take i)) = l at lf
    refine spQ @h ?_
    try simp only [Sv, ↓reduceIte, Nat.reduceEqDiff]
    refine vm_reg (fun K hK => ?_)
    refine smQ trivial ?_
    refine clp_mk _ _ ?_ ?_ ?_ (at_spec a i) ?_
    · simp (disch := (first | omega | assumption)) only [S1, ↓reduceIte, Nat.reduceEqDiff, Nat.reduceAdd, Nat.reduceMul, Nat.reduceDiv, AOp.sb, AOp.mut, frzf, ↓Bool.false_eq_true, beq_self_eq_true, ite_self, Nat.reduceLeDiff, Int.reduceEq, Int.reduceSub, Int.reduceAdd, Int.reduceNeg, Int.reduceLT, Int.reduceLE, Nat.reduceLT]
    · simp (disch := (first | omega | assumption)) only [S1, ↓reduceIte, Nat.reduceEqDiff, Nat.reduceAdd, Nat.reduceMul, Nat.reduceDiv, AOp.sb, AOp.mut, frzf, ↓Bool.false_eq_true, beq_self_eq_true, ite_self, Nat.reduceLeDiff, Int.reduceEq, Int.reduceSub, Int.reduceAdd, Int.reduceNeg, Int.reduceLT, Int.reduceLE, Nat.reduceLT]
    · first | rfl | (simp (disch := (first | omega | assumption)) only [S1, ↓reduceIte, Nat.reduceEqDiff, Nat.reduceAdd, Nat.reduceMul, Nat.reduceDiv, AOp.sb, AOp.mut, frzf, ↓Bool.false_eq_true, beq_self_eq_true, ite_self, Nat.reduceLeDiff, Int.reduceEq, Int.reduceSub, Int.reduceAdd, Int.reduceNeg, Int.reduceLT, Int.reduceLE, Nat.reduceLT])
    refine smQ trivial ?_
    refine clp_mk _ _ ?_ ?_ ?_ (at_spec b i) ?_
    · simp (disch := (first | omega | assumption)) only [S1, ↓reduceIte, Nat.reduceEqDiff, Nat.reduceAdd, Nat.reduceMul, Nat.reduceDiv, AOp.sb, AOp.mut, frzf, ↓Bool.false_eq_true, beq_self_eq_true, ite_self, Nat.reduceLeDiff, Int.reduceEq, Int.reduceSub, Int.reduceAdd, Int.reduceNeg, Int.reduceLT, Int.reduceLE, Nat.reduceLT]
    · simp (disch := (first | omega | assumption)) only [S1, ↓reduceIte, Nat.reduceEqDiff, Nat.reduceAdd, Nat.reduceMul, Nat.reduceDiv, AOp.sb, AOp.mut, frzf, ↓Bool.false_eq_true, beq_self_eq_true, ite_self, Nat.reduceLeDiff, Int.reduceEq, Int.reduceSub, Int.reduceAdd, Int.reduceNeg, Int.reduceLT, Int.reduceLE, Nat.reduceLT]
    · first | rfl | (simp (disch := (first | omega | assumption)) only [S1, ↓reduceIte, Nat.reduceEqDiff, Nat.reduceAdd, Nat.reduceMul, Nat.reduceDiv, AOp.sb, AOp.mut, frzf, ↓Bool.false_eq_true, beq_self_eq_true, ite_self, Nat.reduceLeDiff, Int.reduceEq, Int.reduceSub, Int.reduceAdd, Int.reduceNeg, Int.reduceLT, Int.reduceLE, Nat.reduceLT])
    refine smQ trivial ?_
    refine clp_mk _ _ ?_ ?_ ?_ (subW_spec (a.getD i 0) (b.getD i 0) c (Wd_get ha i) (Wd_get hb i) hc1) ?_
    · simp (disch := (first | omega | assumption)) only [S1, ↓reduceIte, Nat.reduceEqDiff, Nat.reduceAdd, Nat.reduceMul, Nat.reduceDiv, AOp.sb, AOp.mut, frzf, ↓Bool.false_eq_true, beq_self_eq_true, ite_self, Nat.reduceLeDiff, Int.reduceEq, Int.reduceSub, Int.reduceAdd, Int.reduceNeg, Int.reduceLT, Int.reduceLE, Nat.reduceLT]
    · simp (disch := (first | omega | assumption)) only [S1, ↓reduceIte, Nat.reduceEqDiff, Nat.reduceAdd, Nat.reduceMul, Nat.reduceDiv, AOp.sb, AOp.mut, frzf, ↓Bool.false_eq_true, beq_self_eq_true, ite_self, Nat.reduceLeDiff, Int.reduceEq, Int.reduceSub, Int.reduceAdd, Int.reduceNeg, Int.reduceLT, Int.reduceLE, Nat.reduceLT]
    · first | rfl | (simp (disch := (first | omega | assumption)) only [S1, ↓reduceIte, Nat.reduceEqDiff, Nat.reduceAdd, Nat.reduceMul, Nat.reduceDiv, AOp.sb, AOp.mut, frzf, ↓Bool.false_eq_true, beq_self_eq_true, ite_self, Nat.reduceLeDiff, Int.reduceEq, Int.reduceSub, Int.reduceAdd, Int.reduceNeg, Int.reduceLT, Int.reduceLE, Nat.reduceLT])
    have ll : (l ++ List.replicate (m - i) 0).length = m := by rw [List.length_append, lf, rep_len]; omega
    refine smQ (ai @ll (ai @W_set (ai @Nat.mul_one (ai @tn_nat @W_len)))) ?_
    refine hK _ ?_
    clear hK K
    try (refine hK _ ?_; clear hK K)
    refine spQ @wi ?_
    refine hQ _ (i + 1) [] (by omega) (by omega) ?_
    have st := sub_step (b := B) (P := B ^ i) (Nat.pow_pos (by decide)) (nv_take_lt (b := B) (by decide) ha i) (nv_take_lt (b := B) (by decide) hb i) (show a.getD i 0 < B from Wd_get ha i) (show b.getD i 0 < B from Wd_get hb i)
    rw [hc] at st
    obtain ⟨s1, s2, s3⟩ := st
    simp (disch := (first | omega | assumption)) only [Sl, Sa, Sw, ↓reduceIte, Nat.reduceEqDiff, Nat.reduceLT, List.all_nil, List.all_cons, Nat.reduceBneDiff, Nat.reduceAdd, bne_iff_ne, ne_eq, reduceCtorEq, not_false_eq_true, not_true_eq_false, Bool.and_true, Bool.true_and, and_true, true_and, and_self, i_eq]
    refine ⟨⟨?_, by omega⟩, W_eq ?_⟩
    · rw [nv_take_succ', nv_take_succ']; simp only [s3]
    · have e : nv B (a.take (i + 1)) + B ^ (i + 1) - nv B (b.take (i + 1)) = nv B (a.take i) + B ^ i * a.getD i 0 + B ^ i * B - (nv B (b.take i) + B ^ i * b.getD i 0) := by rw [nv_take_succ', nv_take_succ', Nat.pow_succ]
      rw [e, fl_succ, fl_congr (by decide) s2, hl, s1]
      obtain ⟨k, hk⟩ : ∃ k, m - i = k + 1 := ⟨m - i - 1, by omega⟩
      rw [hk, List.replicate_succ, show m - (i + 1) = k from by omega, List.set_append_right _ _ (by omega), lf, Nat.sub_self, List.set_cons_zero, List.append_assoc]
      rfl
  · obtain rfl : i = m := by omega
    try (refine hK _ ?_; clear hK K)
    refine spQ @h ?_
    refine he _ _ ?_
    try (refine hK _ ?_; clear hK K)
    refine spQ trivial ?_
    refine rtO @l_eq ?_
    rw [List.take_of_length_le (by omega), List.take_of_length_le (by omega)]
    simp
def sg (x y : Nat) : Int := if x < y then -1 else if x = y then 0 else 1
def a48 : AC := .seq (.reg [qr 4 (.mv (.k (.i .i64 0)))])
 (.seq (.reg [qm 9 0,
 qr 10 (.len (.t 9)),
 qm 11 1,
 qr 12 (.len (.t 11)),
 qr 13 (.mm true (.t 10) (.t 12)),
 qm 5 13])
 (.seq (.skip)
 (.seq (.seq (.reg [qm 14 5,
 qr 15 (.bin .sub (.t 14) (.k (.i .i64 1))),
 qm 6 15])
 (.blk 0
 (.loop
 (.seq (.seq (.reg [qm 16 6,
 qr 17 (.bin .geq (.t 16) (.k (.i .i64 0)))])
 (.cond (.t 17)
 (.skip)
 (.exit 0)))
 (.seq (.blk 1
 (.seq (.reg [qm 20 0,
 qm 21 6,
 qr 22 (.call 65 [(1, (.t 20)), (1, (.t 21))]),
 qm 23 1,
 qm 24 6,
 qr 25 (.call 65 [(1, (.t 23)), (1, (.t 24))]),
 qm 7 22,
 qm 8 25])
 (.seq (.blk 2
 (.seq (.reg [qm 27 7,
 qm 28 8,
 qr 29 (.bin .eql (.t 27) (.t 28)),
 qm 26 29])
 (.cond (.t 26)
 (.exit 1)
 (.seq (.reg [qm 31 7,
 qm 32 8,
 qr 33 (.bin .lss (.t 31) (.t 32)),
 qm 30 33])
 (.cond (.t 30)
 (.seq (.reg [qr 4 (.mv (.k (.i .i64 (-1))))])
 (.ret))
 (.skip))))))
 (.seq (.reg [qr 4 (.mv (.k (.i .i64 1)))])
 (.ret)))))
 (.reg [qm 18 6,
 qr 19 (.bin .sub (.t 18) (.k (.i .i64 1))),
 qm 6 19]))))))
 (.seq (.reg [qr 4 (.mv (.k (.i .i64 0)))])
 (.ret)))))
theorem limbCmp_spec (a b : List Nat) (ha : Wd a) (hb : Wd b) (la : a.length ≤ 1099511627776) (lb : b.length ≤ 1099511627776) :
    AFun Try.prog J0 48 [.l 1 (W a), .l 1 (W b)] (.i .i64 (sg (nv B a) (nv B b))) := by
  refine mkQ fol J0s Try.func48 a48 ?_
  unfold a48
  simp only [init_eq, initE, qm, qr, qn]
  generalize hm : max a.length b.length = m
  refine spQ (ai @wi (ai @hm (ai @mx (ai @Nat.div_one @W_len)))) ?_
  refine vm_loop Nat (fun i => ⟨[(0, .l 1 (W a)), (1, .l 1 (W b)), (6, .i .i64 ((i : Int) - 1))], [], 0⟩)
    (fun i => i ≤ m ∧ ∀ j, i ≤ j → a.getD j 0 = b.getD j 0) (fun i => i) m [] ⟨Nat.le_refl _, fun j hj => by rw [List.getD_eq_getElem?_getD, List.getD_eq_getElem?_getD, List.getElem?_eq_none (by omega), List.getElem?_eq_none (by omega)]⟩ (by exact leQ) ?_
  intro i ⟨hi, hj⟩ Q' hQ he hr
  by_cases h : (0 : Int) ≤ (i : Int) - 1
  · obtain ⟨n, rfl⟩ : ∃ n, i = n + 1 := ⟨i - 1, by omega⟩
    have e : ((n + 1 : Nat) : Int) - 1 = (n : Int) := by omega
    have h : (0 : Int) ≤ (n : Int) := by omega
    simp only [e]
    refine spQ @h ?_
    try simp only [Sv, ↓reduceIte, Nat.reduceEqDiff]
    refine vm_reg (fun K hK => ?_)
    refine smQ trivial ?_
    refine clp_mk _ _ ?_ ?_ ?_ (at_spec a n) ?_
    · simp (disch := (first | omega | assumption)) only [S1, ↓reduceIte, Nat.reduceEqDiff, Nat.reduceAdd, Nat.reduceMul, Nat.reduceDiv, AOp.sb, AOp.mut, frzf, ↓Bool.false_eq_true, beq_self_eq_true, ite_self, Nat.reduceLeDiff, Int.reduceEq, Int.reduceSub, Int.reduceAdd, Int.reduceNeg, Int.reduceLT, Int.reduceLE, Nat.reduceLT]
    · simp (disch := (first | omega | assumption)) only [S1, ↓reduceIte, Nat.reduceEqDiff, Nat.reduceAdd, Nat.reduceMul, Nat.reduceDiv, AOp.sb, AOp.mut, frzf, ↓Bool.false_eq_true, beq_self_eq_true, ite_self, Nat.reduceLeDiff, Int.reduceEq, Int.reduceSub, Int.reduceAdd, Int.reduceNeg, Int.reduceLT, Int.reduceLE, Nat.reduceLT]
    · first | rfl | (simp (disch := (first | omega | assumption)) only [S1, ↓reduceIte, Nat.reduceEqDiff, Nat.reduceAdd, Nat.reduceMul, Nat.reduceDiv, AOp.sb, AOp.mut, frzf, ↓Bool.false_eq_true, beq_self_eq_true, ite_self, Nat.reduceLeDiff, Int.reduceEq, Int.reduceSub, Int.reduceAdd, Int.reduceNeg, Int.reduceLT, Int.reduceLE, Nat.reduceLT])
    refine smQ trivial ?_
    refine clp_mk _ _ ?_ ?_ ?_ (at_spec b n) ?_
    · simp (disch := (first | omega | assumption)) only [S1, ↓reduceIte, Nat.reduceEqDiff, Nat.reduceAdd, Nat.reduceMul, Nat.reduceDiv, AOp.sb, AOp.mut, frzf, ↓Bool.false_eq_true, beq_self_eq_true, ite_self, Nat.reduceLeDiff, Int.reduceEq, Int.reduceSub, Int.reduceAdd, Int.reduceNeg, Int.reduceLT, Int.reduceLE, Nat.reduceLT]
    · simp (disch := (first | omega | assumption)) only [S1, ↓reduceIte, Nat.reduceEqDiff, Nat.reduceAdd, Nat.reduceMul, Nat.reduceDiv, AOp.sb, AOp.mut, frzf, ↓Bool.false_eq_true, beq_self_eq_true, ite_self, Nat.reduceLeDiff, Int.reduceEq, Int.reduceSub, Int.reduceAdd, Int.reduceNeg, Int.reduceLT, Int.reduceLE, Nat.reduceLT]
    · first | rfl | (simp (disch := (first | omega | assumption)) only [S1, ↓reduceIte, Nat.reduceEqDiff, Nat.reduceAdd, Nat.reduceMul, Nat.reduceDiv, AOp.sb, AOp.mut, frzf, ↓Bool.false_eq_true, beq_self_eq_true, ite_self, Nat.reduceLeDiff, Int.reduceEq, Int.reduceSub, Int.reduceAdd, Int.reduceNeg, Int.reduceLT, Int.reduceLE, Nat.reduceLT])
    refine smQ trivial ?_
    refine hK _ ?_
    clear hK K
    by_cases h1 : ((a.getD n 0 : Nat) : Int) = ((b.getD n 0 : Nat) : Int)
    · have hj' : ∀ j, n ≤ j → a.getD j 0 = b.getD j 0 := fun j h3 => by
        rcases Nat.lt_or_ge n j with h4 | h4
        · exact hj j h4
        · obtain rfl : j = n := by omega
          omega
      simp only [h1]
      try (refine hK _ ?_; clear hK K)
      refine spQ @wi ?_
      exact hQ _ n [] ⟨by omega, hj'⟩ (by omega) (by exact leQ)
    · have c1 := (nv_eq_of (B := B) (n + 1) hj).1
      have c2 := (nv_eq_of (B := B) (n + 1) hj).2
      by_cases h2 : ((a.getD n 0 : Nat) : Int) < ((b.getD n 0 : Nat) : Int)
      · try (refine hK _ ?_; clear hK K)
        refine spQ (ai @h2 @h1) ?_
        refine hr _ ?_
        have c3 := cmp_lt (b := B) (by decide) ha hb n (by omega)
        have c4 : nv B a < nv B b := c1.1 c3
        refine rtO @i_eq ?_
        simp [sg, c4]
      · try (refine hK _ ?_; clear hK K)
        refine spQ (ai @h2 @h1) ?_
        refine hr _ ?_
        have c3 := cmp_lt (b := B) (by decide) hb ha n (by omega)
        have c4 : ¬ nv B a < nv B b := fun h => by have := c1.2 h; omega
        have c5 : ¬ nv B a = nv B b := fun h => by have := c2.2 h; omega
        refine rtO @i_eq ?_
        simp [sg, c4, c5]
  · obtain rfl : i = 0 := by omega
    try (refine hK _ ?_; clear hK K)
    refine spQ @h ?_
    refine he _ _ ?_
    try (refine hK _ ?_; clear hK K)
    refine spQ trivial ?_
    have c2 := (nv_eq_of (B := B) 0 hj).2.1 rfl
    refine rtO @i_eq ?_
    simp [sg, c2]
end Go.Proofs.Ytdaedplbhpiacaa
namespace Go.Proofs.Ytdaedplbhpiacaa
open Go Go.RowKit Ab
set_option linter.unusedSimpArgs false
set_option linter.unusedVariables false
set_option maxHeartbeats 10000000
theorem addEnd {a b : List Nat} {i : Nat} (ha : Wd a) (hi : b.length ≤ i) (hia : i ≤ a.length) (hc : (nv B (a.take i) + nv B (b.take i)) / B ^ i = 0) :
    fl B i (nv B (a.take i) + nv B (b.take i)) ++ a.drop i = fl B a.length (nv B a + nv B b) ∧ (nv B a + nv B b) / B ^ a.length = 0 := by
  rw [List.take_of_length_le hi] at hc ⊢
  have h0 : nv B (a.take i) + nv B b < B ^ i := by
    rcases Nat.lt_or_ge (nv B (a.take i) + nv B b) (B ^ i) with h | h
    · exact h
    · have := (Nat.le_div_iff_mul_le (Nat.pow_pos (by decide : 0 < B))).2 (by simpa using h : 1 * B ^ i ≤ _); omega
  have h1 := nv_take_drop (b := B) a i hia
  have hd := nv_lt (Lt_drop ha i)
  rw [List.length_drop] at hd
  have e : nv B a + nv B b = (nv B (a.take i) + nv B b) + B ^ i * nv B (a.drop i) := by omega
  have hl : a.length = i + (a.length - i) := by omega
  have hlt : nv B a + nv B b < B ^ a.length := by
    rw [e, hl, Nat.pow_add]
    have := Nat.mul_le_mul_left (B ^ i) hd
    rw [Nat.mul_succ] at this
    omega
  refine ⟨?_, Nat.div_eq_of_lt hlt⟩
  rw [hl, fl_add, e, Nat.add_mul_div_left _ _ (Nat.pow_pos (by decide)), Nat.div_eq_of_lt h0, Nat.zero_add]
  congr 1
  · exact fl_congr (by decide) (by rw [Nat.add_mul_mod_self_left])
  · have := fl_nv (Lt_drop ha i)
    rw [List.length_drop] at this
    exact this.symm
def a55 : AC := .seq (.reg [qr 4 (.mv (.k .nl)),
 qr 5 (.mv (.k (.i .u64 0)))])
 (.seq (.seq (.reg [qm 9 0,
 qr 10 (.len (.t 9)),
 qm 11 1,
 qr 12 (.len (.t 11)),
 qr 13 (.bin .lss (.t 10) (.t 12))])
 (.cond (.t 13)
 (.reg [qm 14 1,
 qm 15 0,
 qm 0 14,
 qm 1 15])
 (.skip)))
 (.seq (.reg [qm 16 0,
 qr 17 (.call 57 [(1, (.t 16))]),
 qm 6 17])
 (.seq (.reg [qr 7 (.mv (.k (.i .u64 0)))])
 (.seq (.skip)
 (.seq (.seq (.reg [qm 18 6,
 qr 19 (.len (.t 18)),
 qr 20 (.mv (.k (.i .i64 0)))])
 (.blk 0
 (.loop
 (.seq (.reg [qr 21 (.bin .lss (.t 20) (.t 19))])
 (.seq (.cond (.t 21)
 (.skip)
 (.exit 0))
 (.seq (.blk 1
 (.seq (.reg [qm 22 20,
 qm 8 22])
 (.seq (.seq (.reg [qm 23 8,
 qm 24 1,
 qr 25 (.len (.t 24)),
 qr 26 (.bin .geq (.t 23) (.t 25)),
 qm 27 26,
 ⟨some 28, some (27, true), .mv (.t 7)⟩,
 ⟨some 29, some (27, true), .bin .eql (.t 28) (.k (.i .u64 0))⟩,
 qr 30 (.pick (.t 27) (.t 29) (.k (.b false)))])
 (.cond (.t 30)
 (.exit 0)
 (.skip)))
 (.dreg [qm 32 6,
 qm 33 8,
 qm 34 0,
 qm 35 8,
 qr 36 (.idx 1 (.t 34) (.t 35)),
 qr 37 (.ld false 1 (.t 36)),
 qm 38 1,
 qm 39 8,
 qr 40 (.call 65 [(1, (.t 38)), (1, (.t 39))]),
 qm 41 7,
 qr 42 (.call 73 [(1, (.t 37)), (1, (.t 40)), (1, (.t 41))]),
 qm 31 42,
 qr 43 (.ext (.t 31) 0),
 qr 44 (.ext (.t 31) 1),
 qr 45 (.idx 1 (.t 32) (.t 33)),
 qn (.st 1 (.t 45) (.t 43)),
 qm 7 44]))))
 (.reg [qr 46 (.bin .add (.t 20) (.k (.i .i64 1))),
 qm 20 46])))))))
 (.seq (.reg [qm 47 6,
 qm 48 7,
 qm 4 47,
 qm 5 48])
 (.ret)))))))
theorem limbAdd_fr (a b : List Nat) (ha : Wd a) (hb : Wd b) (la : a.length ≤ 1099511627776) (lb : b.length ≤ 1099511627776) :
    AFun Try.prog J0 55 [.l 1 (W a), .l 1 (W b)] (.fr (.t [.l 1 (W (fl B (max a.length b.length) (nv B a + nv B b))), .i .u64 (((nv B a + nv B b) / B ^ (max a.length b.length) : Nat) : Int)])) := by
  refine mkQ fol J0s Try.func55 a55 ?_
  unfold a55
  simp only [init_eq, initE, qm, qr, qn]
  by_cases hab : (a.length : Int) < b.length
  · refine spQ (ai @hab (ai @Nat.div_one @W_len)) ?_
    try simp only [Sv, ↓reduceIte, Nat.reduceEqDiff]
    refine vm_reg (fun K hK => ?_)
    refine smQ trivial ?_
    refine clp_mk _ _ ?_ ?_ ?_ (clone_spec b (by omega)) ?_
    · simp (disch := (first | omega | assumption)) only [S1, ↓reduceIte, Nat.reduceEqDiff, Nat.reduceAdd, Nat.reduceMul, Nat.reduceDiv, AOp.sb, AOp.mut, frzf, ↓Bool.false_eq_true, beq_self_eq_true, ite_self, Nat.reduceLeDiff, Int.reduceEq, Int.reduceSub, Int.reduceAdd, Int.reduceNeg, Int.reduceLT, Int.reduceLE, Nat.reduceLT]
    · simp (disch := (first | omega | assumption)) only [S1, ↓reduceIte, Nat.reduceEqDiff, Nat.reduceAdd, Nat.reduceMul, Nat.reduceDiv, AOp.sb, AOp.mut, frzf, ↓Bool.false_eq_true, beq_self_eq_true, ite_self, Nat.reduceLeDiff, Int.reduceEq, Int.reduceSub, Int.reduceAdd, Int.reduceNeg, Int.reduceLT, Int.reduceLE, Nat.reduceLT]
    · first | rfl | (simp (disch := (first | omega | assumption)) only [S1, ↓reduceIte, Nat.reduceEqDiff, Nat.reduceAdd, Nat.reduceMul, Nat.reduceDiv, AOp.sb, AOp.mut, frzf, ↓Bool.false_eq_true, beq_self_eq_true, ite_self, Nat.reduceLeDiff, Int.reduceEq, Int.reduceSub, Int.reduceAdd, Int.reduceNeg, Int.reduceLT, Int.reduceLE, Nat.reduceLT])
    refine smQ (ai @W_nf (ai @Nat.div_one @W_len)) ?_
    refine hK _ ?_
    clear hK K
    try (refine hK _ ?_; clear hK K)
    refine spQ (ai @Nat.div_one @W_len) ?_
    refine vm_loop Nat (fun i => ⟨[(0, .l 1 (W b)), (1, .l 1 (W a)), (6, .ow 1 0 b.length), (7, .i .u64 (((nv B (b.take i) + nv B (a.take i)) / B ^ i : Nat) : Int)), (19, .i .i64 (b.length : Int)), (20, .i .i64 (i : Int))],
      [(0, some ⟨24, 1, W (fl B i (nv B (b.take i) + nv B (a.take i)) ++ b.drop i), true, false⟩)], 1⟩)
      (fun i => i ≤ b.length) (fun i => b.length - i) 0 [(0, 12)] (Nat.zero_le _) (by
      simp (disch := (first | omega | assumption)) only [Sl, Sa, Sw, ↓reduceIte, Nat.reduceEqDiff, Nat.reduceLT, List.all_nil, List.all_cons, Nat.reduceBneDiff, Nat.reduceAdd, bne_iff_ne, ne_eq, reduceCtorEq, not_false_eq_true, not_true_eq_false, Bool.and_true, Bool.true_and, and_true, true_and, and_self]
      exact ⟨⟨by simp [nv], rfl⟩, W_eq (by simp [fl])⟩) ?_
    intro i hi Q' hQ he hr
    have em : max a.length b.length = b.length := by omega
    have en : nv B a + nv B b = nv B b + nv B a := by omega
    have lf : (fl B i (nv B (b.take i) + nv B (a.take i))).length = i := fl_len _ _
    generalize hc : (nv B (b.take i) + nv B (a.take i)) / B ^ i = c
    have hcB : c ≤ 1 := by
      have h1 := nv_take_lt (b := B) (by decide) hb i
      have h2 := nv_take_lt (b := B) (by decide) ha i
      rw [← hc]
      exact Nat.le_of_lt_succ ((Nat.div_lt_iff_lt_mul (Nat.pow_pos (by decide))).2 (by omega))
    by_cases h : (i : Int) < b.length
    · by_cases h1 : (a.length : Int) ≤ i
      · by_cases h2 : (c : Int) = 0
        · try (refine hK _ ?_; clear hK K)
          refine spQ (ai @Nat.div_one (ai @W_len (ai @h2 (ai @h1 @h)))) ?_
          refine he _ _ ?_
          try (refine hK _ ?_; clear hK K)
          refine spQ trivial ?_
          obtain ⟨e1, e2⟩ := addEnd (a := b) (b := a) (i := i) hb (by omega) hi (by omega)
          refine rtO (ai @i_eq (ai @W_nf @l_eq)) ?_
          rw [em, en, e1, e2]
          exact ⟨rfl, rfl⟩
        · try (refine hK _ ?_; clear hK K)
          refine spQ (ai @Nat.div_one (ai @W_len (ai @h2 (ai @h1 @h)))) ?_
          try simp only [Sv, ↓reduceIte, Nat.reduceEqDiff]
          first | refine vm_dreg (fun K hK => ?_) | refine vm_dregx (fun K hK => ?_)
          refine smQ (ai @Nat.mul_one (ai @tn_nat (ai @W_get @W_len))) ?_
          refine clp_mk _ _ ?_ ?_ ?_ (at_spec a i) ?_
          · simp (disch := (first | omega | assumption)) only [S1, ↓reduceIte, Nat.reduceEqDiff, Nat.reduceAdd, Nat.reduceMul, Nat.reduceDiv, AOp.sb, AOp.mut, frzf, ↓Bool.false_eq_true, beq_self_eq_true, ite_self, Nat.reduceLeDiff, Int.reduceEq, Int.reduceSub, Int.reduceAdd, Int.reduceNeg, Int.reduceLT, Int.reduceLE, Nat.reduceLT]
          · simp (disch := (first | omega | assumption)) only [S1, ↓reduceIte, Nat.reduceEqDiff, Nat.reduceAdd, Nat.reduceMul, Nat.reduceDiv, AOp.sb, AOp.mut, frzf, ↓Bool.false_eq_true, beq_self_eq_true, ite_self, Nat.reduceLeDiff, Int.reduceEq, Int.reduceSub, Int.reduceAdd, Int.reduceNeg, Int.reduceLT, Int.reduceLE, Nat.reduceLT]
          · first | rfl | (simp (disch := (first | omega | assumption)) only [S1, ↓reduceIte, Nat.reduceEqDiff, Nat.reduceAdd, Nat.reduceMul, Nat.reduceDiv, AOp.sb, AOp.mut, frzf, ↓Bool.false_eq_true, beq_self_eq_true, ite_self, Nat.reduceLeDiff, Int.reduceEq, Int.reduceSub, Int.reduceAdd, Int.reduceNeg, Int.reduceLT, Int.reduceLE, Nat.reduceLT])
          refine smQ trivial ?_
          refine clp_mk _ _ ?_ ?_ ?_ (addW_spec (b.getD i 0) (a.getD i 0) c (Wd_get hb i) (Wd_get ha i) (by omega)) ?_
          · simp (disch := (first | omega | assumption)) only [S1, ↓reduceIte, Nat.reduceEqDiff, Nat.reduceAdd, Nat.reduceMul, Nat.reduceDiv, AOp.sb, AOp.mut, frzf, ↓Bool.false_eq_true, beq_self_eq_true, ite_self, Nat.reduceLeDiff, Int.reduceEq, Int.reduceSub, Int.reduceAdd, Int.reduceNeg, Int.reduceLT, Int.reduceLE, Nat.reduceLT]
          · simp (disch := (first | omega | assumption)) only [S1, ↓reduceIte, Nat.reduceEqDiff, Nat.reduceAdd, Nat.reduceMul, Nat.reduceDiv, AOp.sb, AOp.mut, frzf, ↓Bool.false_eq_true, beq_self_eq_true, ite_self, Nat.reduceLeDiff, Int.reduceEq, Int.reduceSub, Int.reduceAdd, Int.reduceNeg, Int.reduceLT, Int.reduceLE, Nat.reduceLT]
          · first | rfl | (simp (disch := (first | omega | assumption)) only [S1, ↓reduceIte, Nat.reduceEqDiff, Nat.reduceAdd, Nat.reduceMul, Nat.reduceDiv, AOp.sb, AOp.mut, frzf, ↓Bool.false_eq_true, beq_self_eq_true, ite_self, Nat.reduceLeDiff, Int.reduceEq, Int.reduceSub, Int.reduceAdd, Int.reduceNeg, Int.reduceLT, Int.reduceLE, Nat.reduceLT])
          have ll : (fl B i (nv B (b.take i) + nv B (a.take i)) ++ b.drop i).length = b.length := by rw [List.length_append, lf, List.length_drop]; omega
          refine smQ (ai @ll (ai @W_set (ai @Nat.mul_one (ai @tn_nat @W_len)))) ?_
          refine hK _ ?_
          clear hK K
          try (refine hK _ ?_; clear hK K)
          refine spQ @wi ?_
          refine hQ _ (i + 1) [] (by omega) (by omega) ?_
          obtain ⟨s1, s2, s3⟩ := add_step (b := B) (P := B ^ i) (A := nv B (b.take i)) (Y := nv B (a.take i)) (x := b.getD i 0) (y := a.getD i 0) (Nat.pow_pos (by decide)) (by decide)
          rw [hc] at s1 s3
          simp (disch := (first | omega | assumption)) only [Sl, Sa, Sw, ↓reduceIte, Nat.reduceEqDiff, Nat.reduceLT, List.all_nil, List.all_cons, Nat.reduceBneDiff, Nat.reduceAdd, bne_iff_ne, ne_eq, reduceCtorEq, not_false_eq_true, not_true_eq_false, Bool.and_true, Bool.true_and, and_true, true_and, and_self, i_eq]
          refine ⟨⟨?_, by omega⟩, W_eq ?_⟩
          · rw [nv_take_succ', nv_take_succ', Nat.pow_succ, s3]; rfl
          · rw [nv_take_succ', nv_take_succ', fl_succ, fl_congr (by decide) s2, s1, List.drop_eq_getElem_cons (by omega : i < b.length), List.set_append_right _ _ (by omega), lf, Nat.sub_self, List.set_cons_zero, List.append_assoc]
            rfl
      · try (refine hK _ ?_; clear hK K)
        refine spQ (ai @Nat.div_one (ai @W_len (ai @h1 @h))) ?_
        try simp only [Sv, ↓reduceIte, Nat.reduceEqDiff]
        first | refine vm_dreg (fun K hK => ?_) | refine vm_dregx (fun K hK => ?_)
        refine smQ (ai @Nat.mul_one (ai @tn_nat (ai @W_get @W_len))) ?_
        refine clp_mk _ _ ?_ ?_ ?_ (at_spec a i) ?_
        · simp (disch := (first | omega | assumption)) only [S1, ↓reduceIte, Nat.reduceEqDiff, Nat.reduceAdd, Nat.reduceMul, Nat.reduceDiv, AOp.sb, AOp.mut, frzf, ↓Bool.false_eq_true, beq_self_eq_true, ite_self, Nat.reduceLeDiff, Int.reduceEq, Int.reduceSub, Int.reduceAdd, Int.reduceNeg, Int.reduceLT, Int.reduceLE, Nat.reduceLT]
        · simp (disch := (first | omega | assumption)) only [S1, ↓reduceIte, Nat.reduceEqDiff, Nat.reduceAdd, Nat.reduceMul, Nat.reduceDiv, AOp.sb, AOp.mut, frzf, ↓Bool.false_eq_true, beq_self_eq_true, ite_self, Nat.reduceLeDiff, Int.reduceEq, Int.reduceSub, Int.reduceAdd, Int.reduceNeg, Int.reduceLT, Int.reduceLE, Nat.reduceLT]
        · first | rfl | (simp (disch := (first | omega | assumption)) only [S1, ↓reduceIte, Nat.reduceEqDiff, Nat.reduceAdd, Nat.reduceMul, Nat.reduceDiv, AOp.sb, AOp.mut, frzf, ↓Bool.false_eq_true, beq_self_eq_true, ite_self, Nat.reduceLeDiff, Int.reduceEq, Int.reduceSub, Int.reduceAdd, Int.reduceNeg, Int.reduceLT, Int.reduceLE, Nat.reduceLT])
        refine smQ trivial ?_
        refine clp_mk _ _ ?_ ?_ ?_ (addW_spec (b.getD i 0) (a.getD i 0) c (Wd_get hb i) (Wd_get ha i) (by omega)) ?_
        · simp (disch := (first | omega | assumption)) only [S1, ↓reduceIte, Nat.reduceEqDiff, Nat.reduceAdd, Nat.reduceMul, Nat.reduceDiv, AOp.sb, AOp.mut, frzf, ↓Bool.false_eq_true, beq_self_eq_true, ite_self, Nat.reduceLeDiff, Int.reduceEq, Int.reduceSub, Int.reduceAdd, Int.reduceNeg, Int.reduceLT, Int.reduceLE, Nat.reduceLT]
        · simp (disch := (first | omega | assumption)) only [S1, ↓reduceIte, Nat.reduceEqDiff, Nat.reduceAdd, Nat.reduceMul, Nat.reduceDiv, AOp.sb, AOp.mut, frzf, ↓Bool.false_eq_true, beq_self_eq_true, ite_self, Nat.reduceLeDiff, Int.reduceEq, Int.reduceSub, Int.reduceAdd, Int.reduceNeg, Int.reduceLT, Int.reduceLE, Nat.reduceLT]
        · first | rfl | (simp (disch := (first | omega | assumption)) only [S1, ↓reduceIte, Nat.reduceEqDiff, Nat.reduceAdd, Nat.reduceMul, Nat.reduceDiv, AOp.sb, AOp.mut, frzf, ↓Bool.false_eq_true, beq_self_eq_true, ite_self, Nat.reduceLeDiff, Int.reduceEq, Int.reduceSub, Int.reduceAdd, Int.reduceNeg, Int.reduceLT, Int.reduceLE, Nat.reduceLT])
        have ll : (fl B i (nv B (b.take i) + nv B (a.take i)) ++ b.drop i).length = b.length := by rw [List.length_append, lf, List.length_drop]; omega
        refine smQ (ai @ll (ai @W_set (ai @Nat.mul_one (ai @tn_nat @W_len)))) ?_
        refine hK _ ?_
        clear hK K
        try (refine hK _ ?_; clear hK K)
        refine spQ @wi ?_
        refine hQ _ (i + 1) [] (by omega) (by omega) ?_
        obtain ⟨s1, s2, s3⟩ := add_step (b := B) (P := B ^ i) (A := nv B (b.take i)) (Y := nv B (a.take i)) (x := b.getD i 0) (y := a.getD i 0) (Nat.pow_pos (by decide)) (by decide)
        rw [hc] at s1 s3
        simp (disch := (first | omega | assumption)) only [Sl, Sa, Sw, ↓reduceIte, Nat.reduceEqDiff, Nat.reduceLT, List.all_nil, List.all_cons, Nat.reduceBneDiff, Nat.reduceAdd, bne_iff_ne, ne_eq, reduceCtorEq, not_false_eq_true, not_true_eq_false, Bool.and_true, Bool.true_and, and_true, true_and, and_self, i_eq]
        refine ⟨⟨?_, by omega⟩, W_eq ?_⟩
        · rw [nv_take_succ', nv_take_succ', Nat.pow_succ, s3]; rfl
        · rw [nv_take_succ', nv_take_succ', fl_succ, fl_congr (by decide) s2, s1, List.drop_eq_getElem_cons (by omega : i < b.length), List.set_append_right _ _ (by omega), lf, Nat.sub_self, List.set_cons_zero, List.append_assoc]
          rfl
    · obtain rfl : i = b.length := by omega
      try (refine hK _ ?_; clear hK K)
      refine spQ @h ?_
      refine he _ _ ?_
      try (refine hK _ ?_; clear hK K)
      refine spQ trivial ?_
      refine rtO (ai @i_eq (ai @W_nf @l_eq)) ?_
      rw [em, en, ← hc, List.take_of_length_le (Nat.le_refl _), List.take_of_length_le (by omega), List.drop_of_length_le (Nat.le_refl _), List.append_nil]
      exact ⟨rfl, rfl⟩
  · try (refine hK _ ?_; clear hK K)
    refine spQ (ai @hab (ai @Nat.div_one @W_len)) ?_
    try simp only [Sv, ↓reduceIte, Nat.reduceEqDiff]
    refine vm_reg (fun K hK => ?_)
    refine smQ trivial ?_
    refine clp_mk _ _ ?_ ?_ ?_ (clone_spec a (by omega)) ?_
    · simp (disch := (first | omega | assumption)) only [S1, ↓reduceIte, Nat.reduceEqDiff, Nat.reduceAdd, Nat.reduceMul, Nat.reduceDiv, AOp.sb, AOp.mut, frzf, ↓Bool.false_eq_true, beq_self_eq_true, ite_self, Nat.reduceLeDiff, Int.reduceEq, Int.reduceSub, Int.reduceAdd, Int.reduceNeg, Int.reduceLT, Int.reduceLE, Nat.reduceLT]
    · simp (disch := (first | omega | assumption)) only [S1, ↓reduceIte, Nat.reduceEqDiff, Nat.reduceAdd, Nat.reduceMul, Nat.reduceDiv, AOp.sb, AOp.mut, frzf, ↓Bool.false_eq_true, beq_self_eq_true, ite_self, Nat.reduceLeDiff, Int.reduceEq, Int.reduceSub, Int.reduceAdd, Int.reduceNeg, Int.reduceLT, Int.reduceLE, Nat.reduceLT]
    · first | rfl | (simp (disch := (first | omega | assumption)) only [S1, ↓reduceIte, Nat.reduceEqDiff, Nat.reduceAdd, Nat.reduceMul, Nat.reduceDiv, AOp.sb, AOp.mut, frzf, ↓Bool.false_eq_true, beq_self_eq_true, ite_self, Nat.reduceLeDiff, Int.reduceEq, Int.reduceSub, Int.reduceAdd, Int.reduceNeg, Int.reduceLT, Int.reduceLE, Nat.reduceLT])
    refine smQ (ai @W_nf (ai @Nat.div_one @W_len)) ?_
    refine hK _ ?_
    clear hK K
    try (refine hK _ ?_; clear hK K)
    refine spQ (ai @Nat.div_one @W_len) ?_
    refine vm_loop Nat (fun i => ⟨[(0, .l 1 (W a)), (1, .l 1 (W b)), (6, .ow 1 0 a.length), (7, .i .u64 (((nv B (a.take i) + nv B (b.take i)) / B ^ i : Nat) : Int)), (19, .i .i64 (a.length : Int)), (20, .i .i64 (i : Int))],
      [(0, some ⟨24, 1, W (fl B i (nv B (a.take i) + nv B (b.take i)) ++ a.drop i), true, false⟩)], 1⟩)
      (fun i => i ≤ a.length) (fun i => a.length - i) 0 [(0, 8)] (Nat.zero_le _) (by
      simp (disch := (first | omega | assumption)) only [Sl, Sa, Sw, ↓reduceIte, Nat.reduceEqDiff, Nat.reduceLT, List.all_nil, List.all_cons, Nat.reduceBneDiff, Nat.reduceAdd, bne_iff_ne, ne_eq, reduceCtorEq, not_false_eq_true, not_true_eq_false, Bool.and_true, Bool.true_and, and_true, true_and, and_self]
      exact ⟨⟨by simp [nv], rfl⟩, W_eq (by simp [fl])⟩) ?_
    intro i hi Q' hQ he hr
    have em : max a.length b.length = a.length := by omega
    have en : nv B a + nv B b = nv B a + nv B b := by omega
    have lf : (fl B i (nv B (a.take i) + nv B (b.take i))).length = i := fl_len _ _
    generalize hc : (nv B (a.take i) + nv B (b.take i)) / B ^ i = c
    have hcB : c ≤ 1 := by
      have h1 := nv_take_lt (b := B) (by decide) ha i
      have h2 := nv_take_lt (b := B) (by decide) hb i
      rw [← hc]
      exact Nat.le_of_lt_succ ((Nat.div_lt_iff_lt_mul (Nat.pow_pos (by decide))).2 (by omega))
    by_cases h : (i : Int) < a.length
    · by_cases h1 : (b.length : Int) ≤ i
      · by_cases h2 : (c : Int) = 0
        · try (refine hK _ ?_; clear hK K)
          refine spQ (ai @Nat.div_one (ai @W_len (ai @h2 (ai @h1 @h)))) ?_
          refine he _ _ ?_
          try (refine hK _ ?_; clear hK K)
          refine spQ trivial ?_
          obtain ⟨e1, e2⟩ := addEnd (a := a) (b := b) (i := i) ha (by omega) hi (by omega)
          refine rtO (ai @i_eq (ai @W_nf @l_eq)) ?_
          rw [em, en, e1, e2]
          exact ⟨rfl, rfl⟩
        · try (refine hK _ ?_; clear hK K)
          refine spQ (ai @Nat.div_one (ai @W_len (ai @h2 (ai @h1 @h)))) ?_
          try simp only [Sv, ↓reduceIte, Nat.reduceEqDiff]
          first | refine vm_dreg (fun K hK => ?_) | refine vm_dregx (fun K hK => ?_)
          refine smQ (ai @Nat.mul_one (ai @tn_nat (ai @W_get @W_len))) ?_
          refine clp_mk _ _ ?_ ?_ ?_ (at_spec b i) ?_
          · simp (disch := (first | omega | assumption)) only [S1, ↓reduceIte, Nat.reduceEqDiff, Nat.reduceAdd, Nat.reduceMul, Nat.reduceDiv, AOp.sb, AOp.mut, frzf, ↓Bool.false_eq_true, beq_self_eq_true, ite_self, Nat.reduceLeDiff, Int.reduceEq, Int.reduceSub, Int.reduceAdd, Int.reduceNeg, Int.reduceLT, Int.reduceLE, Nat.reduceLT]
          · simp (disch := (first | omega | assumption)) only [S1, ↓reduceIte, Nat.reduceEqDiff, Nat.reduceAdd, Nat.reduceMul, Nat.reduceDiv, AOp.sb, AOp.mut, frzf, ↓Bool.false_eq_true, beq_self_eq_true, ite_self, Nat.reduceLeDiff, Int.reduceEq, Int.reduceSub, Int.reduceAdd, Int.reduceNeg, Int.reduceLT, Int.reduceLE, Nat.reduceLT]
          · first | rfl | (simp (disch := (first | omega | assumption)) only [S1, ↓reduceIte, Nat.reduceEqDiff, Nat.reduceAdd, Nat.reduceMul, Nat.reduceDiv, AOp.sb, AOp.mut, frzf, ↓Bool.false_eq_true, beq_self_eq_true, ite_self, Nat.reduceLeDiff, Int.reduceEq, Int.reduceSub, Int.reduceAdd, Int.reduceNeg, Int.reduceLT, Int.reduceLE, Nat.reduceLT])
          refine smQ trivial ?_
          refine clp_mk _ _ ?_ ?_ ?_ (addW_spec (a.getD i 0) (b.getD i 0) c (Wd_get ha i) (Wd_get hb i) (by omega)) ?_
          · simp (disch := (first | omega | assumption)) only [S1, ↓reduceIte, Nat.reduceEqDiff, Nat.reduceAdd, Nat.reduceMul, Nat.reduceDiv, AOp.sb, AOp.mut, frzf, ↓Bool.false_eq_true, beq_self_eq_true, ite_self, Nat.reduceLeDiff, Int.reduceEq, Int.reduceSub, Int.reduceAdd, Int.reduceNeg, Int.reduceLT, Int.reduceLE, Nat.reduceLT]
          · simp (disch := (first | omega | assumption)) only [S1, ↓reduceIte, Nat.reduceEqDiff, Nat.reduceAdd, Nat.reduceMul, Nat.reduceDiv, AOp.sb, AOp.mut, frzf, ↓Bool.false_eq_true, beq_self_eq_true, ite_self, Nat.reduceLeDiff, Int.reduceEq, Int.reduceSub, Int.reduceAdd, Int.reduceNeg, Int.reduceLT, Int.reduceLE, Nat.reduceLT]
          · first | rfl | (simp (disch := (first | omega | assumption)) only [S1, ↓reduceIte, Nat.reduceEqDiff, Nat.reduceAdd, Nat.reduceMul, Nat.reduceDiv, AOp.sb, AOp.mut, frzf, ↓Bool.false_eq_true, beq_self_eq_true, ite_self, Nat.reduceLeDiff, Int.reduceEq, Int.reduceSub, Int.reduceAdd, Int.reduceNeg, Int.reduceLT, Int.reduceLE, Nat.reduceLT])
          have ll : (fl B i (nv B (a.take i) + nv B (b.take i)) ++ a.drop i).length = a.length := by rw [List.length_append, lf, List.length_drop]; omega
          refine smQ (ai @ll (ai @W_set (ai @Nat.mul_one (ai @tn_nat @W_len)))) ?_
          refine hK _ ?_
          clear hK K
          try (refine hK _ ?_; clear hK K)
          refine spQ @wi ?_
          refine hQ _ (i + 1) [] (by omega) (by omega) ?_
          obtain ⟨s1, s2, s3⟩ := add_step (b := B) (P := B ^ i) (A := nv B (a.take i)) (Y := nv B (b.take i)) (x := a.getD i 0) (y := b.getD i 0) (Nat.pow_pos (by decide)) (by decide)
          rw [hc] at s1 s3
          simp (disch := (first | omega | assumption)) only [Sl, Sa, Sw, ↓reduceIte, Nat.reduceEqDiff, Nat.reduceLT, List.all_nil, List.all_cons, Nat.reduceBneDiff, Nat.reduceAdd, bne_iff_ne, ne_eq, reduceCtorEq, not_false_eq_true, not_true_eq_false, Bool.and_true, Bool.true_and, and_true, true_and, and_self, i_eq]
          refine ⟨⟨?_, by omega⟩, W_eq ?_⟩
          · rw [nv_take_succ', nv_take_succ', Nat.pow_succ, s3]; rfl
          · rw [nv_take_succ', nv_take_succ', fl_succ, fl_congr (by decide) s2, s1, List.drop_eq_getElem_cons (by omega : i < a.length), List.set_append_right _ _ (by omega), lf, Nat.sub_self, List.set_cons_zero, List.append_assoc]
            rfl
      · try (refine hK _ ?_; clear hK K)
        refine spQ (ai @Nat.div_one (ai @W_len (ai @h1 @h))) ?_
        try simp only [Sv, ↓reduceIte, Nat.reduceEqDiff]
        first | refine vm_dreg (fun K hK => ?_) | refine vm_dregx (fun K hK => ?_)
        refine smQ (ai @Nat.mul_one (ai @tn_nat (ai @W_get @W_len))) ?_
        refine clp_mk _ _ ?_ ?_ ?_ (at_spec b i) ?_
        · simp (disch := (first | omega | assumption)) only [S1, ↓reduceIte, Nat.reduceEqDiff, Nat.reduceAdd, Nat.reduceMul, Nat.reduceDiv, AOp.sb, AOp.mut, frzf, ↓Bool.false_eq_true, beq_self_eq_true, ite_self, Nat.reduceLeDiff, Int.reduceEq, Int.reduceSub, Int.reduceAdd, Int.reduceNeg, Int.reduceLT, Int.reduceLE, Nat.reduceLT]
        · simp (disch := (first | omega | assumption)) only [S1, ↓reduceIte, Nat.reduceEqDiff, Nat.reduceAdd, Nat.reduceMul, Nat.reduceDiv, AOp.sb, AOp.mut, frzf, ↓Bool.false_eq_true, beq_self_eq_true, ite_self, Nat.reduceLeDiff, Int.reduceEq, Int.reduceSub, Int.reduceAdd, Int.reduceNeg, Int.reduceLT, Int.reduceLE, Nat.reduceLT]
        · first | rfl | (simp (disch := (first | omega | assumption)) only [S1, ↓reduceIte, Nat.reduceEqDiff, Nat.reduceAdd, Nat.reduceMul, Nat.reduceDiv, AOp.sb, AOp.mut, frzf, ↓Bool.false_eq_true, beq_self_eq_true, ite_self, Nat.reduceLeDiff, Int.reduceEq, Int.reduceSub, Int.reduceAdd, Int.reduceNeg, Int.reduceLT, Int.reduceLE, Nat.reduceLT])
        refine smQ trivial ?_
        refine clp_mk _ _ ?_ ?_ ?_ (addW_spec (a.getD i 0) (b.getD i 0) c (Wd_get ha i) (Wd_get hb i) (by omega)) ?_
        · simp (disch := (first | omega | assumption)) only [S1, ↓reduceIte, Nat.reduceEqDiff, Nat.reduceAdd, Nat.reduceMul, Nat.reduceDiv, AOp.sb, AOp.mut, frzf, ↓Bool.false_eq_true, beq_self_eq_true, ite_self, Nat.reduceLeDiff, Int.reduceEq, Int.reduceSub, Int.reduceAdd, Int.reduceNeg, Int.reduceLT, Int.reduceLE, Nat.reduceLT]
        · simp (disch := (first | omega | assumption)) only [S1, ↓reduceIte, Nat.reduceEqDiff, Nat.reduceAdd, Nat.reduceMul, Nat.reduceDiv, AOp.sb, AOp.mut, frzf, ↓Bool.false_eq_true, beq_self_eq_true, ite_self, Nat.reduceLeDiff, Int.reduceEq, Int.reduceSub, Int.reduceAdd, Int.reduceNeg, Int.reduceLT, Int.reduceLE, Nat.reduceLT]
        · first | rfl | (simp (disch := (first | omega | assumption)) only [S1, ↓reduceIte, Nat.reduceEqDiff, Nat.reduceAdd, Nat.reduceMul, Nat.reduceDiv, AOp.sb, AOp.mut, frzf, ↓Bool.false_eq_true, beq_self_eq_true, ite_self, Nat.reduceLeDiff, Int.reduceEq, Int.reduceSub, Int.reduceAdd, Int.reduceNeg, Int.reduceLT, Int.reduceLE, Nat.reduceLT])
        have ll : (fl B i (nv B (a.take i) + nv B (b.take i)) ++ a.drop i).length = a.length := by rw [List.length_append, lf, List.length_drop]; omega
        refine smQ (ai @ll (ai @W_set (ai @Nat.mul_one (ai @tn_nat @W_len)))) ?_
        refine hK _ ?_
        clear hK K
        try (refine hK _ ?_; clear hK K)
        refine spQ @wi ?_
        refine hQ _ (i + 1) [] (by omega) (by omega) ?_
        obtain ⟨s1, s2, s3⟩ := add_step (b := B) (P := B ^ i) (A := nv B (a.take i)) (Y := nv B (b.take i)) (x := a.getD i 0) (y := b.getD i 0) (Nat.pow_pos (by decide)) (by decide)
        rw [hc] at s1 s3
        simp (disch := (first | omega | assumption)) only [Sl, Sa, Sw, ↓reduceIte, Nat.reduceEqDiff, Nat.reduceLT, List.all_nil, List.all_cons, Nat.reduceBneDiff, Nat.reduceAdd, bne_iff_ne, ne_eq, reduceCtorEq, not_false_eq_true, not_true_eq_false, Bool.and_true, Bool.true_and, and_true, true_and, and_self, i_eq]
        refine ⟨⟨?_, by omega⟩, W_eq ?_⟩
        · rw [nv_take_succ', nv_take_succ', Nat.pow_succ, s3]; rfl
        · rw [nv_take_succ', nv_take_succ', fl_succ, fl_congr (by decide) s2, s1, List.drop_eq_getElem_cons (by omega : i < a.length), List.set_append_right _ _ (by omega), lf, Nat.sub_self, List.set_cons_zero, List.append_assoc]
          rfl
    · obtain rfl : i = a.length := by omega
      try (refine hK _ ?_; clear hK K)
      refine spQ @h ?_
      refine he _ _ ?_
      try (refine hK _ ?_; clear hK K)
      refine spQ trivial ?_
      refine rtO (ai @i_eq (ai @W_nf @l_eq)) ?_
      rw [em, en, ← hc, List.take_of_length_le (Nat.le_refl _), List.take_of_length_le (by omega), List.drop_of_length_le (Nat.le_refl _), List.append_nil]
      exact ⟨rfl, rfl⟩
theorem limbAdd_spec (a b : List Nat) (ha : Wd a) (hb : Wd b) (la : a.length ≤ 1099511627776) (lb : b.length ≤ 1099511627776) :
    AFun Try.prog J0 55 [.l 1 (W a), .l 1 (W b)] (.t [.l 1 (W (fl B (max a.length b.length) (nv B a + nv B b))), .i .u64 (((nv B a + nv B b) / B ^ (max a.length b.length) : Nat) : Int)]) :=
  (limbAdd_fr a b ha hb la lb).plain
end Go.Proofs.Ytdaedplbhpiacaa
namespace Go.Proofs.Ytdaedplbhpiacaa
open Go Go.RowKit Ab
set_option linter.unusedSimpArgs false
set_option linter.unusedVariables false
set_option maxHeartbeats 10000000
theorem bz_Nat1 : type_of% (And.intro @W_len (And.intro @Nat.div_one (And.intro @Nat.mul_one (And.intro @tn_nat (And.intro @W_nf (@W_nil)))))) := And.intro @W_len (And.intro @Nat.div_one (And.intro @Nat.mul_one (And.intro @tn_nat (And.intro @W_nf (@W_nil)))))
theorem B2 : 2 ≤ B := by decide
theorem B0 : 0 < B := by decide
def a47 : AC := .seq (.reg [qr 2 (.mv (.k .nl))])
 (.seq (.reg [qm 4 0,
 qr 5 (.call 64 [(1, (.t 4))]),
 qm 3 5])
 (.seq (.seq (.reg [qm 6 3,
 qr 7 (.len (.t 6)),
 qr 8 (.bin .eql (.t 7) (.k (.i .i64 0)))])
 (.cond (.t 8)
 (.seq (.reg [qr 2 (.mv (.k .nl))])
 (.ret))
 (.skip)))
 (.seq (.reg [qm 9 3,
 qr 10 (.call 57 [(1, (.t 9))]),
 qm 2 10])
 (.ret))))
theorem own_spec (a : List Nat) (ha : a.length ≤ 1099511627776) : AFun Try.prog J0 47 [.l 1 (W a)] (.o 24 1 (W (tz a))) := by
  refine mkQ fol J0s Try.func47 a47 ?_
  unfold a47
  simp only [init_eq, initE, qm, qr, qn]
  have hl := tz_len a
  refine spQ @bz_Nat1 ?_
  try simp only [Sv, ↓reduceIte, Nat.reduceEqDiff]
  refine vm_reg (fun K hK => ?_)
  refine smQ @bz_Nat1 ?_
  refine clp_mk _ _ ?_ ?_ ?_ (trim_spec a ha) ?_
  · simp (disch := (first | omega | assumption)) only [S1, ↓reduceIte, Nat.reduceEqDiff, Nat.reduceAdd, Nat.reduceMul, Nat.reduceDiv, AOp.sb, AOp.mut, frzf, ↓Bool.false_eq_true, beq_self_eq_true, ite_self, Nat.reduceLeDiff, Int.reduceEq, Int.reduceSub, Int.reduceAdd, Int.reduceNeg, Int.reduceLT, Int.reduceLE, Nat.reduceLT, bz_Nat1]
  · simp (disch := (first | omega | assumption)) only [S1, ↓reduceIte, Nat.reduceEqDiff, Nat.reduceAdd, Nat.reduceMul, Nat.reduceDiv, AOp.sb, AOp.mut, frzf, ↓Bool.false_eq_true, beq_self_eq_true, ite_self, Nat.reduceLeDiff, Int.reduceEq, Int.reduceSub, Int.reduceAdd, Int.reduceNeg, Int.reduceLT, Int.reduceLE, Nat.reduceLT, bz_Nat1]
  · first | rfl | (simp (disch := (first | omega | assumption)) only [S1, ↓reduceIte, Nat.reduceEqDiff, Nat.reduceAdd, Nat.reduceMul, Nat.reduceDiv, AOp.sb, AOp.mut, frzf, ↓Bool.false_eq_true, beq_self_eq_true, ite_self, Nat.reduceLeDiff, Int.reduceEq, Int.reduceSub, Int.reduceAdd, Int.reduceNeg, Int.reduceLT, Int.reduceLE, Nat.reduceLT, bz_Nat1])
  refine smQ (ai @W_nf (ai @Nat.div_one (ai @W_len @bz_Nat1))) ?_
  refine hK _ ?_
  clear hK K
  by_cases h : ((tz a).length : Int) = 0
  · try (refine hK _ ?_; clear hK K)
    refine spQ (ai @h @bz_Nat1) ?_
    have e : tz a = [] := List.eq_nil_of_length_eq_zero (by omega)
    exact rtQ (ai @e @bz_Nat1)
  · try (refine hK _ ?_; clear hK K)
    refine spQ (ai @h @bz_Nat1) ?_
    try simp only [Sv, ↓reduceIte, Nat.reduceEqDiff]
    refine vm_reg (fun K hK => ?_)
    refine smQ @bz_Nat1 ?_
    refine clp_mk _ _ ?_ ?_ ?_ (clone_spec (tz a) (by omega)) ?_
    · simp (disch := (first | omega | assumption)) only [S1, ↓reduceIte, Nat.reduceEqDiff, Nat.reduceAdd, Nat.reduceMul, Nat.reduceDiv, AOp.sb, AOp.mut, frzf, ↓Bool.false_eq_true, beq_self_eq_true, ite_self, Nat.reduceLeDiff, Int.reduceEq, Int.reduceSub, Int.reduceAdd, Int.reduceNeg, Int.reduceLT, Int.reduceLE, Nat.reduceLT, bz_Nat1]
    · simp (disch := (first | omega | assumption)) only [S1, ↓reduceIte, Nat.reduceEqDiff, Nat.reduceAdd, Nat.reduceMul, Nat.reduceDiv, AOp.sb, AOp.mut, frzf, ↓Bool.false_eq_true, beq_self_eq_true, ite_self, Nat.reduceLeDiff, Int.reduceEq, Int.reduceSub, Int.reduceAdd, Int.reduceNeg, Int.reduceLT, Int.reduceLE, Nat.reduceLT, bz_Nat1]
    · first | rfl | (simp (disch := (first | omega | assumption)) only [S1, ↓reduceIte, Nat.reduceEqDiff, Nat.reduceAdd, Nat.reduceMul, Nat.reduceDiv, AOp.sb, AOp.mut, frzf, ↓Bool.false_eq_true, beq_self_eq_true, ite_self, Nat.reduceLeDiff, Int.reduceEq, Int.reduceSub, Int.reduceAdd, Int.reduceNeg, Int.reduceLT, Int.reduceLE, Nat.reduceLT, bz_Nat1])
    refine smQ (ai @W_nf (ai @Nat.div_one (ai @W_len @bz_Nat1))) ?_
    refine hK _ ?_
    clear hK K
    try (refine hK _ ?_; clear hK K)
    refine spQ @bz_Nat1 ?_
    exact rtQ @bz_Nat1
def a28 : AC := .seq (.reg [qr 2 (.mv (.k .nl))])
 (.seq (.reg [qm 3 0,
 qr 4 (.call 47 [(1, (.t 3))]),
 qm 2 4])
 (.ret))
theorem norm_spec (a : List Nat) (ha : a.length ≤ 1099511627776) : AFun Try.prog J0 28 [.l 1 (W a)] (.o 24 1 (W (tz a))) := by
  refine mkQ fol J0s Try.func28 a28 ?_
  unfold a28
  simp only [init_eq, initE, qm, qr, qn]
  refine spQ @bz_Nat1 ?_
  try simp only [Sv, ↓reduceIte, Nat.reduceEqDiff]
  refine vm_reg (fun K hK => ?_)
  refine smQ @bz_Nat1 ?_
  refine clp_mk _ _ ?_ ?_ ?_ (own_spec a ha) ?_
  · simp (disch := (first | omega | assumption)) only [S1, ↓reduceIte, Nat.reduceEqDiff, Nat.reduceAdd, Nat.reduceMul, Nat.reduceDiv, AOp.sb, AOp.mut, frzf, ↓Bool.false_eq_true, beq_self_eq_true, ite_self, Nat.reduceLeDiff, Int.reduceEq, Int.reduceSub, Int.reduceAdd, Int.reduceNeg, Int.reduceLT, Int.reduceLE, Nat.reduceLT, bz_Nat1]
  · simp (disch := (first | omega | assumption)) only [S1, ↓reduceIte, Nat.reduceEqDiff, Nat.reduceAdd, Nat.reduceMul, Nat.reduceDiv, AOp.sb, AOp.mut, frzf, ↓Bool.false_eq_true, beq_self_eq_true, ite_self, Nat.reduceLeDiff, Int.reduceEq, Int.reduceSub, Int.reduceAdd, Int.reduceNeg, Int.reduceLT, Int.reduceLE, Nat.reduceLT, bz_Nat1]
  · first | rfl | (simp (disch := (first | omega | assumption)) only [S1, ↓reduceIte, Nat.reduceEqDiff, Nat.reduceAdd, Nat.reduceMul, Nat.reduceDiv, AOp.sb, AOp.mut, frzf, ↓Bool.false_eq_true, beq_self_eq_true, ite_self, Nat.reduceLeDiff, Int.reduceEq, Int.reduceSub, Int.reduceAdd, Int.reduceNeg, Int.reduceLT, Int.reduceLE, Nat.reduceLT, bz_Nat1])
  refine smQ (ai @W_nf (ai @Nat.div_one (ai @W_len @bz_Nat1))) ?_
  refine hK _ ?_
  clear hK K
  try (refine hK _ ?_; clear hK K)
  refine spQ @bz_Nat1 ?_
  exact rtQ @bz_Nat1
def a80 : AC := .seq (.reg [qr 4 (.mv (.k .nl)),
 qr 5 (.mv (.k (.i .i64 0)))])
 (.seq (.reg [qm 9 0,
 qm 10 1,
 qr 11 (.call 82 [(1, (.t 9)), (1, (.t 10))]),
 qm 8 11,
 qr 12 (.ext (.t 8) 0),
 qr 13 (.ext (.t 8) 1),
 qm 6 12,
 qm 7 13])
 (.seq (.seq (.reg [qm 14 7,
 qr 15 (.bin .neq (.t 14) (.k (.i .u64 0)))])
 (.cond (.t 15)
 (.seq (.reg [qr 4 (.mv (.k .nl)),
 qr 5 (.mv (.k (.i .i64 2)))])
 (.ret))
 (.skip)))
 (.seq (.reg [qm 16 6,
 qr 17 (.call 47 [(1, (.t 16))]),
 qm 4 17,
 qr 5 (.mv (.k (.i .i64 0)))])
 (.ret))))
theorem sub_spec (a b : List Nat) (ha : Wd a) (hb : Wd b) (la : a.length ≤ 1099511627776) (lb : b.length ≤ 1099511627776) :
    AFun Try.prog J0 80 [.l 1 (W a), .l 1 (W b)] (.t [.l 1 (W (if nv B a < nv B b then [] else dg B (nv B a - nv B b))), .i .i64 ((if nv B a < nv B b then 2 else 0 : Nat) : Int)]) := by
  refine mkQ fol J0s Try.func80 a80 ?_
  unfold a80
  simp only [init_eq, initE, qm, qr, qn]
  refine spQ @bz_Nat1 ?_
  try simp only [Sv, ↓reduceIte, Nat.reduceEqDiff]
  refine vm_reg (fun K hK => ?_)
  refine smQ @bz_Nat1 ?_
  refine clp_mk _ _ ?_ ?_ ?_ (limbSub_spec a b ha hb la lb) ?_
  · simp (disch := (first | omega | assumption)) only [S1, ↓reduceIte, Nat.reduceEqDiff, Nat.reduceAdd, Nat.reduceMul, Nat.reduceDiv, AOp.sb, AOp.mut, frzf, ↓Bool.false_eq_true, beq_self_eq_true, ite_self, Nat.reduceLeDiff, Int.reduceEq, Int.reduceSub, Int.reduceAdd, Int.reduceNeg, Int.reduceLT, Int.reduceLE, Nat.reduceLT, bz_Nat1]
  · simp (disch := (first | omega | assumption)) only [S1, ↓reduceIte, Nat.reduceEqDiff, Nat.reduceAdd, Nat.reduceMul, Nat.reduceDiv, AOp.sb, AOp.mut, frzf, ↓Bool.false_eq_true, beq_self_eq_true, ite_self, Nat.reduceLeDiff, Int.reduceEq, Int.reduceSub, Int.reduceAdd, Int.reduceNeg, Int.reduceLT, Int.reduceLE, Nat.reduceLT, bz_Nat1]
  · first | rfl | (simp (disch := (first | omega | assumption)) only [S1, ↓reduceIte, Nat.reduceEqDiff, Nat.reduceAdd, Nat.reduceMul, Nat.reduceDiv, AOp.sb, AOp.mut, frzf, ↓Bool.false_eq_true, beq_self_eq_true, ite_self, Nat.reduceLeDiff, Int.reduceEq, Int.reduceSub, Int.reduceAdd, Int.reduceNeg, Int.reduceLT, Int.reduceLE, Nat.reduceLT, bz_Nat1])
  refine smQ @bz_Nat1 ?_
  refine hK _ ?_
  clear hK K
  by_cases h : nv B a < nv B b
  · simp only [h, ↓reduceIte]
    try (refine hK _ ?_; clear hK K)
    refine spQ @bz_Nat1 ?_
    exact rtQ @bz_Nat1
  · have hw : (fl B (max a.length b.length) (nv B a + B ^ max a.length b.length - nv B b)).length ≤ 1099511627776 := by rw [fl_len]; omega
    simp only [h, ↓reduceIte]
    try (refine hK _ ?_; clear hK K)
    refine spQ @bz_Nat1 ?_
    try simp only [Sv, ↓reduceIte, Nat.reduceEqDiff]
    refine vm_reg (fun K hK => ?_)
    refine smQ @bz_Nat1 ?_
    refine clp_mk _ _ ?_ ?_ ?_ (own_spec _ hw) ?_
    · simp (disch := (first | omega | assumption)) only [S1, ↓reduceIte, Nat.reduceEqDiff, Nat.reduceAdd, Nat.reduceMul, Nat.reduceDiv, AOp.sb, AOp.mut, frzf, ↓Bool.false_eq_true, beq_self_eq_true, ite_self, Nat.reduceLeDiff, Int.reduceEq, Int.reduceSub, Int.reduceAdd, Int.reduceNeg, Int.reduceLT, Int.reduceLE, Nat.reduceLT, bz_Nat1]
    · simp (disch := (first | omega | assumption)) only [S1, ↓reduceIte, Nat.reduceEqDiff, Nat.reduceAdd, Nat.reduceMul, Nat.reduceDiv, AOp.sb, AOp.mut, frzf, ↓Bool.false_eq_true, beq_self_eq_true, ite_self, Nat.reduceLeDiff, Int.reduceEq, Int.reduceSub, Int.reduceAdd, Int.reduceNeg, Int.reduceLT, Int.reduceLE, Nat.reduceLT, bz_Nat1]
    · first | rfl | (simp (disch := (first | omega | assumption)) only [S1, ↓reduceIte, Nat.reduceEqDiff, Nat.reduceAdd, Nat.reduceMul, Nat.reduceDiv, AOp.sb, AOp.mut, frzf, ↓Bool.false_eq_true, beq_self_eq_true, ite_self, Nat.reduceLeDiff, Int.reduceEq, Int.reduceSub, Int.reduceAdd, Int.reduceNeg, Int.reduceLT, Int.reduceLE, Nat.reduceLT, bz_Nat1])
    refine smQ @bz_Nat1 ?_
    refine hK _ ?_
    clear hK K
    try (refine hK _ ?_; clear hK K)
    refine spQ @bz_Nat1 ?_
    have e : tz (fl B (max a.length b.length) (nv B a + B ^ max a.length b.length - nv B b)) = dg B (nv B a - nv B b) := by
      have h1 := nv_lt ha
      have h2 : B ^ a.length ≤ B ^ max a.length b.length := Nat.pow_le_pow_right B0 (by omega)
      rw [← dg_fl B2 (n := max a.length b.length) (by omega : nv B a - nv B b < _)]
      congr 1
      exact fl_congr B0 (by rw [show nv B a + B ^ max a.length b.length - nv B b = (nv B a - nv B b) + B ^ max a.length b.length from by omega, Nat.add_mod_right])
    exact rtQ (ai @e @bz_Nat1)
def a29 : AC := .seq (.reg [qr 4 (.mv (.k (.i .i64 0)))])
 (.seq (.reg [qm 5 0,
 qm 6 1,
 qr 7 (.call 48 [(1, (.t 5)), (1, (.t 6))]),
 qm 4 7])
 (.ret))
theorem cmp_spec (a b : List Nat) (ha : Wd a) (hb : Wd b) (la : a.length ≤ 1099511627776) (lb : b.length ≤ 1099511627776) :
    AFun Try.prog J0 29 [.l 1 (W a), .l 1 (W b)] (.i .i64 (sg (nv B a) (nv B b))) := by
  refine mkQ fol J0s Try.func29 a29 ?_
  unfold a29
  simp only [init_eq, initE, qm, qr, qn]
  refine spQ @bz_Nat1 ?_
  try simp only [Sv, ↓reduceIte, Nat.reduceEqDiff]
  refine vm_reg (fun K hK => ?_)
  refine smQ @bz_Nat1 ?_
  refine clp_mk _ _ ?_ ?_ ?_ (limbCmp_spec a b ha hb la lb) ?_
  · simp (disch := (first | omega | assumption)) only [S1, ↓reduceIte, Nat.reduceEqDiff, Nat.reduceAdd, Nat.reduceMul, Nat.reduceDiv, AOp.sb, AOp.mut, frzf, ↓Bool.false_eq_true, beq_self_eq_true, ite_self, Nat.reduceLeDiff, Int.reduceEq, Int.reduceSub, Int.reduceAdd, Int.reduceNeg, Int.reduceLT, Int.reduceLE, Nat.reduceLT, bz_Nat1]
  · simp (disch := (first | omega | assumption)) only [S1, ↓reduceIte, Nat.reduceEqDiff, Nat.reduceAdd, Nat.reduceMul, Nat.reduceDiv, AOp.sb, AOp.mut, frzf, ↓Bool.false_eq_true, beq_self_eq_true, ite_self, Nat.reduceLeDiff, Int.reduceEq, Int.reduceSub, Int.reduceAdd, Int.reduceNeg, Int.reduceLT, Int.reduceLE, Nat.reduceLT, bz_Nat1]
  · first | rfl | (simp (disch := (first | omega | assumption)) only [S1, ↓reduceIte, Nat.reduceEqDiff, Nat.reduceAdd, Nat.reduceMul, Nat.reduceDiv, AOp.sb, AOp.mut, frzf, ↓Bool.false_eq_true, beq_self_eq_true, ite_self, Nat.reduceLeDiff, Int.reduceEq, Int.reduceSub, Int.reduceAdd, Int.reduceNeg, Int.reduceLT, Int.reduceLE, Nat.reduceLT, bz_Nat1])
  refine smQ @bz_Nat1 ?_
  refine hK _ ?_
  clear hK K
  try (refine hK _ ?_; clear hK K)
  refine spQ @bz_Nat1 ?_
  exact rtQ @bz_Nat1
def a32 : AC := .seq (.reg [qr 4 (.mv (.k .nl))])
 (.seq (.reg [qm 8 0,
 qm 9 1,
 qr 10 (.call 55 [(1, (.t 8)), (1, (.t 9))]),
 qm 7 10,
 qr 11 (.ext (.t 7) 0),
 qr 12 (.ext (.t 7) 1),
 qm 5 11,
 qm 6 12])
 (.seq (.reg [qm 13 5,
 qr 14 (.call 57 [(1, (.t 13))]),
 qm 15 6,
 qr 16 (.bsl 24 1 1 [(.i .u64 0)] [(0, (.t 15))]),
 qr 17 (.app 24 1 8 (.t 14) (.t 16)),
 qr 18 (.call 47 [(1, (.t 17))]),
 qm 4 18])
 (.ret)))
theorem add_spec (a b : List Nat) (ha : Wd a) (hb : Wd b) (la : a.length ≤ 1099511627775) (lb : b.length ≤ 1099511627775) :
    AFun Try.prog J0 32 [.l 1 (W a), .l 1 (W b)] (.o 24 1 (W (dg B (nv B a + nv B b)))) := by
  refine mkQ fol J0s Try.func32 a32 ?_
  unfold a32
  simp only [init_eq, initE, qm, qr, qn]
  generalize hm : max a.length b.length = m
  have hw : (fl B m (nv B a + nv B b)).length = m := fl_len _ _
  refine spQ @bz_Nat1 ?_
  try simp only [Sv, ↓reduceIte, Nat.reduceEqDiff]
  refine vm_reg (fun K hK => ?_)
  refine smQ @bz_Nat1 ?_
  refine clp_mk _ _ ?_ ?_ ?_ (limbAdd_spec a b ha hb (by omega) (by omega)) ?_
  · simp (disch := (first | omega | assumption)) only [S1, ↓reduceIte, Nat.reduceEqDiff, Nat.reduceAdd, Nat.reduceMul, Nat.reduceDiv, AOp.sb, AOp.mut, frzf, ↓Bool.false_eq_true, beq_self_eq_true, ite_self, Nat.reduceLeDiff, Int.reduceEq, Int.reduceSub, Int.reduceAdd, Int.reduceNeg, Int.reduceLT, Int.reduceLE, Nat.reduceLT, bz_Nat1]
  · simp (disch := (first | omega | assumption)) only [S1, ↓reduceIte, Nat.reduceEqDiff, Nat.reduceAdd, Nat.reduceMul, Nat.reduceDiv, AOp.sb, AOp.mut, frzf, ↓Bool.false_eq_true, beq_self_eq_true, ite_self, Nat.reduceLeDiff, Int.reduceEq, Int.reduceSub, Int.reduceAdd, Int.reduceNeg, Int.reduceLT, Int.reduceLE, Nat.reduceLT, bz_Nat1]
  · first | rfl | (simp (disch := (first | omega | assumption)) only [S1, ↓reduceIte, Nat.reduceEqDiff, Nat.reduceAdd, Nat.reduceMul, Nat.reduceDiv, AOp.sb, AOp.mut, frzf, ↓Bool.false_eq_true, beq_self_eq_true, ite_self, Nat.reduceLeDiff, Int.reduceEq, Int.reduceSub, Int.reduceAdd, Int.reduceNeg, Int.reduceLT, Int.reduceLE, Nat.reduceLT, bz_Nat1])
  simp only [hm]
  refine smQ @bz_Nat1 ?_
  refine hK _ ?_
  clear hK K
  try (refine hK _ ?_; clear hK K)
  refine spQ @bz_Nat1 ?_
  try simp only [Sv, ↓reduceIte, Nat.reduceEqDiff]
  refine vm_reg (fun K hK => ?_)
  refine smQ @bz_Nat1 ?_
  refine clp_mk _ _ ?_ ?_ ?_ (clone_spec (fl B m (nv B a + nv B b)) (by omega)) ?_
  · simp (disch := (first | omega | assumption)) only [S1, ↓reduceIte, Nat.reduceEqDiff, Nat.reduceAdd, Nat.reduceMul, Nat.reduceDiv, AOp.sb, AOp.mut, frzf, ↓Bool.false_eq_true, beq_self_eq_true, ite_self, Nat.reduceLeDiff, Int.reduceEq, Int.reduceSub, Int.reduceAdd, Int.reduceNeg, Int.reduceLT, Int.reduceLE, Nat.reduceLT, bz_Nat1]
  · simp (disch := (first | omega | assumption)) only [S1, ↓reduceIte, Nat.reduceEqDiff, Nat.reduceAdd, Nat.reduceMul, Nat.reduceDiv, AOp.sb, AOp.mut, frzf, ↓Bool.false_eq_true, beq_self_eq_true, ite_self, Nat.reduceLeDiff, Int.reduceEq, Int.reduceSub, Int.reduceAdd, Int.reduceNeg, Int.reduceLT, Int.reduceLE, Nat.reduceLT, bz_Nat1]
  · first | rfl | (simp (disch := (first | omega | assumption)) only [S1, ↓reduceIte, Nat.reduceEqDiff, Nat.reduceAdd, Nat.reduceMul, Nat.reduceDiv, AOp.sb, AOp.mut, frzf, ↓Bool.false_eq_true, beq_self_eq_true, ite_self, Nat.reduceLeDiff, Int.reduceEq, Int.reduceSub, Int.reduceAdd, Int.reduceNeg, Int.reduceLT, Int.reduceLE, Nat.reduceLT, bz_Nat1])
  refine smQ (ai @W_app1 @bz_Nat1) ?_
  refine clp_mk _ _ ?_ ?_ ?_ (own_spec (fl B m (nv B a + nv B b) ++ [(nv B a + nv B b) / B ^ m]) (by rw [List.length_append, hw]; simp; omega)) ?_
  · simp (disch := (first | omega | assumption)) only [S1, ↓reduceIte, Nat.reduceEqDiff, Nat.reduceAdd, Nat.reduceMul, Nat.reduceDiv, AOp.sb, AOp.mut, frzf, ↓Bool.false_eq_true, beq_self_eq_true, ite_self, Nat.reduceLeDiff, Int.reduceEq, Int.reduceSub, Int.reduceAdd, Int.reduceNeg, Int.reduceLT, Int.reduceLE, Nat.reduceLT, bz_Nat1]
  · simp (disch := (first | omega | assumption)) only [S1, ↓reduceIte, Nat.reduceEqDiff, Nat.reduceAdd, Nat.reduceMul, Nat.reduceDiv, AOp.sb, AOp.mut, frzf, ↓Bool.false_eq_true, beq_self_eq_true, ite_self, Nat.reduceLeDiff, Int.reduceEq, Int.reduceSub, Int.reduceAdd, Int.reduceNeg, Int.reduceLT, Int.reduceLE, Nat.reduceLT, bz_Nat1]
  · first | rfl | (simp (disch := (first | omega | assumption)) only [S1, ↓reduceIte, Nat.reduceEqDiff, Nat.reduceAdd, Nat.reduceMul, Nat.reduceDiv, AOp.sb, AOp.mut, frzf, ↓Bool.false_eq_true, beq_self_eq_true, ite_self, Nat.reduceLeDiff, Int.reduceEq, Int.reduceSub, Int.reduceAdd, Int.reduceNeg, Int.reduceLT, Int.reduceLE, Nat.reduceLT, bz_Nat1])
  refine smQ @bz_Nat1 ?_
  refine hK _ ?_
  clear hK K
  try (refine hK _ ?_; clear hK K)
  refine spQ @bz_Nat1 ?_
  have hlt : nv B a + nv B b < B ^ (m + 1) := by
    have h1 := nv_lt ha
    have h2 := nv_lt hb
    have h3 : B ^ a.length ≤ B ^ m := Nat.pow_le_pow_right B0 (by omega)
    have h4 : B ^ b.length ≤ B ^ m := Nat.pow_le_pow_right B0 (by omega)
    have h5 : B ^ m * 2 ≤ B ^ (m + 1) := by rw [Nat.pow_succ]; exact Nat.mul_le_mul_left _ B2
    omega
  have e : tz (fl B m (nv B a + nv B b) ++ [(nv B a + nv B b) / B ^ m]) = dg B (nv B a + nv B b) := by
    rw [← dg_fl B2 hlt, fl_succ, Nat.mod_eq_of_lt ((Nat.div_lt_iff_lt_mul (Nat.pow_pos B0)).2 (by rw [Nat.mul_comm, ← Nat.pow_succ]; exact hlt))]
  exact rtQ (ai @e @bz_Nat1)
end Go.Proofs.Ytdaedplbhpiacaa
