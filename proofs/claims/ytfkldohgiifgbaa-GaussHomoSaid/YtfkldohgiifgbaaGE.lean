/-
  The texts Ref1, Ref2, Ref3, Ref4, Ref6, Shift, Shift2.
-/
import Derived.Test.YtfkldohgiifgbaaGD
/- Ref1 -/
namespace Go.Proofs.Ytfkldohgiifgbaa
open Go Go.RowKit Ab
set_option linter.unusedSimpArgs false
set_option linter.unusedVariables false
set_option maxHeartbeats 10000000
theorem bz_Ref1 : type_of% (And.intro @W_len (And.intro @D_len (And.intro @Nat.div_one (And.intro @Nat.mul_one (And.intro @tn_nat (And.intro @W_nf (And.intro @D_nf (And.intro @W_nil (@D_nil))))))))) := And.intro @W_len (And.intro @D_len (And.intro @Nat.div_one (And.intro @Nat.mul_one (And.intro @tn_nat (And.intro @W_nf (And.intro @D_nf (And.intro @W_nil (@D_nil))))))))

theorem D_cat1 (a : List Nat) (x : Nat) : D a ++ [V.i .i64 (x : Int)] = D (a ++ [x]) := by simp [D]
theorem tmod_nat (a b : Nat) : (a : Int).tmod (b : Int) = ((a % b : Nat) : Int) := rfl
theorem tdiv_nat (a b : Nat) : (a : Int).tdiv (b : Int) = ((a / b : Nat) : Int) := rfl
theorem tmod_256 (a : Nat) : (a : Int).tmod 256 = ((a % 256 : Nat) : Int) := rfl
theorem tdiv_256 (a : Nat) : (a : Int).tdiv 256 = ((a / 256 : Nat) : Int) := rfl
theorem B_256 (i : Nat) : B ^ i = 256 ^ (8 * i) := by rw [Nat.pow_mul]; rfl

end Go.Proofs.Ytfkldohgiifgbaa

/- Ref2 -/
namespace Go.Proofs.Ytfkldohgiifgbaa
open Go Go.RowKit Ab
set_option linter.unusedSimpArgs false
set_option linter.unusedVariables false
set_option maxHeartbeats 10000000
theorem bz_Ref2 : type_of% (And.intro @W_len (And.intro @D_len (And.intro @Nat.div_one (And.intro @Nat.mul_one (And.intro @tn_nat (And.intro @W_nf (And.intro @D_nf (And.intro @W_nil (@D_nil))))))))) := And.intro @W_len (And.intro @D_len (And.intro @Nat.div_one (And.intro @Nat.mul_one (And.intro @tn_nat (And.intro @W_nf (And.intro @D_nf (And.intro @W_nil (@D_nil))))))))

theorem B0c : (0 : Int) = ((0 : Nat) : Int) := rfl
end Go.Proofs.Ytfkldohgiifgbaa

/- Ref3 -/
namespace Go.Proofs.Ytfkldohgiifgbaa
open Go Go.RowKit Ab
set_option linter.unusedSimpArgs false
set_option linter.unusedVariables false
set_option maxHeartbeats 10000000
theorem bz_Ref3 : type_of% (And.intro @W_len (And.intro @D_len (And.intro @Nat.div_one (And.intro @Nat.mul_one (And.intro @tn_nat (And.intro @W_nf (And.intro @D_nf (And.intro @W_nil (@D_nil))))))))) := And.intro @W_len (And.intro @D_len (And.intro @Nat.div_one (And.intro @Nat.mul_one (And.intro @tn_nat (And.intro @W_nf (And.intro @D_nf (And.intro @W_nil (@D_nil))))))))

end Go.Proofs.Ytfkldohgiifgbaa

/- Ref4 -/
namespace Go.Proofs.Ytfkldohgiifgbaa
open Go Go.RowKit Ab
set_option linter.unusedSimpArgs false
set_option linter.unusedVariables false
set_option maxHeartbeats 10000000
theorem bz_Ref4 : type_of% (And.intro @W_len (And.intro @D_len (And.intro @Nat.div_one (And.intro @Nat.mul_one (And.intro @tn_nat (And.intro @W_nf (And.intro @D_nf (And.intro @W_nil (@D_nil))))))))) := And.intro @W_len (And.intro @D_len (And.intro @Nat.div_one (And.intro @Nat.mul_one (And.intro @tn_nat (And.intro @W_nf (And.intro @D_nf (And.intro @W_nil (@D_nil))))))))

theorem D2 : 2 ≤ 256 := by decide
theorem dg256_len {a : List Nat} (ha : Wd a) : (dg 256 (nv B a)).length ≤ 8 * a.length := dg_len D2 (by rw [← B_256]; exact nv_lt ha)
theorem sg_lt {x y : Nat} : (sg x y < 0) = (x < y) := by
  unfold sg
  split
  · rename_i h; simp [h]
  · rename_i h
    split <;> simp [h]

end Go.Proofs.Ytfkldohgiifgbaa

/- Ref6 -/
namespace Go.Proofs.Ytfkldohgiifgbaa
open Go Go.RowKit Ab
set_option linter.unusedSimpArgs false
set_option linter.unusedVariables false
set_option maxHeartbeats 10000000
theorem bz_Ref6 : type_of% (And.intro @W_len (And.intro @D_len (And.intro @Nat.div_one (And.intro @Nat.mul_one (And.intro @tn_nat (And.intro @W_nf (And.intro @D_nf (And.intro @W_nil (And.intro @D_nil (@wi)))))))))) := And.intro @W_len (And.intro @D_len (And.intro @Nat.div_one (And.intro @Nat.mul_one (And.intro @tn_nat (And.intro @W_nf (And.intro @D_nf (And.intro @W_nil (And.intro @D_nil (@wi)))))))))

/-- Bits, as truths. -/
def Bl (a : List Nat) : List V := a.map fun x : Nat => .b (decide (x = 1))
theorem Bl_len (a : List Nat) : (Bl a).length = a.length := by simp [Bl]
theorem Bl_nil : Bl [] = [] := rfl
theorem Bl_get (a : List Nat) (i : Nat) (h : i < a.length) : (Bl a).getD i .un = .b (decide (a.getD i 0 = 1)) := by simp [Bl, List.getD_eq_getElem?_getD, h]
theorem Bl_take (a : List Nat) (i : Nat) : (Bl a).take i = Bl (a.take i) := by simp [Bl]
theorem Bl_drop (a : List Nat) (i : Nat) : (Bl a).drop i = Bl (a.drop i) := by simp [Bl]
theorem Bl_app (a b : List Nat) : Bl a ++ Bl b = Bl (a ++ b) := by simp [Bl]
theorem Bl_cell (a : List Nat) : (Bl a).all V.cell = true := by simp [Bl, V.cell]
theorem Bl_nf (a : List Nat) : anyNF (Bl a) = false := by
  induction a with
  | nil => rfl
  | cons x r ih => simpa [Bl, anyNF, V.nf] using ih
theorem Bl_app1 (a : List Nat) (x : Nat) : Bl a ++ [V.b (decide (((x : Nat) : Int) = 1))] = Bl (a ++ [x]) := by
  have : decide (((x : Nat) : Int) = 1) = decide (x = 1) := by congr 1; simp only [eq_iff_iff]; omega
  rw [this]; simp [Bl]
theorem tmod_2 (a : Nat) : (a : Int).tmod 2 = ((a % 2 : Nat) : Int) := rfl
theorem tdiv_2 (a : Nat) : (a : Int).tdiv 2 = ((a / 2 : Nat) : Int) := rfl
theorem p256 (i : Nat) : 256 ^ i = 2 ^ (8 * i) := by rw [Nat.pow_mul]
theorem bit_of {l : List Nat} (h : Lt 2 l) (i : Nat) : l.getD i 0 = 0 ∨ l.getD i 0 = 1 := by have := Lt_get h (by decide) i; omega

end Go.Proofs.Ytfkldohgiifgbaa

/- Shift -/
namespace Go.Proofs.Ytfkldohgiifgbaa
open Go Go.RowKit Ab
set_option linter.unusedSimpArgs false
set_option linter.unusedVariables false
set_option maxHeartbeats 10000000
theorem bz_Shift : type_of% (And.intro @W_len (And.intro @Nat.div_one (And.intro @Nat.mul_one (And.intro @tn_nat (And.intro @W_nf (And.intro @W_nil (And.intro @tmod_64 (And.intro @tdiv_64 (And.intro @wi (And.intro @wu (@mk_W))))))))))) := And.intro @W_len (And.intro @Nat.div_one (And.intro @Nat.mul_one (And.intro @tn_nat (And.intro @W_nf (And.intro @W_nil (And.intro @tmod_64 (And.intro @tdiv_64 (And.intro @wi (And.intro @wu (@mk_W))))))))))

theorem B1 : 0 < B := by decide
theorem tn_add (a b : Nat) : ((a : Int) + (b : Int)).toNat = a + b := by omega
theorem tn_add2 (a b : Nat) : ((a : Int) + (b : Int) + 1).toNat = a + b + 1 := by omega
theorem set_fl {m i v d : Nat} (hi : i < m) (hd : d = v / B ^ i % B) : (fl B i v ++ List.replicate (m - i) 0).set i d = fl B (i + 1) v ++ List.replicate (m - (i + 1)) 0 := by
  obtain ⟨k, hk⟩ : ∃ k, m - i = k + 1 := ⟨m - i - 1, by omega⟩
  rw [fl_succ, hk, show m - (i + 1) = k from by omega, List.set_append_right _ _ (by rw [fl_len]; omega), fl_len, Nat.sub_self, List.replicate_succ, List.set_cons_zero, hd, List.append_assoc]
  rfl
theorem getD_set (l : List Nat) (i x : Nat) (h : i < l.length) : (l.set i x).getD i 0 = x := by
  rw [List.getD_eq_getElem?_getD, List.getElem?_set_self h]; rfl

end Go.Proofs.Ytfkldohgiifgbaa

/- Shift2 -/
namespace Go.Proofs.Ytfkldohgiifgbaa
open Go Go.RowKit Ab
set_option linter.unusedSimpArgs false
set_option linter.unusedVariables false
set_option maxHeartbeats 10000000
theorem bz_Shift2 : type_of% (And.intro @W_len (And.intro @D_len (And.intro @Bl_len (And.intro @Nat.div_one (And.intro @Nat.mul_one (And.intro @tn_nat (And.intro @W_nf (And.intro @D_nf (And.intro @Bl_nf (And.intro @W_nil (And.intro @D_nil (And.intro @Bl_nil (And.intro @tmod_64 (And.intro @tdiv_64 (And.intro @wi (@wu)))))))))))))))) := And.intro @W_len (And.intro @D_len (And.intro @Bl_len (And.intro @Nat.div_one (And.intro @Nat.mul_one (And.intro @tn_nat (And.intro @W_nf (And.intro @D_nf (And.intro @Bl_nf (And.intro @W_nil (And.intro @D_nil (And.intro @Bl_nil (And.intro @tmod_64 (And.intro @tdiv_64 (And.intro @wi (@wu)))))))))))))))

theorem nv_dgB (v : Nat) : nv B (dg B v) = v := nv_dg B2 v
theorem Wd_dg (v : Nat) : Wd (dg B v) := dg_Lt B0 v
theorem dlen {v k : Nat} (h : v < B ^ k) : (dg B v).length ≤ k := dg_len B2 h
theorem nvlt {a : List Nat} {m : Nat} (ha : Wd a) (la : a.length ≤ m) : nv B a < B ^ m := Nat.lt_of_lt_of_le (nv_lt ha) (Nat.pow_le_pow_right B0 la)
theorem pup {v k m : Nat} (h : v < B ^ k) (hk : k ≤ m) : v < B ^ m := Nat.lt_of_lt_of_le h (Nat.pow_le_pow_right B0 hk)
theorem padd {u v k : Nat} (h : u < B ^ k) (h' : v < B ^ k) : u + v < B ^ (k + 1) := by
  have h5 : B ^ k * 2 ≤ B ^ (k + 1) := Nat.mul_le_mul_left _ B2
  omega
theorem own_dg (a : List Nat) (ha : Wd a) (la : a.length ≤ 1099511627776) : AFun Try.prog J0 98 [.l 1 (W a)] (.o 56 1 (W (dg B (nv B a)))) := by
  have := own_spec a la
  rwa [tz_dg B2 ha] at this
theorem nv_mod {b : Nat} {l : List Nat} (hb : 0 < b) (h : Lt b l) (i : Nat) : nv b (l.take i) = nv b l % b ^ i := by
  rcases Nat.lt_or_ge l.length i with h1 | h1
  · rw [List.take_of_length_le (by omega), Nat.mod_eq_of_lt (Nat.lt_of_lt_of_le (nv_lt h) (Nat.pow_le_pow_right hb (by omega)))]
  · rw [nv_take_drop l i h1, Nat.add_mul_mod_self_left, Nat.mod_eq_of_lt (nv_take_lt hb h i)]
theorem shl1 (r : Nat) (h : r < 64) : IntKind.u64.wrap (1 * 2 ^ (min r IntKind.u64.bits)) = ((2 ^ r : Nat) : Int) := by
  have h2 := shl64 1 r (by omega)
  have h3 : 2 ^ r < 18446744073709551616 := by
    have : (2 : Nat) ^ r < 2 ^ 64 := Nat.pow_lt_pow_right (by decide) h
    exact this
  rw [Nat.one_mul, Nat.mod_eq_of_lt h3] at h2
  exact h2
theorem pred2 (r : Nat) : ((2 ^ r : Nat) : Int) - 1 = ((2 ^ r - 1 : Nat) : Int) := by have : 0 < 2 ^ r := Nat.pow_pos (by decide); omega

/-- a shift to the left, the code -/
def shlR (v : Nat) (n : Int) : List Nat × Int := if n < 0 ∨ 1048576 < n then ([], 3) else (dg B (v * 2 ^ n.toNat), 0)
def shrR (v : Nat) (n : Int) : List Nat × Int := if n < 0 then ([], 3) else (dg B (v / 2 ^ n.toNat), 0)
def lowR (v : Nat) (n : Int) : List Nat := if n < 0 then [] else dg B (v % 2 ^ n.toNat)

end Go.Proofs.Ytfkldohgiifgbaa
