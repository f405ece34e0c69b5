/-
  The texts Q16, Q17, Q18, Q19.
-/
import Derived.Test.YtfcpigjmagbnkaaGreatDoorQD
namespace Go.Proofs.YtfcpigjmagbnkaaGreatDoor
open Go Go.RowKit Ab
set_option linter.unusedSimpArgs false
set_option linter.unusedVariables false
set_option maxHeartbeats 10000000
theorem bz_Q16 : type_of% (And.intro @W_len (And.intro @D_len (And.intro @Nat.div_one (And.intro @Nat.mul_one (And.intro @tn_nat (And.intro @W_nf (And.intro @D_nf (And.intro @W_nil (And.intro @D_nil (And.intro @wi (And.intro @nf_g (And.intro @Bool.false_and (@W_cell))))))))))))) := And.intro @W_len (And.intro @D_len (And.intro @Nat.div_one (And.intro @Nat.mul_one (And.intro @tn_nat (And.intro @W_nf (And.intro @D_nf (And.intro @W_nil (And.intro @D_nil (And.intro @wi (And.intro @nf_g (And.intro @Bool.false_and (@W_cell))))))))))))
theorem mul_lt {x y : Int} {m : Nat} (hx : x.natAbs < B ^ m) (hy : y.natAbs < B ^ m) : (x * y).natAbs < B ^ (m + m) := by
  rw [Int.natAbs_mul, Nat.pow_add]; exact Nat.mul_lt_mul'' hx hy
theorem mulN_lt {x y m : Nat} (hx : x < B ^ m) (hy : y < B ^ m) : x * y < B ^ (m + m) := by
  rw [Nat.pow_add]; exact Nat.mul_lt_mul'' hx hy
theorem zv_mz (x : Int) (t : Bool) (b d e : List Nat) (hb : nv B b ≠ 0) (hd : nv B d ≠ 0) : x * zv t e = mz (x * (nv B e : Int)) (zv t b * (nv B d : Int)) := by
  have hp := Nat.mul_pos (Nat.pos_of_ne_zero hb) (Nat.pos_of_ne_zero hd)
  unfold mz zv zI
  cases t
  · simp only [Bool.false_eq_true, if_false]
    rw [← Int.natCast_mul, if_neg (by omega)]
  · simp only [if_true]
    rw [Int.neg_mul, ← Int.natCast_mul, if_pos (by omega), Int.mul_neg]
def qv (x : Int) (d : Nat) (y : Int) (e : Nat) : V := if d * e = 0 then .g [.b false, .l 1 [], .l 1 []] else rv (mz (x * (e : Int)) (y * (d : Int))) (y * (d : Int)).natAbs
def qe (d : Nat) (y : Int) (e : Nat) : Int := if d * e = 0 then 1 else re (y * (d : Int)).natAbs
theorem RV_qv {x y : Int} {d e m : Nat} (hx : x.natAbs < B ^ m) (hy : y.natAbs < B ^ m) (hd : d < B ^ m) (he : e < B ^ m) : RV (qv x d y e) (m + m) := by
  unfold qv
  split
  · exact ⟨false, [], [], rfl, Wd_nil, Wd_nil, Nat.zero_le _, Nat.zero_le _⟩
  · refine RV_rv ?_ (mul_lt hy hd)
    unfold mz
    split
    · rw [Int.natAbs_neg]; exact mul_lt hx he
    · exact mul_lt hx he
theorem sgz_nv (t : Bool) (b : List Nat) : (sgz (zv t b) = 0) = (nv B b = 0) := by rw [sgz_zz]; exact propext zv_z
end Go.Proofs.YtfcpigjmagbnkaaGreatDoor
namespace Go.Proofs.YtfcpigjmagbnkaaGreatDoor
open Go Go.RowKit Ab
set_option linter.unusedSimpArgs false
set_option linter.unusedVariables false
set_option maxHeartbeats 10000000
theorem bz_Q17 : type_of% (And.intro @W_len (And.intro @D_len (And.intro @Nat.div_one (And.intro @Nat.mul_one (And.intro @tn_nat (And.intro @W_nf (And.intro @D_nf (And.intro @W_nil (And.intro @D_nil (And.intro @wi (And.intro @nf_g (And.intro @Bool.false_and (@W_cell))))))))))))) := And.intro @W_len (And.intro @D_len (And.intro @Nat.div_one (And.intro @Nat.mul_one (And.intro @tn_nat (And.intro @W_nf (And.intro @D_nf (And.intro @W_nil (And.intro @D_nil (And.intro @wi (And.intro @nf_g (And.intro @Bool.false_and (@W_cell))))))))))))
def pv (z : Int) (d : Nat) (n : Int) : V := if n < 0 then rv (mz ((d ^ (-n).toNat : Nat) : Int) (z ^ (-n).toNat)) (z ^ (-n).toNat).natAbs else rN (rz (z ^ n.toNat) (d ^ n.toNat)) (rden (z ^ n.toNat) (d ^ n.toNat))
def pe (z : Int) (n : Int) : Int := if n < 0 then re (z ^ (-n).toNat).natAbs else 0
def pV (z : Int) (d : Nat) (n : Int) : V := if d = 0 ∨ n < -4096 ∨ 4096 < n then .g [.b false, .l 1 [], .l 1 []] else pv (rz z d) (rden z d) n
def pE (z : Int) (d : Nat) (n : Int) : Int := if d = 0 then 1 else if n < -4096 ∨ 4096 < n then 3 else pe (rz z d) n
theorem zpow_lt {z : Int} {m n : Nat} (h : z.natAbs < B ^ m) (h1 : 1 ≤ m) : (z ^ n).natAbs < B ^ (m * n + 1) := by rw [Int.natAbs_pow]; exact pow_B h h1
theorem npow_lt {z m n : Nat} (h : z < B ^ m) (h1 : 1 ≤ m) : z ^ n < B ^ (m * n + 1) := pow_B h h1
theorem RV_pV {z : Int} {d m : Nat} {n : Int} (hz : z.natAbs < B ^ m) (hd : d < B ^ m) (h1 : 1 ≤ m) : RV (pV z d n) (m * n.natAbs + 1) := by
  unfold pV
  split
  · exact ⟨false, [], [], rfl, Wd_nil, Wd_nil, Nat.zero_le _, Nat.zero_le _⟩
  · have hz' : (rz z d).natAbs < B ^ m := by rw [rz_abs]; exact Nat.lt_of_le_of_lt (Nat.div_le_self _ _) hz
    have hd' : rden z d < B ^ m := Nat.lt_of_le_of_lt (Nat.div_le_self _ _) hd
    unfold pv
    split
    · rw [show (-n).toNat = n.natAbs from by omega]
      refine RV_rv ?_ (zpow_lt hz' h1)
      unfold mz
      split
      · rw [Int.natAbs_neg]; exact npow_lt hd' h1
      · exact npow_lt hd' h1
    · rw [show n.toNat = n.natAbs from by omega]
      exact RV_rN (zpow_lt hz' h1) (npow_lt hd' h1)
where
  RV_rN {z : Int} {d m : Nat} (hz : z.natAbs < B ^ m) (hd : d < B ^ m) : RV (rN (rz z d) (rden z d)) m :=
    ⟨_, _, _, rfl, Wd_dg _, Wd_dg _, dlen (by rw [rz_abs]; exact Nat.lt_of_le_of_lt (Nat.div_le_self _ _) hz), dlen (Nat.lt_of_le_of_lt (Nat.div_le_self _ _) hd)⟩
theorem cap (m k K : Nat) (h : m * (K + 1) + 1 ≤ 1000000) (hk : k ≤ K) : m * k + 1 ≤ 1000000 ∧ m * (k + 1) + 1 ≤ 100000000 := by
  have h1 := Nat.mul_le_mul_left m (show k + 1 ≤ K + 1 by omega)
  have h2 := Nat.mul_le_mul_left m (show k ≤ k + 1 by omega)
  omega
end Go.Proofs.YtfcpigjmagbnkaaGreatDoor
namespace Go.Proofs.YtfcpigjmagbnkaaGreatDoor
open Go Go.RowKit Ab
set_option linter.unusedSimpArgs false
set_option linter.unusedVariables false
set_option maxHeartbeats 10000000
theorem bz_Q18 : type_of% (And.intro @W_len (And.intro @D_len (And.intro @Nat.div_one (And.intro @Nat.mul_one (And.intro @tn_nat (And.intro @W_nf (And.intro @D_nf (And.intro @W_nil (And.intro @D_nil (And.intro @wi (And.intro @nf_g (And.intro @Bool.false_and (@W_cell))))))))))))) := And.intro @W_len (And.intro @D_len (And.intro @Nat.div_one (And.intro @Nat.mul_one (And.intro @tn_nat (And.intro @W_nf (And.intro @D_nf (And.intro @W_nil (And.intro @D_nil (And.intro @wi (And.intro @nf_g (And.intro @Bool.false_and (@W_cell))))))))))))
theorem zI_powZ (z : Int) (k : Nat) : zI (decide (z < 0) && decide (k % 2 = 1)) (z.natAbs ^ k) = z ^ k := by rw [zI_pow, zI_self]
theorem mz_pow (z : Int) (d k : Nat) (h0 : z ≠ 0) : mz ((d ^ k : Nat) : Int) (z ^ k) = (zI (decide (z < 0)) d) ^ k := by
  have h1 : (0 : Nat) < z.natAbs ^ k := Nat.pow_pos (by omega)
  rw [← zI_pow, ← zI_powZ z k]
  unfold mz
  have h2 := zI_neg (decide (z < 0) && decide (k % 2 = 1)) (z.natAbs ^ k)
  rw [decide_eq_true h1, Bool.and_true] at h2
  generalize (decide (z < 0) && decide (k % 2 = 1)) = s at *
  cases s
  · rw [if_neg (of_decide_eq_false h2)]; rfl
  · rw [if_pos (of_decide_eq_true h2)]; rfl
theorem rzN_co {z : Int} {d : Nat} (h : Nat.gcd z.natAbs d = 1) : rz z d = z := by unfold rz; rw [show rG z d = 1 from h]; exact Int.tdiv_one _
theorem rdenN_co {z : Int} {d : Nat} (h : Nat.gcd z.natAbs d = 1) : rden z d = d := by unfold rden; rw [show rG z d = 1 from h]; exact Nat.div_one _
theorem rN_b (z : Int) (d : Nat) : rN z d = .g [.b (decide (z < 0)), .l 1 (W (dg B z.natAbs)), .l 1 (W (dg B d))] := rfl
end Go.Proofs.YtfcpigjmagbnkaaGreatDoor
namespace Go.Proofs.YtfcpigjmagbnkaaGreatDoor
open Go Go.RowKit Ab
set_option linter.unusedSimpArgs false
set_option linter.unusedVariables false
set_option maxHeartbeats 10000000
theorem bz_Q19 : type_of% (And.intro @RC_nf (And.intro @W_len (And.intro @D_len (And.intro @Nat.div_one (And.intro @Nat.mul_one (And.intro @tn_nat (And.intro @W_nf (And.intro @D_nf (And.intro @W_nil (And.intro @D_nil (And.intro @wi (And.intro @nf_g (And.intro @Bool.false_and (@W_cell)))))))))))))) := And.intro @RC_nf (And.intro @W_len (And.intro @D_len (And.intro @Nat.div_one (And.intro @Nat.mul_one (And.intro @tn_nat (And.intro @W_nf (And.intro @D_nf (And.intro @W_nil (And.intro @D_nil (And.intro @wi (And.intro @nf_g (And.intro @Bool.false_and (@W_cell)))))))))))))
abbrev nul3 : Bool × List Nat × List Nat := (false, [], [])
def sumZ (l : List (Bool × List Nat × List Nat)) : Nat → Int × Nat
  | 0 => (0, 1)
  | i + 1 => (rz ((sumZ l i).1 * (nv B (l.getD i nul3).2.2 : Int) + zv (l.getD i nul3).1 (l.getD i nul3).2.1 * ((sumZ l i).2 : Int)) ((sumZ l i).2 * nv B (l.getD i nul3).2.2),
      rden ((sumZ l i).1 * (nv B (l.getD i nul3).2.2 : Int) + zv (l.getD i nul3).1 (l.getD i nul3).2.1 * ((sumZ l i).2 : Int)) ((sumZ l i).2 * nv B (l.getD i nul3).2.2))
def LOk (l : List (Bool × List Nat × List Nat)) : Prop := ∀ p, p ∈ l → Wd p.2.1 ∧ Wd p.2.2 ∧ p.2.1.length ≤ 12 ∧ p.2.2.length ≤ 12
theorem getD_mem {l : List (Bool × List Nat × List Nat)} {i : Nat} (h : i < l.length) : l.getD i nul3 ∈ l := by
  rw [List.getD_eq_getElem?_getD, List.getElem?_eq_getElem h]; exact List.getElem_mem _
theorem ce_0 {l : List (Bool × List Nat × List Nat)} (h : ce l = 0) {i : Nat} (hi : i < l.length) : nv B (l.getD i nul3).2.2 ≠ 0 := fun h0 => by
  unfold ce at h
  rw [if_pos (List.any_eq_true.2 ⟨_, getD_mem hi, by simpa using h0⟩)] at h
  exact absurd h (by decide)
theorem ce_01 (l : List (Bool × List Nat × List Nat)) : ce l = 0 ∨ ce l = 1 := by unfold ce; split; exact .inr rfl; exact .inl rfl
theorem ce_1 {l : List (Bool × List Nat × List Nat)} (h : ce l = 1) : ∃ i, i < l.length ∧ nv B (l.getD i nul3).2.2 = 0 ∧ ∀ u, u < i → nv B (l.getD u nul3).2.2 ≠ 0 := by
  have h1 : ∃ i, i < l.length ∧ nv B (l.getD i nul3).2.2 = 0 := by
    unfold ce at h
    split at h
    · rename_i ha
      obtain ⟨p, hp, h0⟩ := List.any_eq_true.1 ha
      obtain ⟨u, hu, rfl⟩ := List.getElem_of_mem hp
      exact ⟨u, hu, by rw [List.getD_eq_getElem?_getD, List.getElem?_eq_getElem hu]; simpa using h0⟩
    · exact absurd h (by decide)
  obtain ⟨i, hi, h0⟩ := h1
  have key : ∀ n i, i ≤ n → i < l.length → nv B (l.getD i nul3).2.2 = 0 → ∃ i, i < l.length ∧ nv B (l.getD i nul3).2.2 = 0 ∧ ∀ u, u < i → nv B (l.getD u nul3).2.2 ≠ 0 := by
    intro n
    induction n with
    | zero => intro i h1 h2 h3; exact ⟨i, h2, h3, fun u hu => by omega⟩
    | succ n ih =>
      intro i h1 h2 h3
      rcases Classical.em (∃ u, u < i ∧ nv B (l.getD u nul3).2.2 = 0) with ⟨u, hu, h4⟩ | h4
      · exact ih u (by omega) (by omega) h4
      · exact ⟨i, h2, h3, fun u hu h5 => h4 ⟨u, hu, h5⟩⟩
  exact key i i (Nat.le_refl _) hi h0
theorem sum_ok {l : List (Bool × List Nat × List Nat)} (h : LOk l) (hc : ce l = 0) : ∀ i, i ≤ l.length → (sumZ l i).1.natAbs < B ^ (13 * i + 1) ∧ (sumZ l i).2 < B ^ (13 * i + 1) ∧ (sumZ l i).2 ≠ 0
  | 0, _ => ⟨(by decide : (0 : Int).natAbs < B ^ (13 * 0 + 1)), (by decide : 1 < B ^ (13 * 0 + 1)), (by decide : (1 : Nat) ≠ 0)⟩
  | i + 1, hi => by
    obtain ⟨h1, h2, h3⟩ := sum_ok h hc i (by omega)
    have hm := getD_mem (l := l) (i := i) (by omega)
    have h4 := ce_0 hc (i := i) (by omega)
    obtain ⟨wa, wd, la, ld⟩ := h _ hm
    have b1 := nvlt wd ld
    have b2 := zv_lt (s := (l.getD i nul3).1) wa la
    unfold sumZ
    generalize l.getD i nul3 = p at *
    generalize (sumZ l i).1 = z at *
    generalize (sumZ l i).2 = d at *
    have c1 : (z * (nv B p.2.2 : Int)).natAbs < B ^ (13 * i + 13) := by
      rw [Int.natAbs_mul, show 13 * i + 13 = (13 * i + 1) + 12 from by omega, Nat.pow_add]; exact Nat.mul_lt_mul'' h1 b1
    have c2 : (zv p.1 p.2.1 * (d : Int)).natAbs < B ^ (13 * i + 13) := by
      rw [Int.natAbs_mul, show 13 * i + 13 = 12 + (13 * i + 1) from by omega, Nat.pow_add]; exact Nat.mul_lt_mul'' b2 h2
    have c3 : d * nv B p.2.2 < B ^ (13 * i + 13) := by
      rw [show 13 * i + 13 = (13 * i + 1) + 12 from by omega, Nat.pow_add]; exact Nat.mul_lt_mul'' h2 b1
    rw [show 13 * (i + 1) + 1 = 13 * i + 13 + 1 from by omega]
    refine ⟨?_, ?_, rden_pos (Nat.mul_ne_zero h3 h4)⟩
    · simp only [rz_abs]
      exact Nat.lt_of_le_of_lt (Nat.div_le_self _ _) (Nat.lt_of_le_of_lt (Int.natAbs_add_le _ _) (padd c1 c2))
    · exact Nat.lt_of_le_of_lt (Nat.div_le_self _ _) (pup c3 (by omega))
def sumV (l : List (Bool × List Nat × List Nat)) : V := if ce l = 1 then .g [.b false, .l 1 [], .l 1 []] else rN (sumZ l l.length).1 (sumZ l l.length).2
theorem RV_sumV {l : List (Bool × List Nat × List Nat)} (h : LOk l) : RV (sumV l) (13 * l.length + 1) := by
  unfold sumV
  split
  · exact ⟨false, [], [], rfl, Wd_nil, Wd_nil, Nat.zero_le _, Nat.zero_le _⟩
  · rename_i hc
    have hc0 : ce l = 0 := (ce_01 l).resolve_right hc
    obtain ⟨h1, h2, h3⟩ := sum_ok h hc0 l.length (Nat.le_refl _)
    exact ⟨_, _, _, rfl, Wd_dg _, Wd_dg _, dlen h1, dlen h2⟩
def pw (n : Int) : Int := if 120 < n ∧ n ≤ 4096 ∨ n < -120 ∧ -4096 ≤ n then n.tmod 120 else n
theorem pw_small (n : Int) : (pw n < -4096 ∨ 4096 < pw n) ∨ (pw n).natAbs ≤ 120 := by
  unfold pw
  split
  · right
    rw [Int.natAbs_tmod]; exact Nat.le_of_lt (Nat.mod_lt _ (by decide))
  · omega
end Go.Proofs.YtfcpigjmagbnkaaGreatDoor
