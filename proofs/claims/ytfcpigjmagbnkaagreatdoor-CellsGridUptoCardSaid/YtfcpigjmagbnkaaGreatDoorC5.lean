/-
  Cells, by the document: halves, coarser ones, the cell of a number, numbers that it holds.
-/
import Derived.Test.YtfcpigjmagbnkaaGreatDoorC4
namespace Go.Proofs.YtfcpigjmagbnkaaGreatDoor
open Go Go.RowKit Ab
set_option linter.unusedSimpArgs false
set_option linter.unusedVariables false
set_option maxHeartbeats 10000000
theorem bz_C5 : type_of% (And.intro @W_len (And.intro @D_len (And.intro @Nat.div_one (And.intro @Nat.mul_one (And.intro @tn_nat (And.intro @W_nf (And.intro @D_nf (And.intro @W_nil (And.intro @D_nil (And.intro @wi (And.intro @nf_g (And.intro @Bool.false_and (@W_cell))))))))))))) := And.intro @W_len (And.intro @D_len (And.intro @Nat.div_one (And.intro @Nat.mul_one (And.intro @tn_nat (And.intro @W_nf (And.intro @D_nf (And.intro @W_nil (And.intro @D_nil (And.intro @wi (And.intro @nf_g (And.intro @Bool.false_and (@W_cell))))))))))))
theorem pl_red (z : Int) (d k : Nat) (h : d ≠ 0) : plZ (rz z d) (rden z d) k = plZ z d k ∧ plP (rz z d) (rden z d) k = plP z d k := by
  have h1 := rz_back (z := z) (d := d)
  have h2 := rden_back (z := z) (d := d)
  have p1 := rG_pos (z := z) h
  generalize rz z d = a at *
  generalize rden z d = b at *
  generalize rG z d = g at *
  subst h1 h2
  have e : plZ a b k = plZ (a * (g : Int)) (b * g) k := by
    unfold plZ
    rw [Int.mul_right_comm]
    exact (fdiv_scale _ p1).symm
  refine ⟨e, ?_⟩
  unfold plP
  rw [← e]
  refine decide_eq_decide.2 ?_
  rw [Int.natCast_mul, ← Int.mul_assoc, Int.mul_right_comm a]
  have hg : (g : Int) ≠ 0 := by omega
  exact ⟨fun h => by rw [h], fun h => Int.eq_of_mul_eq_mul_right hg h⟩
theorem plQ (p : Rat) (z : Int) (d k : Nat) (hd : d ≠ 0) (h : p = mkRat z d) : plZ p.num p.den k = plZ z d k ∧ plP p.num p.den k = plP z d k := by
  subst h
  rw [← r_num hd, ← r_den hd]
  exact pl_red z d k hd
theorem mid_eq (z : Int) (p : Bool) (k : Nat) : (loQ z k + loQ (hiN z p) k) / 2 = mkRat (z + hiN z p) (2 ^ (k + 1)) := by
  rw [← mk_mid z (hiN z p) (two_ne k) (two_ne k), Rat.mkRat_eq_iff (by have := two_ne k; have := Nat.mul_ne_zero this this; omega) (two_ne (k + 1))]
  rw [Nat.pow_succ, ← Int.add_mul, Int.natCast_mul, Int.natCast_mul, Int.natCast_mul]
  simp only [Int.mul_assoc]
theorem mid_R (z : Int) (p : Bool) (k m : Nat) (hz : z.natAbs < B ^ m) (hk : k ≤ 1048576) (hm : 20000 ≤ m) : Rr (rN ((loQ z k + loQ (hiN z p) k) / 2).num ((loQ z k + loQ (hiN z p) k) / 2).den) ((loQ z k + loQ (hiN z p) k) / 2) (m + 2) := by
  rw [mid_eq]
  obtain ⟨_, _, e3⟩ := rv_q (z := z + hiN z p) (d := 2 ^ (k + 1)) (m := m + 2) (two_ne (k + 1)) rfl (Nat.lt_of_le_of_lt (Int.natAbs_add_le _ _) (padd (pup hz (Nat.le_succ m)) (hiN_abs hz))) (pow2_B (k + 1) (by omega))
  exact e3
theorem up_law (z : Int) (p : Bool) (k : Nat) (hk : 0 < k) : plZ ((loQ z k + loQ (hiN z p) k) / 2).num ((loQ z k + loQ (hiN z p) k) / 2).den (k - 1) = z.fdiv 2 ∧ plP ((loQ z k + loQ (hiN z p) k) / 2).num ((loQ z k + loQ (hiN z p) k) / 2).den (k - 1) = (p && decide (z % 2 = 0)) := by
  have hM := mid_eq z p k
  obtain ⟨h1, h2⟩ := plQ _ _ _ (k - 1) (two_ne (k + 1)) hM
  rw [h1, h2]
  have key : plZ (z + hiN z p) (2 ^ (k + 1)) (k - 1) = (z + hiN z p).fdiv 4 := by
    unfold plZ
    have e : 2 ^ (k + 1) = 4 * 2 ^ (k - 1) := by rw [show k + 1 = (k - 1) + 2 from by omega, Nat.pow_add, Nat.mul_comm]
    have e2 : (2 : Int) ^ (k - 1) = ((2 ^ (k - 1) : Nat) : Int) := (Int.natCast_pow 2 (k - 1)).symm
    rw [e, e2]
    exact fdiv_scale (d := 4) _ (Nat.two_pow_pos _)
  have key2 : plP (z + hiN z p) (2 ^ (k + 1)) (k - 1) = decide ((z + hiN z p).fdiv 4 * 4 = z + hiN z p) := by
    unfold plP
    rw [key]
    refine decide_eq_decide.2 ?_
    have e : ((2 ^ (k + 1) : Nat) : Int) = 4 * 2 ^ (k - 1) := by
      rw [show k + 1 = (k - 1) + 2 from by omega, Nat.pow_add, Nat.mul_comm, Int.natCast_mul, Int.natCast_pow]; rfl
    rw [e, ← Int.mul_assoc]
    have hp : (2 : Int) ^ (k - 1) ≠ 0 := Int.ne_of_gt (Int.pow_pos (by decide))
    exact ⟨fun h => Int.eq_of_mul_eq_mul_right hp h, fun h => by rw [h]⟩
  rw [key, key2, Int.fdiv_eq_ediv_of_nonneg _ (by decide), Int.fdiv_eq_ediv_of_nonneg _ (by decide)]
  unfold hiN
  cases p
  · simp only [Bool.false_eq_true, if_false, Bool.false_and, decide_eq_false_iff_not]
    omega
  · simp only [if_true, Bool.true_and, decide_eq_decide]
    omega
end Go.Proofs.YtfcpigjmagbnkaaGreatDoor
