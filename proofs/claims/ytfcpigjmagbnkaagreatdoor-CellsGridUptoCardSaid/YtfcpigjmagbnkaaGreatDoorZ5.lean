/-
  zz, surdref07: quotients.
-/
import Derived.Test.YtfcpigjmagbnkaaGreatDoorZ4
namespace Go.Proofs.YtfcpigjmagbnkaaGreatDoor
open Go Go.RowKit Ab
set_option linter.unusedSimpArgs false
set_option linter.unusedVariables false
set_option maxHeartbeats 10000000
theorem bz_Z5 : type_of% (And.intro @Bool.false_and (And.intro @wi (And.intro @tn_nat (And.intro @Nat.div_one (And.intro @Nat.mul_one (And.intro @W_len (And.intro @W_nf (And.intro @W_cell (And.intro @W_nil (And.intro @W_get (@nf_g))))))))))) := And.intro @Bool.false_and (And.intro @wi (And.intro @tn_nat (And.intro @Nat.div_one (And.intro @Nat.mul_one (And.intro @W_len (And.intro @W_nf (And.intro @W_cell (And.intro @W_nil (And.intro @W_get (@nf_g))))))))))
theorem sgz_neg {z : Int} : (sgz z < 0) = (z < 0) := by
  unfold sgz; split
  · rename_i h; exact propext ⟨fun _ => h, fun _ => by decide⟩
  · rename_i h; split <;> exact propext ⟨fun h' => absurd h' (by decide), fun h' => absurd h' h⟩
theorem fdiv_eq' (x y : Int) (h : y ≠ 0) : x.fdiv y = if sgz (x.tmod y) * sgz y < 0 then x.tdiv y - 1 else x.tdiv y := by
  rw [fdiv_eq x y h]
  have sn : ∀ z : Int, z < 0 → sgz z = -1 := fun z h => if_pos h
  have sp : ∀ z : Int, 0 < z → sgz z = 1 := fun z h => (if_neg (by omega)).trans (if_pos h)
  by_cases h1 : x.tmod y = 0
  · rw [if_neg (fun h => h.1 h1), h1, if_neg (by show ¬ sgz 0 * _ < 0; rw [show sgz 0 = 0 from rfl, Int.zero_mul]; decide)]
  · have hx : sgz (x.tmod y) = sgz x := by
      rcases Int.lt_or_gt_of_ne h1 with h2 | h2
      · have : x < 0 := by
          rcases Int.lt_or_le x 0 with h3 | h3
          · exact h3
          · have := Int.tmod_nonneg y h3; omega
        rw [sn _ h2, sn _ this]
      · have : 0 < x := by
          rcases Int.lt_or_le 0 x with h3 | h3
          · exact h3
          · have h4 : (-x).tmod y = -(x.tmod y) := Int.neg_tmod x y
            have := Int.tmod_nonneg y (show 0 ≤ -x by omega); omega
        rw [sp _ h2, sp _ this]
    have hx0 : x ≠ 0 := fun h0 => h1 (by rw [h0, Int.zero_tmod])
    rw [hx]
    rcases Int.lt_or_gt_of_ne h with hy | hy <;> rcases Int.lt_or_gt_of_ne hx0 with h3 | h3
    · rw [sn x h3, sn y hy, if_neg (fun h => h.2 rfl), if_neg (by decide)]
    · rw [sp x h3, sn y hy, if_pos ⟨h1, by decide⟩, if_pos (by decide)]
    · rw [sn x h3, sp y hy, if_pos ⟨h1, by decide⟩, if_pos (by decide)]
    · rw [sp x h3, sp y hy, if_neg (fun h => h.2 rfl), if_neg (by decide)]
theorem ediv_eq (x y : Int) (h : y ≠ 0) : (x.tmod y < 0 → x.ediv y = x.tdiv y - sgz y ∧ x.emod y = x.tmod y + y.natAbs) ∧ (¬ x.tmod y < 0 → x.ediv y = x.tdiv y ∧ x.emod y = x.tmod y) := by
  have sg1 : y.sign = sgz y := by
    rcases Int.lt_or_gt_of_ne h with hy | hy
    · rw [Int.sign_eq_neg_one_of_neg hy]; exact (if_pos hy).symm
    · rw [Int.sign_eq_one_of_pos hy]; exact ((if_neg (by omega)).trans (if_pos hy)).symm
  refine ⟨fun hn => ?_, fun hn => ?_⟩
  · have hx : ¬ (0 ≤ x ∨ y ∣ x) := by
      rintro (h1 | h1)
      · have := Int.tmod_nonneg y h1; omega
      · rw [Int.tmod_eq_zero_of_dvd h1] at hn; omega
    refine ⟨?_, ?_⟩
    · show x / y = _
      rw [Int.ediv_eq_tdiv, if_neg hx, sg1]
    · show x % y = _
      rw [Int.emod_eq_tmod, if_neg hx]
  · have hx : 0 ≤ x ∨ y ∣ x := by
      rcases Int.lt_or_le x 0 with h1 | h1
      · right
        have h2 : (-x).tmod y = -(x.tmod y) := Int.neg_tmod x y
        have := Int.tmod_nonneg y (show 0 ≤ -x by omega)
        exact Int.dvd_of_tmod_eq_zero (by omega)
      · exact .inl h1
    refine ⟨?_, ?_⟩
    · show x / y = _
      rw [Int.ediv_eq_tdiv, if_pos hx, Int.sub_zero]
    · show x % y = _
      rw [Int.emod_eq_tmod, if_pos hx]; simp
def zdR (x y : Int) : Nat := if y = 0 then 0 else (x.emod y).natAbs
theorem zabs_pos (y : Int) : zI false y.natAbs = (y.natAbs : Int) := rfl
end Go.Proofs.YtfcpigjmagbnkaaGreatDoor
