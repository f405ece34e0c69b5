/-
  Texts: numbers in base ten, integers, rationals, by the program and by the document.
-/
import Derived.Test.YtgejbndgakgfnaaGreatDoorQ20
import Derived.Test.YtgejbndgakgfnaaGreatDoorRT
namespace Go.Proofs.YtgejbndgakgfnaaGreatDoor
open Go Go.RowKit Ab
set_option linter.unusedSimpArgs false
set_option linter.unusedVariables false
set_option maxHeartbeats 10000000
theorem bz_Q24 : type_of% (And.intro @W_len (And.intro @D_len (And.intro @Nat.div_one (And.intro @Nat.mul_one (And.intro @tn_nat (And.intro @W_nf (And.intro @D_nf (And.intro @W_nil (And.intro @D_nil (And.intro @wi (And.intro @nf_g (And.intro @Bool.false_and (And.intro @W_cell (@W_get)))))))))))))) := And.intro @W_len (And.intro @D_len (And.intro @Nat.div_one (And.intro @Nat.mul_one (And.intro @tn_nat (And.intro @W_nf (And.intro @D_nf (And.intro @W_nil (And.intro @D_nil (And.intro @wi (And.intro @nf_g (And.intro @Bool.false_and (And.intro @W_cell (@W_get)))))))))))))
def qS (z : Int) (d : Nat) : List UInt8 := if d ≤ 1 then zS z else zS z ++ 47 :: decS d
def qpV (z : Int) (d : Nat) : List UInt8 := if d = 0 then [] else qS (rz z d) (rden z d)
theorem bl_gt1 {d : Nat} : (1 < bl d) = (1 < d) := by
  refine propext ⟨fun h => ?_, fun h => ?_⟩
  · rcases Nat.lt_or_ge 1 d with h1 | h1
    · exact h1
    · have : d = 0 ∨ d = 1 := by omega
      rcases this with rfl | rfl
      · rw [bl_0] at h; omega
      · rw [bl_uniq (x := 1) (k := 0) (by decide) (by decide)] at h; omega
  · have h1 := (bl_le (x := d) (by omega)).2
    rcases Nat.lt_or_ge 1 (bl d) with h2 | h2
    · exact h2
    · have h3 := bl_lt d
      rw [show bl d = 1 from by omega] at h3
      omega
theorem qprint_spec (s : Bool) (a d : List Nat) (m : Nat) (hm : m ≤ 10000000) (ha : Wd a) (hd : Wd d) (la : a.length ≤ m) (ld : d.length ≤ m) : AFun Tryz.prog J0 32 [rL s a d] (.t [.s (qpV (zv s a) (nv B d)), .i .i64 (re (nv B d))]) := by
  have h1 := qnorm_spec s a d m (by omega) ha hd la ld
  unfold qpV
  by_cases h0 : nv B d = 0
  · rw [if_pos h0]
    rw [h0, rv_0, re_0] at h1
    rw [h0, re_0]
    refine mkQ fol J0s Tryz.func32 a32 ?_
    unfold a32
    simp only [init_eq, initE, qm, qr, qn]
    exact wdQ @bz_Q24
  · rw [if_neg h0]
    rw [rv_p _ h0, re_p h0] at h1
    rw [re_p h0]
    have b1 : (rz (zv s a) (nv B d)).natAbs < B ^ m := Nat.lt_of_le_of_lt (rz_le' _ _) (zv_lt ha la)
    have b2 : rden (zv s a) (nv B d) < B ^ m := Nat.lt_of_le_of_lt (rden_le _ _) (nvlt hd ld)
    generalize rz (zv s a) (nv B d) = x at *
    generalize rden (zv s a) (nv B d) = y at *
    have h2 := zprint_spec (decide (x < 0)) (dg B x.natAbs) m hm (Wd_dg _) (dlen b1)
    rw [zv_N] at h2
    have h3 := natBits_spec (dg B y) (Wd_dg _) (Nat.le_trans (dlen b2) (by omega))
    rw [nv_dgB] at h3
    have h4 := format_spec (dg B y) m hm (Wd_dg _) (dlen b2)
    rw [nv_dgB] at h4
    have l1 := zS_len b1
    have l2 := decS_len b2
    have eb := bl_gt1 (d := y)
    unfold qS
    generalize zS x = u at *
    generalize decS y = v at *
    by_cases h : y ≤ 1
    · rw [if_pos h]
      have g : ¬ (1 : Int) < ((bl y : Nat) : Int) := by
        intro h5
        have : 1 < bl y := by omega
        rw [eb] at this; omega
      generalize bl y = bb at *
      refine mkQ fol J0s Tryz.func32 a32 ?_
      unfold a32
      simp only [init_eq, initE, qm, qr, qn]
      exact wdQ (ai @g @bz_Q24)
    · rw [if_neg h]
      have g : (1 : Int) < ((bl y : Nat) : Int) := by
        have : 1 < bl y := by rw [eb]; omega
        omega
      have e1 : ([47] : List UInt8).length + v.length ≤ 9223372036854775807 := by rw [List.length_singleton]; omega
      have e2 : u.length + (([47] : List UInt8) ++ v).length ≤ 9223372036854775807 := by rw [List.length_append, List.length_singleton]; omega
      have e3 : ([47] : List UInt8) ++ v = 47 :: v := rfl
      generalize bl y = bb at *
      rw [e3] at e2
      refine mkQ fol J0s Tryz.func32 a32 ?_
      unfold a32
      simp only [init_eq, initE, qm, qr, qn]
      exact wdQ (ai @e3 (ai @e2 (ai @e1 (ai @g @bz_Q24))))
end Go.Proofs.YtgejbndgakgfnaaGreatDoor
