/-
  QqForms: the law's walk.
-/
import Derived.Test.YtlhadigkmlldeaaGreatDoorQD
namespace Go.Proofs.YtlhadigkmlldeaaGreatDoor
open Go Go.RowKit Ab
set_option linter.unusedSimpArgs false
set_option linter.unusedVariables false
set_option maxHeartbeats 10000000
theorem bz_LQForms : type_of% (And.intro @W_len (And.intro @D_len (And.intro @Nat.div_one (And.intro @Nat.mul_one (And.intro @tn_nat (And.intro @W_nf (And.intro @D_nf (And.intro @W_nil (And.intro @D_nil (And.intro @wi (And.intro @nf_g (And.intro @Bool.false_and (@W_cell))))))))))))) := And.intro @W_len (And.intro @D_len (And.intro @Nat.div_one (And.intro @Nat.mul_one (And.intro @tn_nat (And.intro @W_nf (And.intro @D_nf (And.intro @W_nil (And.intro @D_nil (And.intro @wi (And.intro @nf_g (And.intro @Bool.false_and (@W_cell))))))))))))

theorem take12 {x : List Nat} (h : Wd x) : ∃ y, x.take 12 = y ∧ Wd y ∧ y.length ≤ 12 := ⟨_, rfl, Wd_take h 12, by rw [List.length_take]; omega⟩
theorem RV_rN {z : Int} {d m : Nat} (hz : z.natAbs < B ^ m) (hd : d < B ^ m) : RV (rN (rz z d) (rden z d)) m :=
  ⟨_, _, _, rfl, Wd_dg _, Wd_dg _, dlen (by rw [rz_abs]; exact Nat.lt_of_le_of_lt (Nat.div_le_self _ _) hz), dlen (Nat.lt_of_le_of_lt (Nat.div_le_self _ _) hd)⟩
theorem RV_dy {z e : Int} {m : Nat} (hz : z.natAbs < B ^ m) (hm : 16385 ≤ m) : RV (dyV z e) (m + 16384) := by
  unfold dyV
  split
  · exact ⟨false, [], [], rfl, Wd_nil, Wd_nil, Nat.zero_le _, Nat.zero_le _⟩
  · split
    · exact RV_rN (pup hz (by omega)) (pup (two_lt _) (by omega))
    · refine RV_rN ?_ (pup (k := 1) (by decide : (1 : Nat) < B ^ 1) (by omega))
      rw [Int.natAbs_mul, Int.natAbs_pow]
      exact shl_len hz (by omega)
-- surd/surdlaw08.QqForms
def a4 : AC := .seq (.reg [⟨some 1, none, .bx 30 (.t 0)⟩,
 ⟨some 2, none, .mv (.k (.b false))⟩])
 (.seq (.seq (.reg [⟨some 9, none, .call 9 []⟩,
 ⟨some 10, none, .un .not (.t 9)⟩])
 (.cond (.t 10)
 (.seq (.reg [⟨some 2, none, .mv (.k (.b false))⟩])
 (.ret))
 (.skip)))
 (.seq (.reg [⟨some 11, none, .ld true 18 (.t 1)⟩,
 ⟨some 12, none, .call 10 [(1, (.t 11))]⟩,
 ⟨none, none, .st 18 (.t 1) (.t 12)⟩])
 (.seq (.seq (.dreg [⟨some 13, none, .fad 0 (.t 1)⟩,
 ⟨some 14, none, .ld true 3 (.t 13)⟩,
 ⟨some 15, none, .call 23 [(1, (.t 14))]⟩,
 ⟨some 16, none, .call 22 [(1, (.t 15))]⟩,
 ⟨some 17, none, .fad 0 (.t 1)⟩,
 ⟨some 18, none, .ld true 3 (.t 17)⟩,
 ⟨some 19, none, .call 24 [(1, (.t 18))]⟩,
 ⟨some 20, none, .bin .neq (.t 16) (.t 19)⟩])
 (.cond (.t 20)
 (.seq (.reg [⟨some 2, none, .mv (.k (.b false))⟩])
 (.ret))
 (.skip)))
 (.seq (.reg [⟨some 22, none, .fad 0 (.t 1)⟩,
 ⟨some 23, none, .ld true 3 (.t 22)⟩,
 ⟨some 24, none, .call 23 [(1, (.t 23))]⟩,
 ⟨some 25, none, .call 25 [(1, (.t 24))]⟩,
 ⟨some 21, none, .mv (.t 25)⟩,
 ⟨some 26, none, .ext (.t 21) 0⟩,
 ⟨some 27, none, .ext (.t 21) 1⟩,
 ⟨some 3, none, .al 27 [(.b false), (.l 1 []), (.l 1 [])]⟩,
 ⟨none, none, .st 3 (.t 3) (.t 26)⟩,
 ⟨some 4, none, .mv (.t 27)⟩])
 (.seq (.reg [⟨some 29, none, .fad 0 (.t 1)⟩,
 ⟨some 30, none, .ld true 3 (.t 29)⟩,
 ⟨some 31, none, .call 26 [(1, (.t 30))]⟩,
 ⟨some 28, none, .mv (.t 31)⟩,
 ⟨some 32, none, .ext (.t 28) 0⟩,
 ⟨some 33, none, .ext (.t 28) 1⟩,
 ⟨some 5, none, .al 27 [(.b false), (.l 1 []), (.l 1 [])]⟩,
 ⟨none, none, .st 3 (.t 5) (.t 32)⟩,
 ⟨some 6, none, .mv (.t 33)⟩])
 (.seq (.seq (.reg [⟨some 34, none, .ld true 3 (.t 3)⟩,
 ⟨some 35, none, .ld true 3 (.t 5)⟩,
 ⟨some 36, none, .mv (.t 4)⟩,
 ⟨some 37, none, .mv (.t 6)⟩,
 ⟨some 38, none, .call 27 [(1, (.t 34)), (1, (.t 35)), (1, (.t 36)), (1, (.t 37))]⟩,
 ⟨some 39, none, .un .not (.t 38)⟩])
 (.cond (.t 39)
 (.seq (.reg [⟨some 2, none, .mv (.k (.b false))⟩])
 (.ret))
 (.skip)))
 (.seq (.dreg [⟨some 41, none, .fad 9 (.t 1)⟩,
 ⟨some 42, none, .ld true 2 (.t 41)⟩,
 ⟨some 43, none, .call 29 [(1, (.t 42))]⟩,
 ⟨some 44, none, .fad 11 (.t 1)⟩,
 ⟨some 45, none, .ld true 2 (.t 44)⟩,
 ⟨some 46, none, .call 29 [(1, (.t 45))]⟩,
 ⟨some 47, none, .call 28 [(1, (.t 43)), (1, (.t 46))]⟩,
 ⟨some 40, none, .mv (.t 47)⟩,
 ⟨some 48, none, .ext (.t 40) 0⟩,
 ⟨some 49, none, .ext (.t 40) 1⟩,
 ⟨none, none, .st 3 (.t 3) (.t 48)⟩,
 ⟨some 4, none, .mv (.t 49)⟩])
 (.seq (.reg [⟨some 51, none, .fad 9 (.t 1)⟩,
 ⟨some 52, none, .ld true 2 (.t 51)⟩,
 ⟨some 53, none, .fad 11 (.t 1)⟩,
 ⟨some 54, none, .ld true 2 (.t 53)⟩,
 ⟨some 55, none, .call 30 [(1, (.t 52)), (1, (.t 54))]⟩,
 ⟨some 50, none, .mv (.t 55)⟩,
 ⟨some 56, none, .ext (.t 50) 0⟩,
 ⟨some 57, none, .ext (.t 50) 1⟩,
 ⟨none, none, .st 3 (.t 5) (.t 56)⟩,
 ⟨some 6, none, .mv (.t 57)⟩])
 (.seq (.seq (.reg [⟨some 58, none, .ld true 3 (.t 3)⟩,
 ⟨some 59, none, .ld true 3 (.t 5)⟩,
 ⟨some 60, none, .mv (.t 4)⟩,
 ⟨some 61, none, .mv (.t 6)⟩,
 ⟨some 62, none, .call 27 [(1, (.t 58)), (1, (.t 59)), (1, (.t 60)), (1, (.t 61))]⟩,
 ⟨some 63, none, .un .not (.t 62)⟩])
 (.cond (.t 63)
 (.seq (.reg [⟨some 2, none, .mv (.k (.b false))⟩])
 (.ret))
 (.skip)))
 (.seq (.reg [⟨some 65, none, .fad 13 (.t 1)⟩,
 ⟨some 66, none, .ld false 1 (.t 65)⟩,
 ⟨some 67, none, .fad 14 (.t 1)⟩,
 ⟨some 68, none, .ld false 1 (.t 67)⟩,
 ⟨some 69, none, .call 31 [(1, (.t 66)), (1, (.t 68))]⟩,
 ⟨some 64, none, .mv (.t 69)⟩,
 ⟨some 70, none, .ext (.t 64) 0⟩,
 ⟨some 71, none, .ext (.t 64) 1⟩,
 ⟨none, none, .st 3 (.t 3) (.t 70)⟩,
 ⟨some 4, none, .mv (.t 71)⟩])
 (.seq (.reg [⟨some 73, none, .fad 13 (.t 1)⟩,
 ⟨some 74, none, .ld false 1 (.t 73)⟩,
 ⟨some 75, none, .fad 14 (.t 1)⟩,
 ⟨some 76, none, .ld false 1 (.t 75)⟩,
 ⟨some 77, none, .call 32 [(1, (.t 74)), (1, (.t 76))]⟩,
 ⟨some 72, none, .mv (.t 77)⟩,
 ⟨some 78, none, .ext (.t 72) 0⟩,
 ⟨some 79, none, .ext (.t 72) 1⟩,
 ⟨none, none, .st 3 (.t 5) (.t 78)⟩,
 ⟨some 6, none, .mv (.t 79)⟩])
 (.seq (.seq (.reg [⟨some 80, none, .ld true 3 (.t 3)⟩,
 ⟨some 81, none, .ld true 3 (.t 5)⟩,
 ⟨some 82, none, .mv (.t 4)⟩,
 ⟨some 83, none, .mv (.t 6)⟩,
 ⟨some 84, none, .call 27 [(1, (.t 80)), (1, (.t 81)), (1, (.t 82)), (1, (.t 83))]⟩,
 ⟨some 85, none, .un .not (.t 84)⟩])
 (.cond (.t 85)
 (.seq (.reg [⟨some 2, none, .mv (.k (.b false))⟩])
 (.ret))
 (.skip)))
 (.seq (.dreg [⟨some 87, none, .fad 9 (.t 1)⟩,
 ⟨some 88, none, .ld true 2 (.t 87)⟩,
 ⟨some 89, none, .call 29 [(1, (.t 88))]⟩,
 ⟨some 90, none, .fad 15 (.t 1)⟩,
 ⟨some 91, none, .ld false 1 (.t 90)⟩,
 ⟨some 92, none, .call 34 [(1, (.t 91))]⟩,
 ⟨some 93, none, .call 33 [(1, (.t 89)), (1, (.t 92))]⟩,
 ⟨some 86, none, .mv (.t 93)⟩,
 ⟨some 94, none, .ext (.t 86) 0⟩,
 ⟨some 95, none, .ext (.t 86) 1⟩,
 ⟨none, none, .st 3 (.t 3) (.t 94)⟩,
 ⟨some 4, none, .mv (.t 95)⟩])
 (.seq (.dreg [⟨some 97, none, .fad 9 (.t 1)⟩,
 ⟨some 98, none, .ld true 2 (.t 97)⟩,
 ⟨some 99, none, .fad 15 (.t 1)⟩,
 ⟨some 100, none, .ld false 1 (.t 99)⟩,
 ⟨some 101, none, .call 34 [(1, (.t 100))]⟩,
 ⟨some 102, none, .call 35 [(1, (.t 98)), (1, (.t 101))]⟩,
 ⟨some 96, none, .mv (.t 102)⟩,
 ⟨some 103, none, .ext (.t 96) 0⟩,
 ⟨some 104, none, .ext (.t 96) 1⟩,
 ⟨none, none, .st 3 (.t 5) (.t 103)⟩,
 ⟨some 6, none, .mv (.t 104)⟩])
 (.seq (.seq (.reg [⟨some 105, none, .ld true 3 (.t 3)⟩,
 ⟨some 106, none, .ld true 3 (.t 5)⟩,
 ⟨some 107, none, .mv (.t 4)⟩,
 ⟨some 108, none, .mv (.t 6)⟩,
 ⟨some 109, none, .call 27 [(1, (.t 105)), (1, (.t 106)), (1, (.t 107)), (1, (.t 108))]⟩,
 ⟨some 110, none, .un .not (.t 109)⟩])
 (.cond (.t 110)
 (.seq (.reg [⟨some 2, none, .mv (.k (.b false))⟩])
 (.ret))
 (.skip)))
 (.seq (.dreg [⟨some 112, none, .fad 0 (.t 1)⟩,
 ⟨some 113, none, .ld true 3 (.t 112)⟩,
 ⟨some 114, none, .call 23 [(1, (.t 113))]⟩,
 ⟨some 115, none, .fad 3 (.t 1)⟩,
 ⟨some 116, none, .ld true 3 (.t 115)⟩,
 ⟨some 117, none, .call 23 [(1, (.t 116))]⟩,
 ⟨some 118, none, .call 13 [(1, (.t 114)), (1, (.t 117))]⟩,
 ⟨some 111, none, .mv (.t 118)⟩,
 ⟨some 119, none, .ext (.t 111) 0⟩,
 ⟨some 120, none, .ext (.t 111) 1⟩,
 ⟨some 7, none, .mv (.t 119)⟩,
 ⟨some 4, none, .mv (.t 120)⟩])
 (.seq (.reg [⟨some 122, none, .fad 0 (.t 1)⟩,
 ⟨some 123, none, .ld true 3 (.t 122)⟩,
 ⟨some 124, none, .fad 3 (.t 1)⟩,
 ⟨some 125, none, .ld true 3 (.t 124)⟩,
 ⟨some 126, none, .call 36 [(1, (.t 123)), (1, (.t 125))]⟩,
 ⟨some 121, none, .mv (.t 126)⟩,
 ⟨some 127, none, .ext (.t 121) 0⟩,
 ⟨some 128, none, .ext (.t 121) 1⟩,
 ⟨some 8, none, .mv (.t 127)⟩,
 ⟨some 6, none, .mv (.t 128)⟩])
 (.seq (.seq (.reg [⟨some 129, none, .mv (.t 7)⟩,
 ⟨some 130, none, .mv (.t 8)⟩,
 ⟨some 131, none, .bin .neq (.t 129) (.t 130)⟩,
 ⟨some 132, none, .mv (.t 131)⟩,
 ⟨some 133, some (132, false), .mv (.t 4)⟩,
 ⟨some 134, some (132, false), .mv (.t 6)⟩,
 ⟨some 135, some (132, false), .bin .neq (.t 133) (.t 134)⟩,
 ⟨some 136, none, .pick (.t 132) (.k (.b true)) (.t 135)⟩])
 (.cond (.t 136)
 (.seq (.reg [⟨some 2, none, .mv (.k (.b false))⟩])
 (.ret))
 (.skip)))
 (.seq (.reg [⟨some 138, none, .fad 0 (.t 1)⟩,
 ⟨some 139, none, .ld true 3 (.t 138)⟩,
 ⟨some 140, none, .call 23 [(1, (.t 139))]⟩,
 ⟨some 141, none, .call 37 [(1, (.t 140))]⟩,
 ⟨some 137, none, .mv (.t 141)⟩,
 ⟨some 142, none, .ext (.t 137) 0⟩,
 ⟨some 143, none, .ext (.t 137) 1⟩,
 ⟨some 7, none, .mv (.t 142)⟩,
 ⟨some 4, none, .mv (.t 143)⟩])
 (.seq (.reg [⟨some 145, none, .fad 0 (.t 1)⟩,
 ⟨some 146, none, .ld true 3 (.t 145)⟩,
 ⟨some 147, none, .call 38 [(1, (.t 146))]⟩,
 ⟨some 144, none, .mv (.t 147)⟩,
 ⟨some 148, none, .ext (.t 144) 0⟩,
 ⟨some 149, none, .ext (.t 144) 1⟩,
 ⟨some 8, none, .mv (.t 148)⟩,
 ⟨some 6, none, .mv (.t 149)⟩])
 (.seq (.reg [⟨some 150, none, .mv (.t 7)⟩,
 ⟨some 151, none, .mv (.t 8)⟩,
 ⟨some 152, none, .bin .eql (.t 150) (.t 151)⟩,
 ⟨some 153, none, .mv (.t 152)⟩,
 ⟨some 154, some (153, true), .mv (.t 4)⟩,
 ⟨some 155, some (153, true), .mv (.t 6)⟩,
 ⟨some 156, some (153, true), .bin .eql (.t 154) (.t 155)⟩,
 ⟨some 157, none, .pick (.t 153) (.t 156) (.k (.b false))⟩,
 ⟨some 2, none, .mv (.t 157)⟩])
 (.ret))))))))))))))))))))))
theorem qqForms_spec (s0 s1 s2 s3 s4 : Bool) (aa0 d0 aa1 d1 aa2 d2 aa3 aa4 : List Nat) (n m k : Int) (l : List (Bool × List Nat × List Nat)) (st : List UInt8)
    (wa0 : Wd aa0) (wd0 : Wd d0) (wa1 : Wd aa1) (wd1 : Wd d1) (wa2 : Wd aa2) (wd2 : Wd d2) (wa3 : Wd aa3) (wa4 : Wd aa4) (n1 : -9223372036854775808 ≤ n) (n2 : n < 9223372036854775808) (m1 : -9223372036854775808 ≤ m) (m2 : m < 9223372036854775808) (k1 : -9223372036854775808 ≤ k) (k2 : k < 9223372036854775808) :
    AFun Tryz.prog J0 4 [caseV s0 s1 s2 s3 s4 aa0 d0 aa1 d1 aa2 d2 aa3 aa4 n m k l st] (.b true) := by
  have hl := lless_spec s0 s1 s2 s3 s4 aa0 d0 aa1 d1 aa2 d2 aa3 aa4 n m k l st
  obtain ⟨b0, e, vb0, lb0⟩ := take12 wa0; rw [e] at hl
  obtain ⟨e0, e, ve0, le0⟩ := take12 wd0; rw [e] at hl
  obtain ⟨b1, e, vb1, lb1⟩ := take12 wa1; rw [e] at hl
  obtain ⟨e1, e, ve1, le1⟩ := take12 wd1; rw [e] at hl
  obtain ⟨b2, e, vb2, lb2⟩ := take12 wa2; rw [e] at hl
  obtain ⟨e2, e, ve2, le2⟩ := take12 wd2; rw [e] at hl
  obtain ⟨b3, e, vb3, lb3⟩ := take12 wa3; rw [e] at hl
  obtain ⟨b4, e, vb4, lb4⟩ := take12 wa4; rw [e] at hl
  clear wa0 wd0 wa1 wd1 wa2 wd2 wa3 wa4
  have cA := lc_spec s0 b0 e0 (by omega) (by omega)
  have cB := lc_spec s1 b1 e1 (by omega) (by omega)
  have cI := hcopyI_spec s3 b3 (by omega)
  have cJ := hcopyI_spec s4 b4 (by omega)
  have p1 := qcheck_spec s0 b0 e0 ve0 (by omega)
  have p2 := rCheck_spec s0 b0 e0 ve0 (by omega)
  have q1 := qnorm_spec s0 b0 e0 12 (by decide) vb0 ve0 lb0 le0
  have q2 := rNorm_spec s0 b0 e0 12 (by decide) vb0 ve0 lb0 le0
  obtain ⟨qs, qa, qd, ev, _, _, ql, qm⟩ := RV_rv (zv_lt (s := s0) vb0 lb0) (nvlt ve0 le0)
  rw [ev] at q1 q2
  have q3 := lsame_true qs qa qd (by omega) (by omega) (re (nv B e0))
  have hmz : ∀ (x y : Int) (j : Nat), x.natAbs < B ^ j → (mz x y).natAbs < B ^ j := fun x y j h => by unfold mz; split; (rw [Int.natAbs_neg]; exact h); exact h
  have r1 := qmake_spec s3 s4 b3 b4 12 (by decide) vb3 vb4 lb3 lb4
  have r2 := rMake_spec s3 s4 b3 b4 12 (by decide) vb3 vb4 lb3 lb4
  obtain ⟨rs, ra, rd, ev, _, _, rl, rm⟩ := RV_rv (hmz _ (zv s4 b4) _ (zv_lt (s := s3) vb3 lb3)) (nvlt vb4 lb4)
  rw [ev] at r1 r2
  have r3 := lsame_true rs ra rd (by omega) (by omega) (re (nv B b4))
  have t1 := qof_spec n m n1 n2 m1 m2
  have t2 := rOf_spec n m n1 n2 m1 m2
  obtain ⟨ts, ta, td, ev, _, _, tl, tm⟩ := RV_rv (hmz _ m _ (int_w1 n1 n2)) (int_w1 m1 m2)
  rw [ev] at t1 t2
  have t3 := lsame_true ts ta td (by omega) (by omega) (re m.natAbs)
  have nk := lnear_spec k k1 k2
  have u1 := qdy_spec s3 b3 (nr k) 16385 (by decide) (by decide) vb3 (by omega)
  have u2 := rdy_spec s3 b3 (nr k) 16385 (by decide) (by decide) vb3 (by omega)
  obtain ⟨us, ua, ud, ev, _, _, ul, um⟩ := RV_dy (e := nr k) (zv_lt (s := s3) vb3 (Nat.le_trans lb3 (by decide : 12 ≤ 16385))) (Nat.le_refl _)
  rw [ev] at u1 u2
  have u3 := lsame_true us ua ud (by omega) (by omega) (dyE (nr k))
  have v1 := qcmp_spec s0 s1 b0 b1 e0 e1 12 (by decide) vb0 vb1 ve0 ve1 lb0 lb1 le0 le1
  have v2 := rCmp_spec s0 s1 b0 b1 e0 e1 12 (by decide) vb0 vb1 ve0 ve1 lb0 lb1 le0 le1
  have x1 := qsign_spec s0 b0 e0 12 (by decide) vb0 ve0 lb0 le0
  have x2 := rSign_spec s0 b0 e0 12 (by decide) vb0 ve0 lb0 le0
  generalize (if nv B e0 = 0 then (1 : Int) else 0) = y1 at *
  generalize re (nv B b4) = y5 at *
  generalize re m.natAbs = y7 at *
  generalize dyE (nr k) = y9 at *
  generalize nr k = y10 at *
  generalize (if nv B e0 * nv B e1 = 0 then (0 : Int) else cz (zv s0 b0 * (nv B e1 : Int)) (zv s1 b1 * (nv B e0 : Int))) = y11 at *
  generalize (if nv B e0 = 0 then (0 : Int) else sgz (zv s0 b0)) = y13 at *
  generalize re (nv B e0 * nv B e1) = y12 at *
  generalize re (nv B e0) = y3 at *
  have hf := lfixed_spec
  clear hmz
  refine AFun.mk fol J0s Tryz.func4 rfl (ac := a4) (by kernel_rfl) rfl rfl rfl ?_
  apply vm_start
  unfold a4
  simp only [init_eq, initE]
  exact wdQ (ai @eqsA @bz_LQForms)
end Go.Proofs.YtlhadigkmlldeaaGreatDoor
