/-
  CellsGrid: the law's walk.
-/
import Derived.Test.YtfcpigjmagbnkaaGreatDoorLCForms
namespace Go.Proofs.YtfcpigjmagbnkaaGreatDoor
open Go Go.RowKit Ab
set_option linter.unusedSimpArgs false
set_option linter.unusedVariables false
set_option maxHeartbeats 10000000
theorem bz_LCGrid : type_of% (And.intro @W_len (And.intro @D_len (And.intro @Nat.div_one (And.intro @Nat.mul_one (And.intro @tn_nat (And.intro @W_nf (And.intro @D_nf (And.intro @W_nil (And.intro @D_nil (And.intro @wi (And.intro @nf_g (And.intro @Bool.false_and (@W_cell))))))))))))) := And.intro @W_len (And.intro @D_len (And.intro @Nat.div_one (And.intro @Nat.mul_one (And.intro @tn_nat (And.intro @W_nf (And.intro @D_nf (And.intro @W_nil (And.intro @D_nil (And.intro @wi (And.intro @nf_g (And.intro @Bool.false_and (@W_cell))))))))))))
theorem pl_law {z : Int} {d k : Nat} (hd : d ≠ 0) : plZ z d k * (d : Int) ≤ z * 2 ^ k ∧ z * 2 ^ k < (plZ z d k + 1) * (d : Int) ∧ (plP z d k = true ↔ plZ z d k * (d : Int) = z * 2 ^ k) := by
  unfold plP
  obtain ⟨h1, h2⟩ := fdiv_le (y := z * 2 ^ k) hd
  exact ⟨h1, h2, by rw [decide_eq_true_eq]⟩
theorem pl_cmp {z : Int} {d k : Nat} (hd : d ≠ 0) (x : Int) : (loQ x k < mkRat z d ↔ x * (d : Int) < z * 2 ^ k) ∧ (loQ x k = mkRat z d ↔ x * (d : Int) = z * 2 ^ k) ∧ (mkRat z d < loQ x k ↔ z * 2 ^ k < x * (d : Int)) := by
  have e : ((2 ^ k : Nat) : Int) = 2 ^ k := Int.natCast_pow 2 k
  rw [lt_q (two_ne k) hd, lt_q hd (two_ne k), Rat.mkRat_eq_iff (two_ne k) hd, e]
  exact ⟨Iff.rfl, Iff.rfl, Iff.rfl⟩
theorem in_law {z : Int} {d k : Nat} (hd : d ≠ 0) : (plP z d k = true → loQ (plZ z d k) k = mkRat z d) ∧ (plP z d k = false → loQ (plZ z d k) k < mkRat z d ∧ mkRat z d < loQ (plZ z d k + 1) k) := by
  obtain ⟨h1, h2, h3⟩ := pl_law (z := z) (k := k) hd
  obtain ⟨c1, c2, _⟩ := pl_cmp (z := z) (k := k) hd (plZ z d k)
  obtain ⟨_, _, c3⟩ := pl_cmp (z := z) (k := k) hd (plZ z d k + 1)
  refine ⟨fun h => c2.2 (h3.1 h), fun h => ⟨c1.2 ?_, c3.2 h2⟩⟩
  have : ¬ plZ z d k * (d : Int) = z * 2 ^ k := fun e => by rw [h3.2 e] at h; cases h
  omega
theorem cq_m {p q : Rat} (h : p < q) : cq p q = -1 := by unfold cq; rw [if_pos h]
theorem cq_z (p : Rat) : cq p p = 0 := by unfold cq; rw [if_neg Rat.lt_irrefl, if_pos rfl]
theorem cp_2' (x : Int) : cpV 0 x (!true || !false) = -1 := rfl
theorem cp_2'' (x : Int) : cpV 0 x (!false || !true) = -1 := rfl
theorem cq_p {p q : Rat} (h : q < p) : cq p q = 1 := by unfold cq; grind
theorem pl_own (x : Int) (k : Nat) : plZ (loQ x k).num (loQ x k).den k = x ∧ plP (loQ x k).num (loQ x k).den k = true := by
  obtain ⟨h1, h2⟩ := plQ (loQ x k) x (2 ^ k) k (two_ne k) rfl
  rw [h1, h2]
  have e : ((2 ^ k : Nat) : Int) = 2 ^ k := Int.natCast_pow 2 k
  have hp : (0 : Int) < 2 ^ k := Int.pow_pos (by decide)
  have e1 : plZ x (2 ^ k) k = x := by
    unfold plZ
    rw [e, Int.fdiv_eq_ediv_of_nonneg _ (Int.le_of_lt hp)]
    exact Int.mul_ediv_cancel _ (by omega)
  refine ⟨e1, ?_⟩
  unfold plP
  rw [e1, e, decide_eq_true_eq]
theorem pl_mid (z : Int) (p : Bool) (k : Nat) : plZ ((loQ z k + loQ (hiN z p) k) / 2).num ((loQ z k + loQ (hiN z p) k) / 2).den k = z ∧ plP ((loQ z k + loQ (hiN z p) k) / 2).num ((loQ z k + loQ (hiN z p) k) / 2).den k = p := by
  obtain ⟨h1, h2⟩ := plQ _ _ _ k (two_ne (k + 1)) (mid_eq z p k)
  rw [h1, h2]
  have e : 2 ^ (k + 1) = 2 * 2 ^ k := by rw [Nat.pow_succ, Nat.mul_comm]
  have e2 : (2 : Int) ^ k = ((2 ^ k : Nat) : Int) := (Int.natCast_pow 2 k).symm
  have key : plZ (z + hiN z p) (2 ^ (k + 1)) k = (z + hiN z p).fdiv 2 := by
    unfold plZ
    rw [e, e2]
    exact fdiv_scale (d := 2) _ (Nat.two_pow_pos _)
  have key2 : plP (z + hiN z p) (2 ^ (k + 1)) k = decide ((z + hiN z p).fdiv 2 * 2 = z + hiN z p) := by
    unfold plP
    rw [key]
    refine decide_eq_decide.2 ?_
    rw [e, e2, Int.natCast_mul, ← Int.mul_assoc]
    have hp : ((2 ^ k : Nat) : Int) ≠ 0 := by have := two_ne k; omega
    exact ⟨fun h => Int.eq_of_mul_eq_mul_right hp h, fun h => by rw [show ((2 : Nat) : Int) = 2 from rfl, h]⟩
  rw [key, key2, Int.fdiv_eq_ediv_of_nonneg _ (by decide)]
  unfold hiN
  cases p
  · simp only [Bool.false_eq_true, if_false, decide_eq_false_iff_not]
    omega
  · simp only [if_true, decide_eq_true_eq]
    omega
theorem pl_fine {z : Int} {d k : Nat} (hd : d ≠ 0) : (plZ z d (k + 1)).fdiv 2 = plZ z d k ∧ (plP z d (k + 1) && decide (plZ z d (k + 1) % 2 = 0)) = plP z d k := by
  obtain ⟨h1, h2, h3⟩ := pl_law (z := z) (k := k) hd
  obtain ⟨g1, g2, g3⟩ := pl_law (z := z) (k := k + 1) hd
  rw [Int.pow_succ, ← Int.mul_assoc] at g1 g2 g3
  have hp : (0 : Int) < (d : Int) := by omega
  have e1 : plZ z d k * 2 ≤ plZ z d (k + 1) := by
    have h4 : plZ z d k * 2 * (d : Int) < (plZ z d (k + 1) + 1) * (d : Int) := by rw [Int.mul_right_comm]; omega
    have := Int.lt_of_mul_lt_mul_right h4 (Int.le_of_lt hp)
    omega
  have e2 : plZ z d (k + 1) < plZ z d k * 2 + 2 := by
    have h4 : plZ z d (k + 1) * (d : Int) < (plZ z d k + 1) * 2 * (d : Int) := by rw [Int.mul_right_comm]; omega
    have := Int.lt_of_mul_lt_mul_right h4 (Int.le_of_lt hp)
    omega
  refine ⟨by rw [Int.fdiv_eq_ediv_of_nonneg _ (by decide)]; omega, ?_⟩
  have key : (plP z d (k + 1) = true ∧ plZ z d (k + 1) % 2 = 0) ↔ plP z d k = true := by
    rw [h3, g3]
    constructor
    · rintro ⟨a1, a2⟩
      have a3 : plZ z d (k + 1) = plZ z d k * 2 := by omega
      rw [a3, Int.mul_right_comm] at a1
      omega
    · intro a1
      have a3 : plZ z d k * 2 * (d : Int) = z * 2 ^ k * 2 := by rw [Int.mul_right_comm, a1]
      have a4 : plZ z d (k + 1) * (d : Int) ≤ plZ z d k * 2 * (d : Int) := by omega
      have a5 := Int.le_of_mul_le_mul_right a4 hp
      have a6 : plZ z d (k + 1) = plZ z d k * 2 := by omega
      rw [a6]
      exact ⟨a3, by omega⟩
  cases hx : plP z d k
  · have : ¬ (plP z d (k + 1) = true ∧ plZ z d (k + 1) % 2 = 0) := fun h => by rw [key.1 h] at hx; cases hx
    cases hy : plP z d (k + 1)
    · rfl
    · rw [Bool.true_and, decide_eq_false (fun h => this ⟨hy, h⟩)]
  · obtain ⟨h4, h5⟩ := key.2 hx
    rw [h4, Bool.true_and, decide_eq_true h5]
theorem mod200u (k : Int) (h1 : -9223372036854775808 ≤ k) (h2 : k < 9223372036854775808) : ∃ n : Nat, n < 200 ∧ IntKind.i64.wrap ((IntKind.u64.wrap k).tmod 200) = (n : Int) := by
  have h3 : IntKind.u64.wrap k = k % 18446744073709551616 := IntKind.wrap_u64 k
  have h4 := Int.emod_nonneg k (show (18446744073709551616 : Int) ≠ 0 by decide)
  rw [h3]
  generalize k % 18446744073709551616 = x at *
  refine ⟨(x.tmod 200).toNat, ?_, ?_⟩
  · have := Int.tmod_lt_of_pos x (show (0 : Int) < 200 by decide); omega
  · have a := Int.tmod_lt_of_pos x (show (0 : Int) < 200 by decide)
    have b := Int.tmod_nonneg 200 h4
    rw [wi (by omega)]; omega
def a4 : AC := .seq (.reg [qr 2 (.bx 27 (.t 0)),
 qr 4 (.mv (.k (.b false)))])
 (.seq (.seq (.reg [qr 29 (.call 7 []),
 qr 30 (.un .not (.t 29))])
 (.cond (.t 30)
 (.seq (.reg [qr 4 (.mv (.k (.b false)))])
 (.ret))
 (.skip)))
 (.seq (.reg [qm 31 1,
 qr 32 (.cvt .u64 (.t 31)),
 qr 33 (.bin .rem (.t 32) (.k (.i .u64 200))),
 qr 34 (.cvt .i64 (.t 33)),
 qm 1 34])
 (.seq (.seq (.reg [qr 35 (.ld true 3 (.t 2)),
 qr 36 (.call 9 [(1, (.t 35))]),
 qr 37 (.un .not (.t 36))])
 (.cond (.t 37)
 (.seq (.reg [qr 39 (.ld true 3 (.t 2)),
 qm 40 1,
 qr 41 (.call 13 [(1, (.t 39)), (1, (.t 40))]),
 qm 38 41,
 qr 42 (.ext (.t 38) 0),
 qr 43 (.ext (.t 38) 1),
 qr 5 (.al 37 [(.b false), (.l 1 []), (.i .i64 0), (.b false)]),
 qn (.st 4 (.t 5) (.t 42)),
 qm 6 43])
 (.seq (.reg [qm 44 6,
 qr 45 (.bin .eql (.t 44) (.k (.i .i64 1))),
 qm 4 45])
 (.ret)))
 (.skip)))
 (.seq (.reg [qr 47 (.ld true 3 (.t 2)),
 qm 48 1,
 qr 49 (.call 13 [(1, (.t 47)), (1, (.t 48))]),
 qm 46 49,
 qr 50 (.ext (.t 46) 0),
 qr 51 (.ext (.t 46) 1),
 qr 7 (.al 37 [(.b false), (.l 1 []), (.i .i64 0), (.b false)]),
 qn (.st 4 (.t 7) (.t 50)),
 qm 8 51])
 (.seq (.reg [qr 53 (.ld true 3 (.t 2)),
 qm 54 1,
 qr 55 (.bin .add (.t 54) (.k (.i .i64 1))),
 qr 56 (.call 13 [(1, (.t 53)), (1, (.t 55))]),
 qm 52 56,
 qr 57 (.ext (.t 52) 0),
 qr 58 (.ext (.t 52) 1),
 qr 9 (.al 37 [(.b false), (.l 1 []), (.i .i64 0), (.b false)]),
 qn (.st 4 (.t 9) (.t 57)),
 qm 10 58])
 (.seq (.reg [qr 60 (.ld true 4 (.t 9)),
 qr 61 (.call 14 [(1, (.t 60))]),
 qm 59 61,
 qr 62 (.ext (.t 59) 0),
 qr 63 (.ext (.t 59) 1),
 qr 11 (.al 37 [(.b false), (.l 1 []), (.i .i64 0), (.b false)]),
 qn (.st 4 (.t 11) (.t 62)),
 qm 12 63])
 (.seq (.reg [qr 65 (.ld true 4 (.t 7)),
 qr 66 (.ld true 3 (.t 2)),
 qr 67 (.call 15 [(1, (.t 65)), (1, (.t 66))]),
 qm 64 67,
 qr 68 (.ext (.t 64) 0),
 qr 69 (.ext (.t 64) 1),
 qm 13 68,
 qm 14 69])
 (.seq (.reg [qr 71 (.ld true 4 (.t 7)),
 qr 72 (.call 11 [(1, (.t 71))]),
 qm 70 72,
 qr 73 (.ext (.t 70) 0),
 qr 74 (.ext (.t 70) 1),
 qr 75 (.ext (.t 70) 2),
 qr 15 (.al 27 [(.b false), (.l 1 []), (.l 1 [])]),
 qr 16 (.al 27 [(.b false), (.l 1 []), (.l 1 [])]),
 qn (.st 3 (.t 15) (.t 73)),
 qn (.st 3 (.t 16) (.t 74)),
 qm 17 75])
 (.seq (.seq (.dreg [qm 76 8,
 qr 77 (.bin .neq (.t 76) (.k (.i .i64 0))),
 qm 78 77,
 ⟨some 79, some (78, false), .mv (.t 10)⟩,
 ⟨some 80, some (78, false), .bin .neq (.t 79) (.k (.i .i64 0))⟩,
 qr 81 (.pick (.t 78) (.k (.b true)) (.t 80)),
 qm 82 81,
 ⟨some 83, some (82, false), .mv (.t 12)⟩,
 ⟨some 84, some (82, false), .bin .neq (.t 83) (.k (.i .i64 0))⟩,
 qr 85 (.pick (.t 82) (.k (.b true)) (.t 84)),
 qm 86 85,
 ⟨some 87, some (86, false), .mv (.t 14)⟩,
 ⟨some 88, some (86, false), .bin .neq (.t 87) (.k (.i .i64 0))⟩,
 qr 89 (.pick (.t 86) (.k (.b true)) (.t 88)),
 qm 90 89,
 ⟨some 91, some (90, false), .mv (.t 17)⟩,
 ⟨some 92, some (90, false), .bin .neq (.t 91) (.k (.i .i64 0))⟩,
 qr 93 (.pick (.t 90) (.k (.b true)) (.t 92)),
 qm 94 93,
 ⟨some 95, some (94, false), .mv (.t 13)⟩,
 ⟨some 96, some (94, false), .un .not (.t 95)⟩,
 qr 97 (.pick (.t 94) (.k (.b true)) (.t 96)),
 qm 98 97,
 ⟨some 99, some (98, false), .ld true 4 (.t 11)⟩,
 ⟨some 100, some (98, false), .ld true 4 (.t 7)⟩,
 ⟨some 101, some (98, false), .call 16 [(1, (.t 99)), (1, (.t 100))]⟩,
 ⟨some 102, some (98, false), .un .not (.t 101)⟩,
 qr 103 (.pick (.t 98) (.k (.b true)) (.t 102)),
 qm 104 103,
 ⟨some 105, some (104, false), .fad 2 (.t 7)⟩,
 ⟨some 106, some (104, false), .ld false 1 (.t 105)⟩,
 ⟨some 107, some (104, false), .mv (.t 1)⟩,
 ⟨some 108, some (104, false), .bin .neq (.t 106) (.t 107)⟩,
 qr 109 (.pick (.t 104) (.k (.b true)) (.t 108)),
 qm 110 109,
 ⟨some 111, some (110, false), .ld true 4 (.t 7)⟩,
 ⟨some 112, some (110, false), .ld true 4 (.t 7)⟩,
 ⟨some 113, some (110, false), .call 17 [(1, (.t 112))]⟩,
 ⟨some 114, some (110, false), .call 16 [(1, (.t 111)), (1, (.t 113))]⟩,
 ⟨some 115, some (110, false), .un .not (.t 114)⟩,
 qr 116 (.pick (.t 110) (.k (.b true)) (.t 115))])
 (.cond (.t 116)
 (.seq (.reg [qr 4 (.mv (.k (.b false)))])
 (.ret))
 (.skip)))
 (.seq (.reg [qr 118 (.ld true 3 (.t 15)),
 qr 119 (.ld true 3 (.t 2)),
 qr 120 (.call 12 [(1, (.t 118)), (1, (.t 119))]),
 qm 117 120,
 qr 121 (.ext (.t 117) 0),
 qr 122 (.ext (.t 117) 1),
 qm 18 121,
 qm 8 122])
 (.seq (.reg [qr 124 (.ld true 3 (.t 2)),
 qr 125 (.ld true 3 (.t 16)),
 qr 126 (.call 12 [(1, (.t 124)), (1, (.t 125))]),
 qm 123 126,
 qr 127 (.ext (.t 123) 0),
 qr 128 (.ext (.t 123) 1),
 qm 19 127,
 qm 10 128])
 (.seq (.seq (.reg [qm 129 8,
 qr 130 (.bin .neq (.t 129) (.k (.i .i64 0))),
 qm 131 130,
 ⟨some 132, some (131, false), .mv (.t 10)⟩,
 ⟨some 133, some (131, false), .bin .neq (.t 132) (.k (.i .i64 0))⟩,
 qr 134 (.pick (.t 131) (.k (.b true)) (.t 133)),
 qm 135 134,
 ⟨some 136, some (135, false), .fad 3 (.t 7)⟩,
 ⟨some 137, some (135, false), .ld false 1 (.t 136)⟩,
 ⟨some 138, some (135, false), .mv (.t 137)⟩,
 ⟨some 139, some (138, true), .mv (.t 18)⟩,
 ⟨some 140, some (138, true), .bin .neq (.t 139) (.k (.i .i64 0))⟩,
 ⟨some 141, some (138, true), .mv (.t 140)⟩,
 ⟨some 142, some (141, false), .mv (.t 19)⟩,
 ⟨some 143, some (141, false), .bin .neq (.t 142) (.k (.i .i64 0))⟩,
 ⟨some 144, some (138, true), .pick (.t 141) (.k (.b true)) (.t 143)⟩,
 ⟨some 145, some (135, false), .pick (.t 138) (.t 144) (.k (.b false))⟩,
 qr 146 (.pick (.t 135) (.k (.b true)) (.t 145)),
 qm 147 146,
 ⟨some 148, some (147, false), .fad 3 (.t 7)⟩,
 ⟨some 149, some (147, false), .ld false 1 (.t 148)⟩,
 ⟨some 150, some (147, false), .un .not (.t 149)⟩,
 ⟨some 151, some (147, false), .mv (.t 150)⟩,
 ⟨some 152, some (151, true), .mv (.t 18)⟩,
 ⟨some 153, some (151, true), .bin .neq (.t 152) (.k (.i .i64 (-1)))⟩,
 ⟨some 154, some (151, true), .mv (.t 153)⟩,
 ⟨some 155, some (154, false), .mv (.t 19)⟩,
 ⟨some 156, some (154, false), .bin .neq (.t 155) (.k (.i .i64 (-1)))⟩,
 ⟨some 157, some (151, true), .pick (.t 154) (.k (.b true)) (.t 156)⟩,
 ⟨some 158, some (147, false), .pick (.t 151) (.t 157) (.k (.b false))⟩,
 qr 159 (.pick (.t 147) (.k (.b true)) (.t 158))])
 (.cond (.t 159)
 (.seq (.reg [qr 4 (.mv (.k (.b false)))])
 (.ret))
 (.skip)))
 (.seq (.reg [qr 161 (.ld true 3 (.t 15)),
 qm 162 1,
 qr 163 (.call 13 [(1, (.t 161)), (1, (.t 162))]),
 qm 160 163,
 qr 164 (.ext (.t 160) 0),
 qr 165 (.ext (.t 160) 1),
 qr 20 (.al 37 [(.b false), (.l 1 []), (.i .i64 0), (.b false)]),
 qn (.st 4 (.t 20) (.t 164)),
 qm 8 165])
 (.seq (.reg [qr 167 (.ld true 3 (.t 16)),
 qm 168 1,
 qr 169 (.call 13 [(1, (.t 167)), (1, (.t 168))]),
 qm 166 169,
 qr 170 (.ext (.t 166) 0),
 qr 171 (.ext (.t 166) 1),
 qr 21 (.al 37 [(.b false), (.l 1 []), (.i .i64 0), (.b false)]),
 qn (.st 4 (.t 21) (.t 170)),
 qm 10 171])
 (.seq (.reg [qr 173 (.ld true 4 (.t 7)),
 qr 174 (.call 18 [(1, (.t 173))]),
 qm 172 174,
 qr 175 (.ext (.t 172) 0),
 qr 176 (.ext (.t 172) 1),
 qr 22 (.al 27 [(.b false), (.l 1 []), (.l 1 [])]),
 qn (.st 3 (.t 22) (.t 175)),
 qm 12 176])
 (.seq (.reg [qr 178 (.ld true 3 (.t 22)),
 qm 179 1,
 qr 180 (.call 13 [(1, (.t 178)), (1, (.t 179))]),
 qm 177 180,
 qr 181 (.ext (.t 177) 0),
 qr 182 (.ext (.t 177) 1),
 qr 23 (.al 37 [(.b false), (.l 1 []), (.i .i64 0), (.b false)]),
 qn (.st 4 (.t 23) (.t 181)),
 qm 14 182])
 (.seq (.seq (.reg [qm 183 8,
 qr 184 (.bin .neq (.t 183) (.k (.i .i64 0))),
 qm 185 184,
 ⟨some 186, some (185, false), .mv (.t 10)⟩,
 ⟨some 187, some (185, false), .bin .neq (.t 186) (.k (.i .i64 0))⟩,
 qr 188 (.pick (.t 185) (.k (.b true)) (.t 187)),
 qm 189 188,
 ⟨some 190, some (189, false), .mv (.t 12)⟩,
 ⟨some 191, some (189, false), .bin .neq (.t 190) (.k (.i .i64 0))⟩,
 qr 192 (.pick (.t 189) (.k (.b true)) (.t 191)),
 qm 193 192,
 ⟨some 194, some (193, false), .mv (.t 14)⟩,
 ⟨some 195, some (193, false), .bin .neq (.t 194) (.k (.i .i64 0))⟩,
 qr 196 (.pick (.t 193) (.k (.b true)) (.t 195)),
 qm 197 196,
 ⟨some 198, some (197, false), .fad 3 (.t 20)⟩,
 ⟨some 199, some (197, false), .ld false 1 (.t 198)⟩,
 ⟨some 200, some (197, false), .un .not (.t 199)⟩,
 qr 201 (.pick (.t 197) (.k (.b true)) (.t 200)),
 qm 202 201,
 ⟨some 203, some (202, false), .fad 3 (.t 21)⟩,
 ⟨some 204, some (202, false), .ld false 1 (.t 203)⟩,
 ⟨some 205, some (202, false), .un .not (.t 204)⟩,
 qr 206 (.pick (.t 202) (.k (.b true)) (.t 205)),
 qm 207 206,
 ⟨some 208, some (207, false), .ld true 4 (.t 23)⟩,
 ⟨some 209, some (207, false), .ld true 4 (.t 7)⟩,
 ⟨some 210, some (207, false), .call 16 [(1, (.t 208)), (1, (.t 209))]⟩,
 ⟨some 211, some (207, false), .un .not (.t 210)⟩,
 qr 212 (.pick (.t 207) (.k (.b true)) (.t 211))])
 (.cond (.t 212)
 (.seq (.reg [qr 4 (.mv (.k (.b false)))])
 (.ret))
 (.skip)))
 (.seq (.reg [qr 214 (.ld true 4 (.t 20)),
 qr 215 (.ld true 3 (.t 2)),
 qr 216 (.call 15 [(1, (.t 214)), (1, (.t 215))]),
 qm 213 216,
 qr 217 (.ext (.t 213) 0),
 qr 218 (.ext (.t 213) 1),
 qm 24 217,
 qm 8 218])
 (.seq (.reg [qr 220 (.ld true 4 (.t 21)),
 qr 221 (.ld true 3 (.t 2)),
 qr 222 (.call 15 [(1, (.t 220)), (1, (.t 221))]),
 qm 219 222,
 qr 223 (.ext (.t 219) 0),
 qr 224 (.ext (.t 219) 1),
 qm 25 223,
 qm 10 224])
 (.seq (.reg [qr 226 (.ld true 4 (.t 20)),
 qr 227 (.ld true 4 (.t 7)),
 qr 228 (.call 19 [(1, (.t 226)), (1, (.t 227))]),
 qm 225 228,
 qr 229 (.ext (.t 225) 0),
 qr 230 (.ext (.t 225) 1),
 qm 26 229,
 qm 12 230])
 (.seq (.reg [qr 232 (.ld true 4 (.t 7)),
 qr 233 (.ld true 4 (.t 21)),
 qr 234 (.call 19 [(1, (.t 232)), (1, (.t 233))]),
 qm 231 234,
 qr 235 (.ext (.t 231) 0),
 qr 236 (.ext (.t 231) 1),
 qm 27 235,
 qm 14 236])
 (.seq (.reg [qr 238 (.ld true 4 (.t 20)),
 qr 239 (.ld true 4 (.t 7)),
 qr 240 (.call 20 [(1, (.t 238)), (1, (.t 239))]),
 qm 237 240,
 qr 241 (.ext (.t 237) 0),
 qr 242 (.ext (.t 237) 1),
 qm 28 241,
 qm 17 242])
 (.seq (.seq (.reg [qm 243 8,
 qr 244 (.bin .neq (.t 243) (.k (.i .i64 0))),
 qm 245 244,
 ⟨some 246, some (245, false), .mv (.t 10)⟩,
 ⟨some 247, some (245, false), .bin .neq (.t 246) (.k (.i .i64 0))⟩,
 qr 248 (.pick (.t 245) (.k (.b true)) (.t 247)),
 qm 249 248,
 ⟨some 250, some (249, false), .mv (.t 12)⟩,
 ⟨some 251, some (249, false), .bin .neq (.t 250) (.k (.i .i64 0))⟩,
 qr 252 (.pick (.t 249) (.k (.b true)) (.t 251)),
 qm 253 252,
 ⟨some 254, some (253, false), .mv (.t 14)⟩,
 ⟨some 255, some (253, false), .bin .neq (.t 254) (.k (.i .i64 0))⟩,
 qr 256 (.pick (.t 253) (.k (.b true)) (.t 255)),
 qm 257 256,
 ⟨some 258, some (257, false), .mv (.t 17)⟩,
 ⟨some 259, some (257, false), .bin .neq (.t 258) (.k (.i .i64 0))⟩,
 qr 260 (.pick (.t 257) (.k (.b true)) (.t 259)),
 qm 261 260,
 ⟨some 262, some (261, false), .mv (.t 28)⟩,
 ⟨some 263, some (261, false), .un .not (.t 262)⟩,
 qr 264 (.pick (.t 261) (.k (.b true)) (.t 263))])
 (.cond (.t 264)
 (.seq (.reg [qr 4 (.mv (.k (.b false)))])
 (.ret))
 (.skip)))
 (.seq (.reg [qm 265 24,
 qr 266 (.fad 3 (.t 7)),
 qr 267 (.ld false 1 (.t 266)),
 qr 268 (.eqb false (.t 265) (.t 267)),
 qm 269 268,
 ⟨some 270, some (269, true), .mv (.t 25)⟩,
 ⟨some 271, some (269, true), .fad 3 (.t 7)⟩,
 ⟨some 272, some (269, true), .ld false 1 (.t 271)⟩,
 ⟨some 273, some (269, true), .eqb false (.t 270) (.t 272)⟩,
 qr 274 (.pick (.t 269) (.t 273) (.k (.b false))),
 qm 275 274,
 ⟨some 276, some (275, true), .fad 3 (.t 7)⟩,
 ⟨some 277, some (275, true), .ld false 1 (.t 276)⟩,
 ⟨some 278, some (275, true), .mv (.t 277)⟩,
 ⟨some 279, some (278, true), .mv (.t 26)⟩,
 ⟨some 280, some (278, true), .bin .eql (.t 279) (.k (.i .i64 0))⟩,
 ⟨some 281, some (275, true), .pick (.t 278) (.t 280) (.k (.b false))⟩,
 ⟨some 282, some (275, true), .mv (.t 281)⟩,
 ⟨some 283, some (282, true), .mv (.t 27)⟩,
 ⟨some 284, some (282, true), .bin .eql (.t 283) (.k (.i .i64 0))⟩,
 ⟨some 285, some (275, true), .pick (.t 282) (.t 284) (.k (.b false))⟩,
 ⟨some 286, some (275, true), .mv (.t 285)⟩,
 ⟨some 287, some (286, false), .fad 3 (.t 7)⟩,
 ⟨some 288, some (286, false), .ld false 1 (.t 287)⟩,
 ⟨some 289, some (286, false), .un .not (.t 288)⟩,
 ⟨some 290, some (286, false), .mv (.t 289)⟩,
 ⟨some 291, some (290, true), .mv (.t 26)⟩,
 ⟨some 292, some (290, true), .bin .eql (.t 291) (.k (.i .i64 (-1)))⟩,
 ⟨some 293, some (286, false), .pick (.t 290) (.t 292) (.k (.b false))⟩,
 ⟨some 294, some (286, false), .mv (.t 293)⟩,
 ⟨some 295, some (294, true), .mv (.t 27)⟩,
 ⟨some 296, some (294, true), .bin .eql (.t 295) (.k (.i .i64 (-1)))⟩,
 ⟨some 297, some (286, false), .pick (.t 294) (.t 296) (.k (.b false))⟩,
 ⟨some 298, some (275, true), .pick (.t 286) (.k (.b true)) (.t 297)⟩,
 qr 299 (.pick (.t 275) (.t 298) (.k (.b false))),
 qm 4 299])
 (.ret)))))))))))))))))))))))))
set_option maxRecDepth 100000 in
theorem cellsGrid_spec (s : Bool) (a d : List Nat) (k : Int) (ha : Wd a) (hd : Wd d) (la : a.length ≤ 1100000) (ld : d.length ≤ 1100000) (k1 : -9223372036854775808 ≤ k) (k2 : k < 9223372036854775808) : AFun Tryz.prog J0 4 [rL s a d, .i .i64 k] (.b true) := by
  have kn := cknown_spec
  have o1 := rOk_spec s a d hd (by omega)
  obtain ⟨n, hn2, hn⟩ := mod200u k k1 k2
  by_cases h0 : nv B d = 0
  · rw [decide_eq_true h0] at o1
    have x1 := cofE_spec s a d (n : Int) hd (by omega) (by unfold oeE; rw [if_pos h0]; decide)
    rw [show oeE (nv B d) (n : Int) = 1 from if_pos h0] at x1
    generalize (n : Int) = nn at *
    refine mkQ fol J0s Tryz.func4 a4 ?_
    unfold a4
    simp only [init_eq, initE, qm, qr, qn]
    exact wdQ (ai @hn @bz_LCGrid)
  · rw [decide_eq_false h0] at o1
    have wk : IntKind.i64.wrap ((n : Int) + 1) = ((n + 1 : Nat) : Int) := by rw [wi (by omega)]; rfl
    have bt : (true == true) = true := rfl
    have bf : (false == false) = true := rfl
    have hA := Rr_raw (s := s) ha hd la ld h0
    have f1 := cof_spec s a d n 1100000 (by omega) ha hd la ld h0 (by decide) (by decide)
    have f2 := cof_spec s a d (n + 1) 1100000 (by omega) ha hd la ld h0 (by decide) (by decide)
    obtain ⟨M, hM⟩ : ∃ M : Nat, M = 1120000 := ⟨_, rfl⟩
    have b1 : (plZ (zv s a) (nv B d) n).natAbs < B ^ M := pup (fl_abs (shlz (zv_lt (s := s) ha la) (by omega))) (by omega)
    have b2 : (plZ (zv s a) (nv B d) (n + 1)).natAbs < B ^ M := pup (fl_abs (shlz (zv_lt (s := s) ha la) (by omega))) (by omega)
    obtain ⟨i1, i2⟩ := in_law (z := zv s a) (d := nv B d) (k := n) h0
    obtain ⟨q1, q2⟩ := pl_fine (z := zv s a) (k := n) h0
    have u1 := cup_spec (decide (plZ (zv s a) (nv B d) (n + 1) < 0)) (dg B (plZ (zv s a) (nv B d) (n + 1)).natAbs) ((n + 1 : Nat) : Int) (plP (zv s a) (nv B d) (n + 1)) (Wd_dg _) (Nat.le_trans (dlen b2) (by omega))
    rw [zv_N, q1, q2, show upE ((n + 1 : Nat) : Int) = 0 from by unfold upE; rw [if_neg (not_not_intro (ckE_0 (by omega) (by omega))), if_neg (by omega)], if_pos rfl, show ((n + 1 : Nat) : Int) - 1 = (n : Int) from by omega] at u1
    clear q1 q2 b2
    generalize plZ (zv s a) (nv B d) (n + 1) = z2 at *
    generalize plP (zv s a) (nv B d) (n + 1) = p2 at *
    generalize plZ (zv s a) (nv B d) n = z at *
    generalize plP (zv s a) (nv B d) n = p at *
    have lz : (dg B z.natAbs).length ≤ 1120000 := Nat.le_trans (dlen b1) (by omega)
    have d1 := cholds_spec (decide (z < 0)) (dg B z.natAbs) n 1120000 p (by omega) (Wd_dg _) lz (Rr_up hA (by decide : 1100000 ≤ 1120000)) (by decide) (by decide)
    obtain ⟨e1, g1, g2⟩ := cends_spec (decide (z < 0)) (dg B z.natAbs) n M p (by omega) (Wd_dg _) (by omega) (by omega) (by omega)
    obtain ⟨md, g3⟩ := cmid_spec (decide (z < 0)) (dg B z.natAbs) n M p (by omega) (Wd_dg _) (by omega) (by omega) (by omega)
    have s1 := rcsame_true (decide (z < 0)) (dg B z.natAbs) (n : Int) p (by omega)
    have m1 := rform_spec (decide (z < 0)) (dg B z.natAbs) (n : Int) p (Wd_dg _) (by omega)
    rw [zv_N] at d1 e1 g1 g2 md g3 m1
    have a1 := qcmpR g1 (Rr_up hA (by omega : 1100000 ≤ M + 1)) (by omega)
    have a2 := qcmpR (Rr_up hA (by omega : 1100000 ≤ M + 1)) g2 (by omega)
    have g4 := mid_R z p n M b1 (by omega) (by omega)
    obtain ⟨v1, v2⟩ := Rr_num g1
    obtain ⟨v3, v4⟩ := Rr_num g2
    obtain ⟨v5, v6⟩ := Rr_num g4
    have l1 := cof_spec (decide ((loQ z n).num < 0)) (dg B (loQ z n).num.natAbs) (dg B (loQ z n).den) n (M + 1) (by omega) (Wd_dg _) (Wd_dg _) (dlen v1) (dlen v2) (by rw [nv_dgB]; exact Rat.den_nz _) (by omega) (by omega)
    rw [zv_N, nv_dgB, (pl_own z n).1, (pl_own z n).2] at l1
    have r1 := cof_spec (decide ((loQ (hiN z p) n).num < 0)) (dg B (loQ (hiN z p) n).num.natAbs) (dg B (loQ (hiN z p) n).den) n (M + 1) (by omega) (Wd_dg _) (Wd_dg _) (dlen v3) (dlen v4) (by rw [nv_dgB]; exact Rat.den_nz _) (by omega) (by omega)
    rw [zv_N, nv_dgB, (pl_own (hiN z p) n).1, (pl_own (hiN z p) n).2] at r1
    have bk := cof_spec (decide (((loQ z n + loQ (hiN z p) n) / 2).num < 0)) (dg B ((loQ z n + loQ (hiN z p) n) / 2).num.natAbs) (dg B ((loQ z n + loQ (hiN z p) n) / 2).den) n (M + 2) (by omega) (Wd_dg _) (Wd_dg _) (dlen v5) (dlen v6) (by rw [nv_dgB]; exact Rat.den_nz _) (by omega) (by omega)
    rw [zv_N, nv_dgB, (pl_mid z p n).1, (pl_mid z p n).2] at bk
    have lh : (dg B (hiN z p).natAbs).length ≤ 1120001 := Nat.le_trans (dlen (hiN_abs b1)) (by omega)
    have x1 := cholds_spec (decide (z < 0)) (dg B z.natAbs) n 1120001 true (by omega) (Wd_dg _) (Nat.le_succ_of_le lz) (Rr_up hA (by decide : 1100000 ≤ 1120001)) (by decide) (by decide)
    have x2 := cholds_spec (decide (hiN z p < 0)) (dg B (hiN z p).natAbs) n 1120001 true (by omega) (Wd_dg _) lh (Rr_up hA (by decide : 1100000 ≤ 1120001)) (by decide) (by decide)
    have n1 := ccmp_spec (decide (z < 0)) (decide (z < 0)) (dg B z.natAbs) (dg B z.natAbs) n n 1120001 true p (by omega) (by omega) (Wd_dg _) (Wd_dg _) (Nat.le_succ_of_le lz) (Nat.le_succ_of_le lz) (by decide)
    have n2 := ccmp_spec (decide (z < 0)) (decide (hiN z p < 0)) (dg B z.natAbs) (dg B (hiN z p).natAbs) n n 1120001 p true (by omega) (by omega) (Wd_dg _) (Wd_dg _) (Nat.le_succ_of_le lz) lh (by decide)
    have t1 := ctouch_spec (decide (z < 0)) (decide (z < 0)) (dg B z.natAbs) (dg B z.natAbs) n n 1120001 true p (by omega) (by omega) (Wd_dg _) (Wd_dg _) (Nat.le_succ_of_le lz) (Nat.le_succ_of_le lz) (by decide)
    rw [zv_N] at x1 x2 n1 t1
    rw [zv_N, zv_N] at n2
    clear g1 g2 g3 g4 v1 v2 v3 v4 v5 v6 lz lh hA b1
    cases p with
    | true =>
      have i := i1 rfl
      have hh : hiN z true = z := rfl
      simp only [hh] at d1 e1 a2 md r1 bk x1 x2 n1 n2 t1
      rw [← i] at a1 a2 d1 x1 x2
      rw [cq_z] at a1 a2
      have hv : haV true (loQ z n) (loQ z n) (loQ z n) = true := by unfold haV; rw [if_pos rfl, cq_z]; rfl
      rw [hv] at d1 x1 x2
      rw [cq_z, show cpV 0 0 (!true || !true) = 0 from rfl] at n1 n2
      rw [cq_z, show (decide ((0 : Int) ≤ 0) && decide ((0 : Int) ≤ 0)) = true from rfl] at t1
      clear i i1 i2 hh hv
      generalize (loQ z n + loQ z n) / 2 = Mv at *
      generalize loQ z n = L at *
      generalize ((n + 1 : Nat) : Int) = nn1 at *
      generalize (n : Int) = nn at *
      refine mkQ fol J0s Tryz.func4 a4 ?_
      unfold a4
      simp only [init_eq, initE, qm, qr, qn]
      have zc1 := md
      repeat first | (refine hK _ ?_; clear hK K) | simp only [Sv, ↓reduceIte, Nat.reduceEqDiff] | ((first | refine vm_reg (fun K hK => ?_) | refine vm_dreg (fun K hK => ?_) | refine vm_dregx (fun K hK => ?_) | refine clp_q ?_ | refine clq_mk (by assumption) ?_ | refine mcq_q ?_ | (apply mcr_mk; assumption)); simp (disch := (first | omega | assumption)) only [S1, ↓reduceIte, Nat.reduceEqDiff, Nat.reduceAdd, Nat.reduceMul, Nat.reduceDiv, AOp.sb, AOp.mut, frzf, ↓Bool.false_eq_true, beq_self_eq_true, ite_self, Nat.reduceLeDiff, Int.reduceEq, Int.reduceSub, Int.reduceAdd, Int.reduceNeg, Int.reduceLT, Int.reduceLE, Nat.reduceLT, bz_LCGrid, eq_self, hn, wk, bt, bf])
      simp (disch := (first | omega | assumption)) only [retOk, retN, ret1, retF, ret1F, V.okArg, and_true, true_and, S1, ↓reduceIte, Nat.reduceEqDiff, Nat.reduceAdd, Nat.reduceMul, Nat.reduceDiv, AOp.sb, AOp.mut, frzf, ↓Bool.false_eq_true, beq_self_eq_true, ite_self, Nat.reduceLeDiff, Int.reduceEq, Int.reduceSub, Int.reduceAdd, Int.reduceNeg, Int.reduceLT, Int.reduceLE, Nat.reduceLT, bz_LCGrid, eq_self, hn, wk, bt, bf]
    | false =>
      obtain ⟨i, j⟩ := i2 rfl
      have hh : hiN z true = z := rfl
      have hf : hiN z false = z + 1 := rfl
      have hg : hiN (z + 1) true = z + 1 := rfl
      have hlt : loQ z n < loQ (z + 1) n := by grind
      rw [hf] at d1 e1 a2 md r1 bk x2 n1 n2 t1
      rw [hh] at x1 n1 t1
      rw [hg] at x2 n2
      rw [cq_m i] at a1
      rw [cq_m j] at a2
      have v1 : haV false (loQ z n) (loQ (z + 1) n) (mkRat (zv s a) (nv B d)) = true := by unfold haV; rw [if_neg (by decide), cq_m i, cq_m j]; rfl
      have v2 : haV true (loQ z n) (loQ z n) (mkRat (zv s a) (nv B d)) = false := by unfold haV; rw [if_pos rfl, cq_m i]; rfl
      have v3 : haV true (loQ (z + 1) n) (loQ (z + 1) n) (mkRat (zv s a) (nv B d)) = false := by unfold haV; rw [if_pos rfl, cq_p j]; rfl
      rw [v1] at d1
      rw [v2] at x1
      rw [v3] at x2
      rw [cq_z, cp_2'] at n1
      rw [cq_z, cp_2''] at n2
      rw [cq_z, cq_m hlt, show (decide ((0 : Int) ≤ 0) && decide ((-1 : Int) ≤ 0)) = true from rfl] at t1
      clear i i1 i2 j hh hf hg hlt v1 v2 v3
      generalize (loQ z n + loQ (z + 1) n) / 2 = Mv at *
      generalize loQ z n = L at *
      generalize loQ (z + 1) n = H at *
      generalize z + 1 = z1 at *
      generalize ((n + 1 : Nat) : Int) = nn1 at *
      generalize (n : Int) = nn at *
      refine mkQ fol J0s Tryz.func4 a4 ?_
      unfold a4
      simp only [init_eq, initE, qm, qr, qn]
      have zc2 := md
      repeat first | (refine hK _ ?_; clear hK K) | simp only [Sv, ↓reduceIte, Nat.reduceEqDiff] | ((first | refine vm_reg (fun K hK => ?_) | refine vm_dreg (fun K hK => ?_) | refine vm_dregx (fun K hK => ?_) | refine clp_q ?_ | refine clq_mk (by assumption) ?_ | refine mcq_q ?_ | (apply mcr_mk; assumption)); simp (disch := (first | omega | assumption)) only [S1, ↓reduceIte, Nat.reduceEqDiff, Nat.reduceAdd, Nat.reduceMul, Nat.reduceDiv, AOp.sb, AOp.mut, frzf, ↓Bool.false_eq_true, beq_self_eq_true, ite_self, Nat.reduceLeDiff, Int.reduceEq, Int.reduceSub, Int.reduceAdd, Int.reduceNeg, Int.reduceLT, Int.reduceLE, Nat.reduceLT, bz_LCGrid, eq_self, hn, wk, bt, bf])
      simp (disch := (first | omega | assumption)) only [retOk, retN, ret1, retF, ret1F, V.okArg, and_true, true_and, S1, ↓reduceIte, Nat.reduceEqDiff, Nat.reduceAdd, Nat.reduceMul, Nat.reduceDiv, AOp.sb, AOp.mut, frzf, ↓Bool.false_eq_true, beq_self_eq_true, ite_self, Nat.reduceLeDiff, Int.reduceEq, Int.reduceSub, Int.reduceAdd, Int.reduceNeg, Int.reduceLT, Int.reduceLE, Nat.reduceLT, bz_LCGrid, eq_self, hn, wk, bt, bf]
end Go.Proofs.YtfcpigjmagbnkaaGreatDoor
