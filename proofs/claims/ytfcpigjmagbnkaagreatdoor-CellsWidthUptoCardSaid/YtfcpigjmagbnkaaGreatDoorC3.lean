/-
  Cells, by the program: numbers that they hold, halves, coarser ones, the cell of a number.
-/
import Derived.Test.YtfcpigjmagbnkaaGreatDoorC2
namespace Go.Proofs.YtfcpigjmagbnkaaGreatDoor
open Go Go.RowKit Ab
set_option linter.unusedSimpArgs false
set_option linter.unusedVariables false
set_option maxHeartbeats 10000000
theorem bz_C3 : type_of% (And.intro @W_len (And.intro @D_len (And.intro @Nat.div_one (And.intro @Nat.mul_one (And.intro @tn_nat (And.intro @W_nf (And.intro @D_nf (And.intro @W_nil (And.intro @D_nil (And.intro @wi (And.intro @nf_g (And.intro @Bool.false_and (@W_cell))))))))))))) := And.intro @W_len (And.intro @D_len (And.intro @Nat.div_one (And.intro @Nat.mul_one (And.intro @tn_nat (And.intro @W_nf (And.intro @D_nf (And.intro @W_nil (And.intro @D_nil (And.intro @wi (And.intro @nf_g (And.intro @Bool.false_and (@W_cell))))))))))))
theorem fc_same (z : Int) {d : Nat} (hd : d ≠ 0) : (z.fdiv (d : Int) = -((-z).fdiv (d : Int))) = (z.fdiv (d : Int) * (d : Int) = z) := by
  rw [Int.fdiv_eq_ediv_of_nonneg z (Int.natCast_nonneg d), Int.fdiv_eq_ediv_of_nonneg (-z) (Int.natCast_nonneg d)]
  have h1 := Int.ediv_mul_le z (show (d : Int) ≠ 0 by omega)
  have h2 := Int.lt_ediv_add_one_mul_self z (show (0 : Int) < (d : Int) by omega)
  have h3 := Int.ediv_mul_le (-z) (show (d : Int) ≠ 0 by omega)
  have h4 := Int.lt_ediv_add_one_mul_self (-z) (show (0 : Int) < (d : Int) by omega)
  generalize z / (d : Int) = x at *
  generalize -z / (d : Int) = y at *
  have hp : (0 : Int) < (d : Int) := by omega
  refine propext ⟨fun h => ?_, fun h => ?_⟩
  · have : x * (d : Int) = -(y * (d : Int)) := by rw [h, Int.neg_mul]
    omega
  · have e : (x + y) * (d : Int) = x * (d : Int) + y * (d : Int) := Int.add_mul _ _ _
    have e2 : (y + 1) * (d : Int) = y * (d : Int) + (d : Int) := by rw [Int.add_mul, Int.one_mul]
    have a1 : (x + y) * (d : Int) ≤ 0 := by omega
    have a2 : -(d : Int) < (x + y) * (d : Int) := by omega
    have a3 : x + y ≤ 0 := by
      rcases (by omega : 0 < x + y ∨ x + y ≤ 0) with g | g
      · have := Int.mul_pos g hp; omega
      · exact g
    have a4 : -1 < x + y := by
      rcases (by omega : -1 < x + y ∨ x + y ≤ -1) with g | g
      · exact g
      · have := Int.mul_le_mul_of_nonneg_right g (Int.le_of_lt hp); omega
    omega
def plZ (z : Int) (d k : Nat) : Int := (z * 2 ^ k).fdiv (d : Int)
def plP (z : Int) (d k : Nat) : Bool := decide (plZ z d k * (d : Int) = z * 2 ^ k)
def a13 : AC := .seq (.reg [qr 2 (.bx 27 (.t 0)),
 qr 4 (.al 37 [(.b false), (.l 1 []), (.i .i64 0), (.b false)]),
 qr 5 (.mv (.k (.i .i64 0)))])
 (.seq (.seq (.reg [qr 11 (.ld true 3 (.t 2)),
 qr 12 (.call 48 [(1, (.t 11))]),
 qm 6 12])
 (.seq (.reg [qm 13 6,
 qr 14 (.bin .neq (.t 13) (.k (.i .i64 0)))])
 (.cond (.t 14)
 (.seq (.reg [qr 15 (.bld [(.b false), (.l 1 []), (.i .i64 0), (.b false)] []),
 qm 16 6,
 qn (.st 4 (.t 4) (.t 15)),
 qm 5 16])
 (.ret))
 (.skip))))
 (.seq (.seq (.reg [qm 17 1,
 qr 18 (.bld [(.b false), (.l 1 []), (.i .i64 0), (.b false)] [(2, 1, (.t 17))]),
 qr 19 (.call 42 [(1, (.t 18))]),
 qm 7 19])
 (.seq (.reg [qm 20 7,
 qr 21 (.bin .neq (.t 20) (.k (.i .i64 0)))])
 (.cond (.t 21)
 (.seq (.reg [qr 22 (.bld [(.b false), (.l 1 []), (.i .i64 0), (.b false)] []),
 qm 23 7,
 qn (.st 4 (.t 4) (.t 22)),
 qm 5 23])
 (.ret))
 (.skip))))
 (.seq (.reg [qr 25 (.ld true 3 (.t 2)),
 qm 26 1,
 qr 27 (.call 49 [(1, (.t 25)), (1, (.t 26))]),
 qm 24 27,
 qr 28 (.ext (.t 24) 0),
 qr 29 (.ext (.t 24) 1),
 qr 8 (.al 25 [(.b false), (.l 1 [])]),
 qn (.st 2 (.t 8) (.t 28)),
 qm 9 29])
 (.seq (.seq (.reg [qm 30 9,
 qr 31 (.bin .neq (.t 30) (.k (.i .i64 0)))])
 (.cond (.t 31)
 (.seq (.reg [qr 32 (.bld [(.b false), (.l 1 []), (.i .i64 0), (.b false)] []),
 qm 33 9,
 qn (.st 4 (.t 4) (.t 32)),
 qm 5 33])
 (.ret))
 (.skip)))
 (.seq (.reg [qr 35 (.ld true 3 (.t 2)),
 qm 36 1,
 qr 37 (.call 50 [(1, (.t 35)), (1, (.t 36))]),
 qm 34 37,
 qr 38 (.ext (.t 34) 0),
 qr 39 (.ext (.t 34) 1),
 qr 10 (.al 25 [(.b false), (.l 1 [])]),
 qn (.st 2 (.t 10) (.t 38)),
 qm 9 39])
 (.seq (.seq (.reg [qm 40 9,
 qr 41 (.bin .neq (.t 40) (.k (.i .i64 0)))])
 (.cond (.t 41)
 (.seq (.reg [qr 42 (.bld [(.b false), (.l 1 []), (.i .i64 0), (.b false)] []),
 qm 43 9,
 qn (.st 4 (.t 4) (.t 42)),
 qm 5 43])
 (.ret))
 (.skip)))
 (.seq (.dreg [qr 44 (.ld true 2 (.t 8)),
 qm 45 1,
 qr 46 (.ld true 2 (.t 8)),
 qr 47 (.ld true 2 (.t 10)),
 qr 48 (.call 46 [(1, (.t 46)), (1, (.t 47))]),
 qr 49 (.bin .eql (.t 48) (.k (.i .i64 0))),
 qr 50 (.bld [(.b false), (.l 1 []), (.i .i64 0), (.b false)] [(0, 2, (.t 44)), (2, 1, (.t 45)), (3, 1, (.t 49))]),
 qn (.st 4 (.t 4) (.t 50)),
 qr 5 (.mv (.k (.i .i64 0)))])
 (.ret))))))))
theorem cof_spec (s : Bool) (a d : List Nat) (k m : Nat) (hk : k ≤ 1048576) (ha : Wd a) (hd : Wd d) (la : a.length ≤ m) (ld : d.length ≤ m) (h0 : nv B d ≠ 0) (hm : 20000 ≤ m) (hm1 : m ≤ 3000000) :
    AFun Tryz.prog J0 13 [rL s a d, .i .i64 (k : Int)] (.t [cN (plZ (zv s a) (nv B d) k) (k : Int) (plP (zv s a) (nv B d) k), .i .i64 0]) := by
  have h1 := qcheck_spec s a d hd (by omega)
  rw [if_neg h0] at h1
  have h2 := ccheck_spec false [] (k : Int) false
  rw [ckE_0 (by omega) (by omega)] at h2
  replace h2 : AFun Tryz.prog J0 42 [.g [.b false, .l 1 [], .i .i64 (k : Int), .b false]] (.i .i64 0) := h2
  have h3 := qfloor_spec s a d (k : Int) m (by omega) (by omega) ha hd la ld
  have h4 := qceil_spec s a d (k : Int) m (by omega) (by omega) ha hd la ld
  have hE : glE (nv B d) (k : Int) = 0 := by unfold glE; rw [if_neg h0, if_neg (by omega)]
  rw [hE, glV_p h0 hk] at h3
  rw [hE, glV_p h0 hk] at h4
  rw [Int.neg_mul] at h4
  have hP : plP (zv s a) (nv B d) k = decide (cz ((zv s a * 2 ^ k).fdiv (nv B d : Int)) (-((-(zv s a * 2 ^ k)).fdiv (nv B d : Int))) = 0) := by
    unfold plP plZ
    refine decide_eq_decide.2 ?_
    rw [cz_0]
    exact Iff.of_eq (fc_same (zv s a * 2 ^ k) h0).symm
  rw [hP]
  unfold plZ
  have b0 := shlz (zv_lt (s := s) ha la) hk
  have b1 : ((zv s a * 2 ^ k).fdiv (nv B d : Int)).natAbs < B ^ (m + 16384 + 1) := fl_abs b0
  have b2 : (-((-(zv s a * 2 ^ k)).fdiv (nv B d : Int))).natAbs < B ^ (m + 16384 + 1) := by rw [Int.natAbs_neg]; exact fl_abs (by rw [Int.natAbs_neg]; exact b0)
  clear hP
  generalize (zv s a * 2 ^ k).fdiv (nv B d : Int) = x at *
  generalize -((-(zv s a * 2 ^ k)).fdiv (nv B d : Int)) = y at *
  have h5 := zcmp_spec (decide (x < 0)) (decide (y < 0)) (dg B x.natAbs) (dg B y.natAbs) (Wd_dg _) (Wd_dg _) (Nat.le_trans (dlen b1) (by omega)) (Nat.le_trans (dlen b2) (by omega))
  rw [zv_N, zv_N] at h5
  generalize cz x y = c at *
  clear hE
  refine mkcQ fol J0s Tryz.func13 a13 [.c 4 true 4, .t 5] ?_
  unfold a13
  simp only [init_eq, initE, qm, qr, qn]
  exact wcQ @bz_C3
end Go.Proofs.YtfcpigjmagbnkaaGreatDoor
