/-
  ZzForms: the law's walk.
-/
import Derived.Test.YtfehegnkbnojaaaLZKn
import Derived.Test.YtfehegnkbnojaaaZ6
namespace Go.Proofs.Ytfehegnkbnojaaa
open Go Go.RowKit Ab
set_option linter.unusedSimpArgs false
set_option linter.unusedVariables false
set_option maxHeartbeats 10000000
theorem bz_LZForms : type_of% (And.intro @Bool.false_and (And.intro @wi (And.intro @tn_nat (And.intro @Nat.div_one (And.intro @Nat.mul_one (And.intro @W_len (And.intro @W_nf (And.intro @W_cell (And.intro @W_nil (And.intro @W_get (@nf_g))))))))))) := And.intro @Bool.false_and (And.intro @wi (And.intro @tn_nat (And.intro @Nat.div_one (And.intro @Nat.mul_one (And.intro @W_len (And.intro @W_nf (And.intro @W_cell (And.intro @W_nil (And.intro @W_get (@nf_g))))))))))

theorem bl_dg2 (n : Nat) : (dg 2 n).length = bl n := by
  have B22 : (2 : Nat) ≤ 2 := Nat.le_refl 2
  rcases Nat.eq_zero_or_pos n with h | h
  · rw [h]; rfl
  · have h1 : nv 2 (dg 2 n) < 2 ^ (dg 2 n).length := nv_lt (dg_Lt (b := 2) (by decide) n)
    rw [nv_dg B22] at h1
    have h2 : 2 ^ ((dg 2 n).length - 1) ≤ nv 2 (dg 2 n) := nv_top (b := 2) (tz_dg' n) (fun h0 => by rw [dg_nil B22] at h0; omega)
    rw [nv_dg B22] at h2
    have h3 : (dg 2 n).length ≠ 0 := fun h0 => by rw [h0, Nat.pow_zero] at h1; omega
    have := bl_uniq (k := (dg 2 n).length - 1) h2 (by rw [show (dg 2 n).length - 1 + 1 = (dg 2 n).length from by omega]; exact h1)
    omega
-- surd/surdlaw07.ZzForms
def a5 : AC := .seq (.reg [⟨some 2, none, .bx 30 (.t 0)⟩, 
      ⟨some 4, none, .mv (.k (.b false))⟩])
  (.seq (.seq (.reg [⟨some 9, none, .call 8 []⟩, 
        ⟨some 10, none, .un .not (.t 9)⟩])
    (.cond (.t 10)
    (.seq (.reg [⟨some 4, none, .mv (.k (.b false))⟩])
      (.ret))
    (.skip)))
  (.seq (.reg [⟨some 12, none, .ld true 2 (.t 2)⟩, 
      ⟨some 13, none, .call 21 [(1, (.t 12))]⟩, 
      ⟨some 11, none, .mv (.t 13)⟩, 
      ⟨some 14, none, .ext (.t 11) 0⟩, 
      ⟨some 15, none, .ext (.t 11) 1⟩, 
      ⟨some 5, none, .mv (.t 14)⟩, 
      ⟨some 6, none, .mv (.t 15)⟩])
  (.seq (.reg [⟨some 17, none, .ld true 2 (.t 2)⟩, 
      ⟨some 18, none, .call 22 [(1, (.t 17))]⟩, 
      ⟨some 16, none, .mv (.t 18)⟩, 
      ⟨some 19, none, .ext (.t 16) 0⟩, 
      ⟨some 20, none, .ext (.t 16) 1⟩, 
      ⟨some 7, none, .mv (.t 19)⟩, 
      ⟨some 8, none, .mv (.t 20)⟩])
  (.seq (.seq (.dreg [⟨some 21, none, .mv (.t 5)⟩, 
        ⟨some 22, none, .mv (.t 7)⟩, 
        ⟨some 23, none, .bin .neq (.t 21) (.t 22)⟩, 
        ⟨some 24, none, .mv (.t 23)⟩, 
        ⟨some 25, some (24, false), .mv (.t 6)⟩, 
        ⟨some 26, some (24, false), .mv (.t 8)⟩, 
        ⟨some 27, some (24, false), .bin .neq (.t 25) (.t 26)⟩, 
        ⟨some 28, none, .pick (.t 24) (.k (.b true)) (.t 27)⟩, 
        ⟨some 29, none, .mv (.t 28)⟩, 
        ⟨some 30, some (29, false), .mv (.t 1)⟩, 
        ⟨some 31, some (29, false), .call 23 [(1, (.t 30))]⟩, 
        ⟨some 32, some (29, false), .mv (.t 1)⟩, 
        ⟨some 33, some (29, false), .call 24 [(1, (.t 32))]⟩, 
        ⟨some 34, some (29, false), .call 14 [(1, (.t 31)), (1, (.t 33))]⟩, 
        ⟨some 35, some (29, false), .un .not (.t 34)⟩, 
        ⟨some 36, none, .pick (.t 29) (.k (.b true)) (.t 35)⟩, 
        ⟨some 37, none, .mv (.t 36)⟩, 
        ⟨some 38, some (37, false), .fad 0 (.t 2)⟩, 
        ⟨some 39, some (37, false), .ld false 1 (.t 38)⟩, 
        ⟨some 40, some (37, false), .fad 1 (.t 2)⟩, 
        ⟨some 41, some (37, false), .ld false 1 (.t 40)⟩, 
        ⟨some 42, some (37, false), .call 25 [(1, (.t 39)), (1, (.t 41))]⟩, 
        ⟨some 43, some (37, false), .ld true 2 (.t 2)⟩, 
        ⟨some 44, some (37, false), .call 26 [(1, (.t 43))]⟩, 
        ⟨some 45, some (37, false), .call 14 [(1, (.t 42)), (1, (.t 44))]⟩, 
        ⟨some 46, some (37, false), .un .not (.t 45)⟩, 
        ⟨some 47, none, .pick (.t 37) (.k (.b true)) (.t 46)⟩])
    (.cond (.t 47)
    (.seq (.reg [⟨some 4, none, .mv (.k (.b false))⟩])
      (.ret))
    (.skip)))
  (.seq (.dreg [⟨some 48, none, .ld true 2 (.t 2)⟩, 
      ⟨some 49, none, .call 27 [(1, (.t 48))]⟩, 
      ⟨some 50, none, .ld true 2 (.t 2)⟩, 
      ⟨some 51, none, .call 26 [(1, (.t 50))]⟩, 
      ⟨some 52, none, .call 14 [(1, (.t 49)), (1, (.t 51))]⟩, 
      ⟨some 53, none, .mv (.t 52)⟩, 
      ⟨some 54, some (53, true), .ld true 2 (.t 2)⟩, 
      ⟨some 55, some (53, true), .call 28 [(1, (.t 54))]⟩, 
      ⟨some 56, some (53, true), .ld true 2 (.t 2)⟩, 
      ⟨some 57, some (53, true), .call 29 [(1, (.t 56))]⟩, 
      ⟨some 58, some (53, true), .eqb false (.t 55) (.t 57)⟩, 
      ⟨some 59, none, .pick (.t 53) (.t 58) (.k (.b false))⟩, 
      ⟨some 60, none, .mv (.t 59)⟩, 
      ⟨some 61, some (60, true), .ld true 2 (.t 2)⟩, 
      ⟨some 62, some (60, true), .call 30 [(1, (.t 61))]⟩, 
      ⟨some 63, some (60, true), .ld true 2 (.t 2)⟩, 
      ⟨some 64, some (60, true), .call 31 [(1, (.t 63))]⟩, 
      ⟨some 65, some (60, true), .bin .eql (.t 62) (.t 64)⟩, 
      ⟨some 66, none, .pick (.t 60) (.t 65) (.k (.b false))⟩, 
      ⟨some 67, none, .mv (.t 66)⟩, 
      ⟨some 68, some (67, true), .ld true 2 (.t 2)⟩, 
      ⟨some 69, some (67, true), .call 32 [(1, (.t 68))]⟩, 
      ⟨some 70, some (67, true), .ld true 2 (.t 2)⟩, 
      ⟨some 71, some (67, true), .call 33 [(1, (.t 70))]⟩, 
      ⟨some 72, some (67, true), .call 14 [(1, (.t 69)), (1, (.t 71))]⟩, 
      ⟨some 73, none, .pick (.t 67) (.t 72) (.k (.b false))⟩, 
      ⟨some 74, none, .mv (.t 73)⟩, 
      ⟨some 75, some (74, true), .ld true 2 (.t 2)⟩, 
      ⟨some 76, some (74, true), .call 34 [(1, (.t 75))]⟩, 
      ⟨some 77, some (74, true), .fad 1 (.t 2)⟩, 
      ⟨some 78, some (74, true), .ld false 1 (.t 77)⟩, 
      ⟨some 79, some (74, true), .call 35 [(1, (.t 78))]⟩, 
      ⟨some 80, some (74, true), .call 9 [(1, (.t 76)), (1, (.t 79))]⟩, 
      ⟨some 81, none, .pick (.t 74) (.t 80) (.k (.b false))⟩, 
      ⟨some 82, none, .mv (.t 81)⟩, 
      ⟨some 83, some (82, true), .ld true 2 (.t 2)⟩, 
      ⟨some 84, some (82, true), .call 36 [(1, (.t 83))]⟩, 
      ⟨some 85, some (82, true), .fad 1 (.t 2)⟩, 
      ⟨some 86, some (82, true), .ld false 1 (.t 85)⟩, 
      ⟨some 87, some (82, true), .call 37 [(1, (.t 86))]⟩, 
      ⟨some 88, some (82, true), .bin .eql (.t 84) (.t 87)⟩, 
      ⟨some 89, none, .pick (.t 82) (.t 88) (.k (.b false))⟩, 
      ⟨some 4, none, .mv (.t 89)⟩])
  (.ret))))))
theorem zzForms_spec (s : Bool) (a : List Nat) (n : Int) (m : Nat) (hm : m ≤ 2000000) (ha : Wd a) (la : a.length ≤ m) (n1 : -9223372036854775808 ≤ n) (n2 : n < 9223372036854775808) : AFun Try.prog J0 5 [zL s a, .i .i64 n] (.b true) := by
  have l1 := zv_lt (s := s) ha la
  have ll := nvlt ha la
  have p1 := rzsmall_spec s a ha (by omega)
  have p2 := zsmall_spec s a ha (by omega)
  have p3 := zofn_spec n n1 n2
  have p4 := rzof_spec n n1 n2
  have p5 := znat_spec s a ha (by omega)
  have p6 := rznorm_spec s a ha (by omega)
  have p7 := znorm_spec s a ha (by omega)
  have p8 := zisNorm_spec s a ha (by omega)
  have p9 := rzisNorm_spec s a ha (by omega)
  have p10 := zsign_spec s a ha (by omega)
  have p11 := rzsign_spec s a ha (by omega)
  have p12 := zneg_spec s a ha (by omega)
  have p13 := rzneg_spec s a ha (by omega)
  have p14 := (zabs_spec s a ha (by omega)).frozen
  have p15 := (rnorm_spec a ha (by omega)).frozen
  have p16 := zbits_spec s a ha (by omega)
  have p17 := rbits_spec a ha (by omega)
  rw [bl_dg2] at p17
  have q1 := zsame_true (rfl : n = n) (m := 1) (zsm n (by omega)) (by decide)
  have q2 := zsame_true (rfl : zv s a = zv s a) l1 (by omega)
  have q3 := zsame_true (rfl : -(zv s a) = -(zv s a)) (by rw [Int.natAbs_neg]; exact l1) (by omega)
  have q4 := same_true (rfl : dg B (nv B a) = dg B (nv B a)) (by have := dlen ll; omega)
  generalize (decide (tz a = a) && !(s && decide (a.length = 0))) = t at *
  generalize smV (zv s a) = v1 at *
  generalize smE (zv s a) = v2 at *
  generalize sgz (zv s a) = v3 at *
  refine AFun.mk fol J0s Try.func5 rfl (ac := a5) (by kernel_rfl) rfl rfl ?_
  apply vm_start
  unfold a5
  simp only [init_eq, initE]
  have zc1 := zknown_spec
  have zc2 := p1
  have zc3 := p2
  have zc4 := p3
  have zc5 := p4
  have zc6 := q1
  have zc7 := p5
  have zc8 := p6
  have zc9 := q2
  have zc10 := p7
  have zc11 := p8
  have zc12 := p9
  have zc13 := p10
  have zc14 := p11
  have zc15 := p12
  have zc16 := p13
  have zc17 := q3
  have zc18 := p14
  have zc19 := p15
  have zc20 := q4
  have zc21 := p16
  have zc22 := p17
  repeat first | (refine hK _ ?_; clear hK K) | simp only [Sv, ↓reduceIte, Nat.reduceEqDiff] | ((first | refine vm_reg (fun K hK => ?_) | refine vm_dreg (fun K hK => ?_) | refine clp_q ?_ | refine clq_mk (by assumption) ?_); simp (disch := (first | omega | assumption)) only [S1, ↓reduceIte, Nat.reduceEqDiff, Nat.reduceAdd, Nat.reduceMul, Nat.reduceDiv, AOp.sb, AOp.mut, ↓Bool.false_eq_true, beq_self_eq_true, ite_self, Nat.reduceLeDiff, Int.reduceEq, Int.reduceSub, Int.reduceAdd, Int.reduceNeg, Int.reduceLT, Int.reduceLE, Nat.reduceLT, bz_LZForms, List.length_nil])
  simp (disch := (first | omega | assumption)) only [retOk, retN, ret1, retF, ret1F, V.okArg, and_true, true_and, S1, ↓reduceIte, Nat.reduceEqDiff, Nat.reduceAdd, Nat.reduceMul, Nat.reduceDiv, AOp.sb, AOp.mut, ↓Bool.false_eq_true, beq_self_eq_true, ite_self, Nat.reduceLeDiff, Int.reduceEq, Int.reduceSub, Int.reduceAdd, Int.reduceNeg, Int.reduceLT, Int.reduceLE, Nat.reduceLT, bz_LZForms, List.length_nil]
end Go.Proofs.Ytfehegnkbnojaaa
