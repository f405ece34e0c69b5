/-
  DivQuos: the law's walk.
-/
import Derived.Test.YtngohbpgdeiodaaGH
import Derived.Test.YtngohbpgdeiodaaLKn
namespace Go.Proofs.Ytngohbpgdeiodaa
open Go Go.RowKit Ab
set_option linter.unusedSimpArgs false
set_option linter.unusedVariables false
set_option maxHeartbeats 10000000

theorem exQ_len {u v m : Nat} (h : u < B ^ m) : (exQ u v).length ≤ m := by
  unfold exQ; split
  · exact Nat.zero_le _
  · split
    · exact dlen (Nat.lt_of_le_of_lt (Nat.div_le_self _ _) h)
    · exact Nat.zero_le _
theorem div1_lt {u v m : Nat} (h : u < B ^ m) : u / v + 1 < B ^ (m + 1) := by
  have := Nat.div_le_self u v
  have h5 : B ^ m * 2 ≤ B ^ (m + 1) := Nat.mul_le_mul_left _ B2
  omega
theorem upQ_len {u v m : Nat} (h : u < B ^ m) : (upQ u v).length ≤ m + 1 := by
  unfold upQ; split
  · exact Nat.zero_le _
  · split
    · exact Nat.le_succ_of_le (dlen (Nat.lt_of_le_of_lt (Nat.div_le_self _ _) h))
    · exact dlen (div1_lt h)
theorem nrQ_len {u v m : Nat} (h : u < B ^ m) : (nrQ u v).length ≤ m + 1 := by
  unfold nrQ; split
  · exact Nat.zero_le _
  · split
    · exact Nat.le_succ_of_le (dlen (Nat.lt_of_le_of_lt (Nat.div_le_self _ _) h))
    · exact dlen (div1_lt h)
/-- by a word -/
theorem wordQ_spec (a : List Nat) (w : Nat) (ha : Wd a) (hw : w < 18446744073709551616) (la : a.length ≤ 1000000000) :
    AFun Try.prog J0 27 [.l 1 (W a), .i .u64 (w : Int)] (.t [.l 1 (W (qQ (nv B a) w)), .i .u64 ((if w = 0 then 0 else nv B a % w : Nat) : Int), .i .i64 (qE w)]) := by
  by_cases h : w = 0
  · subst h
    rw [if_pos rfl, qQ_0, qE_0]
    exact word_zero a
  · rw [if_neg h, qE_p (by omega)]
    exact word_spec a w ha (by omega) hw (by omega)
-- surd/surdlaw04.DivQuos
def a4 : AC := .seq (.reg [⟨some 6, none, .mv (.k (.b false))⟩])
  (.seq (.seq (.reg [⟨some 15, none, .call 11 []⟩, 
        ⟨some 16, none, .un .not (.t 15)⟩])
    (.cond (.t 16)
    (.seq (.reg [⟨some 6, none, .mv (.k (.b false))⟩])
      (.ret))
    (.skip)))
  (.seq (.reg [⟨some 18, none, .mv (.t 0)⟩, 
      ⟨some 19, none, .mv (.t 1)⟩, 
      ⟨some 20, none, .call 15 [(1, (.t 18)), (1, (.t 19))]⟩, 
      ⟨some 17, none, .mv (.t 20)⟩, 
      ⟨some 21, none, .ext (.t 17) 0⟩, 
      ⟨some 22, none, .ext (.t 17) 1⟩, 
      ⟨some 23, none, .ext (.t 17) 2⟩, 
      ⟨some 7, none, .mv (.t 21)⟩, 
      ⟨some 8, none, .mv (.t 22)⟩, 
      ⟨some 9, none, .mv (.t 23)⟩])
  (.seq (.reg [⟨some 25, none, .mv (.t 0)⟩, 
      ⟨some 26, none, .mv (.t 1)⟩, 
      ⟨some 27, none, .call 16 [(1, (.t 25)), (1, (.t 26))]⟩, 
      ⟨some 24, none, .mv (.t 27)⟩, 
      ⟨some 28, none, .ext (.t 24) 0⟩, 
      ⟨some 29, none, .ext (.t 24) 1⟩, 
      ⟨some 30, none, .ext (.t 24) 2⟩, 
      ⟨some 10, none, .mv (.t 28)⟩, 
      ⟨some 11, none, .mv (.t 29)⟩, 
      ⟨some 12, none, .mv (.t 30)⟩])
  (.seq (.seq (.reg [⟨some 31, none, .mv (.t 7)⟩, 
        ⟨some 32, none, .mv (.t 10)⟩, 
        ⟨some 33, none, .call 14 [(1, (.t 31)), (1, (.t 32))]⟩, 
        ⟨some 34, none, .un .not (.t 33)⟩, 
        ⟨some 35, none, .mv (.t 34)⟩, 
        ⟨some 36, some (35, false), .mv (.t 8)⟩, 
        ⟨some 37, some (35, false), .mv (.t 11)⟩, 
        ⟨some 38, some (35, false), .call 14 [(1, (.t 36)), (1, (.t 37))]⟩, 
        ⟨some 39, some (35, false), .un .not (.t 38)⟩, 
        ⟨some 40, none, .pick (.t 35) (.k (.b true)) (.t 39)⟩, 
        ⟨some 41, none, .mv (.t 40)⟩, 
        ⟨some 42, some (41, false), .mv (.t 9)⟩, 
        ⟨some 43, some (41, false), .mv (.t 12)⟩, 
        ⟨some 44, some (41, false), .bin .neq (.t 42) (.t 43)⟩, 
        ⟨some 45, none, .pick (.t 41) (.k (.b true)) (.t 44)⟩])
    (.cond (.t 45)
    (.seq (.reg [⟨some 6, none, .mv (.k (.b false))⟩])
      (.ret))
    (.skip)))
  (.seq (.reg [⟨some 47, none, .mv (.t 0)⟩, 
      ⟨some 48, none, .mv (.t 1)⟩, 
      ⟨some 49, none, .call 17 [(1, (.t 47)), (1, (.t 48))]⟩, 
      ⟨some 46, none, .mv (.t 49)⟩, 
      ⟨some 50, none, .ext (.t 46) 0⟩, 
      ⟨some 51, none, .ext (.t 46) 1⟩, 
      ⟨some 11, none, .mv (.t 50)⟩, 
      ⟨some 12, none, .mv (.t 51)⟩])
  (.seq (.seq (.reg [⟨some 52, none, .mv (.t 8)⟩, 
        ⟨some 53, none, .mv (.t 11)⟩, 
        ⟨some 54, none, .call 14 [(1, (.t 52)), (1, (.t 53))]⟩, 
        ⟨some 55, none, .un .not (.t 54)⟩, 
        ⟨some 56, none, .mv (.t 55)⟩, 
        ⟨some 57, some (56, false), .mv (.t 9)⟩, 
        ⟨some 58, some (56, false), .mv (.t 12)⟩, 
        ⟨some 59, some (56, false), .bin .neq (.t 57) (.t 58)⟩, 
        ⟨some 60, none, .pick (.t 56) (.k (.b true)) (.t 59)⟩])
    (.cond (.t 60)
    (.seq (.reg [⟨some 6, none, .mv (.k (.b false))⟩])
      (.ret))
    (.skip)))
  (.seq (.reg [⟨some 62, none, .mv (.t 0)⟩, 
      ⟨some 63, none, .mv (.t 1)⟩, 
      ⟨some 64, none, .call 18 [(1, (.t 62)), (1, (.t 63))]⟩, 
      ⟨some 61, none, .mv (.t 64)⟩, 
      ⟨some 65, none, .ext (.t 61) 0⟩, 
      ⟨some 66, none, .ext (.t 61) 1⟩, 
      ⟨some 7, none, .mv (.t 65)⟩, 
      ⟨some 9, none, .mv (.t 66)⟩])
  (.seq (.reg [⟨some 68, none, .mv (.t 0)⟩, 
      ⟨some 69, none, .mv (.t 1)⟩, 
      ⟨some 70, none, .call 19 [(1, (.t 68)), (1, (.t 69))]⟩, 
      ⟨some 67, none, .mv (.t 70)⟩, 
      ⟨some 71, none, .ext (.t 67) 0⟩, 
      ⟨some 72, none, .ext (.t 67) 1⟩, 
      ⟨some 10, none, .mv (.t 71)⟩, 
      ⟨some 12, none, .mv (.t 72)⟩])
  (.seq (.seq (.reg [⟨some 73, none, .mv (.t 7)⟩, 
        ⟨some 74, none, .mv (.t 10)⟩, 
        ⟨some 75, none, .call 14 [(1, (.t 73)), (1, (.t 74))]⟩, 
        ⟨some 76, none, .un .not (.t 75)⟩, 
        ⟨some 77, none, .mv (.t 76)⟩, 
        ⟨some 78, some (77, false), .mv (.t 9)⟩, 
        ⟨some 79, some (77, false), .mv (.t 12)⟩, 
        ⟨some 80, some (77, false), .bin .neq (.t 78) (.t 79)⟩, 
        ⟨some 81, none, .pick (.t 77) (.k (.b true)) (.t 80)⟩, 
        ⟨some 82, none, .mv (.t 81)⟩, 
        ⟨some 83, some (82, false), .mv (.t 1)⟩, 
        ⟨some 84, some (82, false), .mv (.t 0)⟩, 
        ⟨some 85, some (82, false), .call 20 [(1, (.t 83)), (1, (.t 84))]⟩, 
        ⟨some 86, some (82, false), .mv (.t 1)⟩, 
        ⟨some 87, some (82, false), .mv (.t 0)⟩, 
        ⟨some 88, some (82, false), .call 21 [(1, (.t 86)), (1, (.t 87))]⟩, 
        ⟨some 89, some (82, false), .eqb true (.t 85) (.t 88)⟩, 
        ⟨some 90, none, .pick (.t 82) (.k (.b true)) (.t 89)⟩])
    (.cond (.t 90)
    (.seq (.reg [⟨some 6, none, .mv (.k (.b false))⟩])
      (.ret))
    (.skip)))
  (.seq (.reg [⟨some 92, none, .mv (.t 0)⟩, 
      ⟨some 93, none, .mv (.t 1)⟩, 
      ⟨some 94, none, .call 22 [(1, (.t 92)), (1, (.t 93))]⟩, 
      ⟨some 91, none, .mv (.t 94)⟩, 
      ⟨some 95, none, .ext (.t 91) 0⟩, 
      ⟨some 96, none, .ext (.t 91) 1⟩, 
      ⟨some 7, none, .mv (.t 95)⟩, 
      ⟨some 9, none, .mv (.t 96)⟩])
  (.seq (.reg [⟨some 98, none, .mv (.t 0)⟩, 
      ⟨some 99, none, .mv (.t 1)⟩, 
      ⟨some 100, none, .call 23 [(1, (.t 98)), (1, (.t 99))]⟩, 
      ⟨some 97, none, .mv (.t 100)⟩, 
      ⟨some 101, none, .ext (.t 97) 0⟩, 
      ⟨some 102, none, .ext (.t 97) 1⟩, 
      ⟨some 10, none, .mv (.t 101)⟩, 
      ⟨some 12, none, .mv (.t 102)⟩])
  (.seq (.seq (.reg [⟨some 103, none, .mv (.t 7)⟩, 
        ⟨some 104, none, .mv (.t 10)⟩, 
        ⟨some 105, none, .call 14 [(1, (.t 103)), (1, (.t 104))]⟩, 
        ⟨some 106, none, .un .not (.t 105)⟩, 
        ⟨some 107, none, .mv (.t 106)⟩, 
        ⟨some 108, some (107, false), .mv (.t 9)⟩, 
        ⟨some 109, some (107, false), .mv (.t 12)⟩, 
        ⟨some 110, some (107, false), .bin .neq (.t 108) (.t 109)⟩, 
        ⟨some 111, none, .pick (.t 107) (.k (.b true)) (.t 110)⟩])
    (.cond (.t 111)
    (.seq (.reg [⟨some 6, none, .mv (.k (.b false))⟩])
      (.ret))
    (.skip)))
  (.seq (.reg [⟨some 113, none, .mv (.t 0)⟩, 
      ⟨some 114, none, .mv (.t 1)⟩, 
      ⟨some 115, none, .call 24 [(1, (.t 113)), (1, (.t 114))]⟩, 
      ⟨some 112, none, .mv (.t 115)⟩, 
      ⟨some 116, none, .ext (.t 112) 0⟩, 
      ⟨some 117, none, .ext (.t 112) 1⟩, 
      ⟨some 7, none, .mv (.t 116)⟩, 
      ⟨some 9, none, .mv (.t 117)⟩])
  (.seq (.reg [⟨some 119, none, .mv (.t 0)⟩, 
      ⟨some 120, none, .mv (.t 1)⟩, 
      ⟨some 121, none, .call 25 [(1, (.t 119)), (1, (.t 120))]⟩, 
      ⟨some 118, none, .mv (.t 121)⟩, 
      ⟨some 122, none, .ext (.t 118) 0⟩, 
      ⟨some 123, none, .ext (.t 118) 1⟩, 
      ⟨some 10, none, .mv (.t 122)⟩, 
      ⟨some 12, none, .mv (.t 123)⟩])
  (.seq (.seq (.reg [⟨some 124, none, .mv (.t 7)⟩, 
        ⟨some 125, none, .mv (.t 10)⟩, 
        ⟨some 126, none, .call 14 [(1, (.t 124)), (1, (.t 125))]⟩, 
        ⟨some 127, none, .un .not (.t 126)⟩, 
        ⟨some 128, none, .mv (.t 127)⟩, 
        ⟨some 129, some (128, false), .mv (.t 9)⟩, 
        ⟨some 130, some (128, false), .mv (.t 12)⟩, 
        ⟨some 131, some (128, false), .bin .neq (.t 129) (.t 130)⟩, 
        ⟨some 132, none, .pick (.t 128) (.k (.b true)) (.t 131)⟩])
    (.cond (.t 132)
    (.seq (.reg [⟨some 6, none, .mv (.k (.b false))⟩])
      (.ret))
    (.skip)))
  (.seq (.reg [⟨some 134, none, .mv (.t 0)⟩, 
      ⟨some 135, none, .mv (.t 2)⟩, 
      ⟨some 136, none, .call 26 [(1, (.t 134)), (1, (.t 135))]⟩, 
      ⟨some 133, none, .mv (.t 136)⟩, 
      ⟨some 137, none, .ext (.t 133) 0⟩, 
      ⟨some 138, none, .ext (.t 133) 1⟩, 
      ⟨some 139, none, .ext (.t 133) 2⟩, 
      ⟨some 7, none, .mv (.t 137)⟩, 
      ⟨some 13, none, .mv (.t 138)⟩, 
      ⟨some 9, none, .mv (.t 139)⟩])
  (.seq (.reg [⟨some 141, none, .mv (.t 0)⟩, 
      ⟨some 142, none, .mv (.t 2)⟩, 
      ⟨some 143, none, .call 27 [(1, (.t 141)), (1, (.t 142))]⟩, 
      ⟨some 140, none, .mv (.t 143)⟩, 
      ⟨some 144, none, .ext (.t 140) 0⟩, 
      ⟨some 145, none, .ext (.t 140) 1⟩, 
      ⟨some 146, none, .ext (.t 140) 2⟩, 
      ⟨some 10, none, .mv (.t 144)⟩, 
      ⟨some 14, none, .mv (.t 145)⟩, 
      ⟨some 12, none, .mv (.t 146)⟩])
  (.seq (.reg [⟨some 147, none, .mv (.t 7)⟩, 
      ⟨some 148, none, .mv (.t 10)⟩, 
      ⟨some 149, none, .call 14 [(1, (.t 147)), (1, (.t 148))]⟩, 
      ⟨some 150, none, .mv (.t 149)⟩, 
      ⟨some 151, some (150, true), .mv (.t 13)⟩, 
      ⟨some 152, some (150, true), .mv (.t 14)⟩, 
      ⟨some 153, some (150, true), .bin .eql (.t 151) (.t 152)⟩, 
      ⟨some 154, none, .pick (.t 150) (.t 153) (.k (.b false))⟩, 
      ⟨some 155, none, .mv (.t 154)⟩, 
      ⟨some 156, some (155, true), .mv (.t 9)⟩, 
      ⟨some 157, some (155, true), .mv (.t 12)⟩, 
      ⟨some 158, some (155, true), .bin .eql (.t 156) (.t 157)⟩, 
      ⟨some 159, none, .pick (.t 155) (.t 158) (.k (.b false))⟩, 
      ⟨some 6, none, .mv (.t 159)⟩])
  (.ret)))))))))))))))))))
theorem divQuos_spec (a b : List Nat) (w : Nat) (ha : Wd a) (hb : Wd b) (hw : w < 18446744073709551616) (m : Nat) (lm : m ≤ 100000000) (la : a.length ≤ m) (lb : b.length ≤ m) : AFun Try.prog J0 4 [.l 1 (W a), .l 1 (W b), .i .u64 (w : Int)] (.b true) := by
  have hu := nvlt ha la
  have l1 := qQ_len (v := nv B b) hu
  have l2 := qR_len (v := nv B b) hu
  have l3 := exQ_len (v := nv B b) hu
  have l4 := upQ_len (v := nv B b) hu
  have l5 := nrQ_len (v := nv B b) hu
  have l6 := qQ_len (v := w) hu
  have h1 := rquo_spec a b ha hb (by omega) (by omega)
  have h2 := quo_spec a b ha hb (by omega) (by omega)
  have h3 := mod_spec a b ha hb (by omega) (by omega)
  have h4 := rexact_spec a b ha hb (by omega) (by omega)
  have h5 := exact_spec a b ha hb (by omega) (by omega)
  have h6 := divides_spec b a hb ha (by omega) (by omega)
  have h7 := rdivides_spec b a hb ha (by omega) (by omega)
  have h8 := rup_spec a b ha hb (by omega) (by omega)
  have h9 := up_spec a b ha hb (by omega) (by omega)
  have h10 := rnear_spec a b ha hb (by omega) (by omega)
  have h11 := near_spec a b ha hb (by omega) (by omega)
  have h12 := rqword_spec a w ha hw (by omega)
  have h13 := wordQ_spec a w ha hw (by omega)
  generalize qQ (nv B a) (nv B b) = x1 at *
  generalize qR (nv B a) (nv B b) = x2 at *
  generalize exQ (nv B a) (nv B b) = x3 at *
  generalize upQ (nv B a) (nv B b) = x4 at *
  generalize nrQ (nv B a) (nv B b) = x5 at *
  generalize qQ (nv B a) w = x6 at *
  generalize qE (nv B b) = y1 at *
  generalize exE (nv B a) (nv B b) = y2 at *
  generalize qE w = y3 at *
  generalize dvB (nv B a) (nv B b) = y4 at *
  generalize (if w = 0 then 0 else nv B a % w) = y5 at *
  have s1 := same_true (rfl : x1 = x1) (by omega)
  have s2 := same_true (rfl : x2 = x2) (by omega)
  have s3 := same_true (rfl : x3 = x3) (by omega)
  have s4 := same_true (rfl : x4 = x4) (by omega)
  have s5 := same_true (rfl : x5 = x5) (by omega)
  have s6 := same_true (rfl : x6 = x6) (by omega)
  refine AFun.mk fol J0s Try.func4 rfl (ac := a4) (by kernel_rfl) rfl rfl ?_
  apply vm_start
  unfold a4
  simp only [init_eq, initE]
  have zc1 := known_spec
  have zc2 := h1
  have zc3 := h2
  have zc4 := s1
  have zc5 := s2
  have zc6 := h3
  have zc7 := s2
  have zc8 := h4
  have zc9 := h5
  have zc10 := s3
  have zc11 := h6
  have zc12 := h7
  have zc13 := h8
  have zc14 := h9
  have zc15 := s4
  have zc16 := h10
  have zc17 := h11
  have zc18 := s5
  have zc19 := h12
  have zc20 := h13
  have zc21 := s6
  repeat first | (refine hK _ ?_; clear hK K) | simp only [Sv, ↓reduceIte, Nat.reduceEqDiff] | ((first | refine vm_reg (fun K hK => ?_) | refine vm_dreg (fun K hK => ?_) | refine clp_q ?_ | refine clq_mk (by assumption) ?_); simp (disch := (first | omega | assumption)) only [S1, ↓reduceIte, Nat.reduceEqDiff, Nat.reduceAdd, Nat.reduceMul, Nat.reduceDiv, AOp.sb, AOp.mut, ↓Bool.false_eq_true, beq_self_eq_true, ite_self, Nat.reduceLeDiff, Int.reduceEq, Int.reduceSub, Int.reduceAdd, Int.reduceNeg, Int.reduceLT, Int.reduceLE, Nat.reduceLT, wi, tn_nat, Nat.div_one, Nat.mul_one, W_len, W_nf, W_cell, W_nil, W_get, List.length_nil, List.length_cons])
  simp (disch := (first | omega | assumption)) only [retOk, retN, ret1, retF, ret1F, V.okArg, and_true, true_and, S1, ↓reduceIte, Nat.reduceEqDiff, Nat.reduceAdd, Nat.reduceMul, Nat.reduceDiv, AOp.sb, AOp.mut, ↓Bool.false_eq_true, beq_self_eq_true, ite_self, Nat.reduceLeDiff, Int.reduceEq, Int.reduceSub, Int.reduceAdd, Int.reduceNeg, Int.reduceLT, Int.reduceLE, Nat.reduceLT, wi, tn_nat, Nat.div_one, Nat.mul_one, W_len, W_nf, W_cell, W_nil, W_get, List.length_nil, List.length_cons]
end Go.Proofs.Ytngohbpgdeiodaa
