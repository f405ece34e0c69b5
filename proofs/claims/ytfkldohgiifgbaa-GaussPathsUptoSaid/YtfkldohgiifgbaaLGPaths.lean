/-
  GaussPaths: the law's walk.
-/
import Derived.Test.YtfkldohgiifgbaaLGKn
import Derived.Test.YtfkldohgiifgbaaGP
namespace Go.Proofs.Ytfkldohgiifgbaa
open Go Go.RowKit Ab
set_option linter.unusedSimpArgs false
set_option linter.unusedVariables false
set_option maxHeartbeats 10000000
theorem bz_LGPaths : type_of% (And.intro @W_len (And.intro @D_len (And.intro @Nat.div_one (And.intro @Nat.mul_one (And.intro @tn_nat (And.intro @W_nf (And.intro @D_nf (And.intro @W_nil (And.intro @D_nil (And.intro @wi (And.intro @nf_g (And.intro @Bool.false_and (And.intro @W_cell (And.intro @ZC_cell (And.intro @ZC_nil (And.intro @NC_cell (And.intro @NC_nf (@NC_nil)))))))))))))))))) := And.intro @W_len (And.intro @D_len (And.intro @Nat.div_one (And.intro @Nat.mul_one (And.intro @tn_nat (And.intro @W_nf (And.intro @D_nf (And.intro @W_nil (And.intro @D_nil (And.intro @wi (And.intro @nf_g (And.intro @Bool.false_and (And.intro @W_cell (And.intro @ZC_cell (And.intro @ZC_nil (And.intro @NC_cell (And.intro @NC_nf (@NC_nil)))))))))))))))))

theorem NC_drop (l : List GZ) (k : Nat) : (NC l).drop (k * 2) = NC (l.drop k) := by
  induction k generalizing l with
  | zero => simp
  | succ k ih =>
    cases l with
    | nil => simp [NC]
    | cons p r => rw [show (k + 1) * 2 = k * 2 + 2 from by omega, List.drop_succ_cons]; exact ih r
theorem NC_take (l : List GZ) (k : Nat) : (NC l).take (k * 2) = NC (l.take k) := by
  induction k generalizing l with
  | zero => simp [NC]
  | succ k ih =>
    cases l with
    | nil => simp [NC]
    | cons p r => rw [show (k + 1) * 2 = k * 2 + 2 from by omega, List.take_succ_cons]; simp only [NC, List.take_succ_cons, ih r]
def fz (z : GZ) : GZ := (z.1.tmod (100 : Nat), z.2.tmod (100 : Nat))
theorem tmod100 (a : Int) : (a.tmod (100 : Nat)).natAbs < 100 := by
  rw [Int.natAbs_tmod, Int.natAbs_natCast]; exact Nat.mod_lt _ (by decide)
theorem fz_bnd (z : GZ) : -100 < (fz z).1 ∧ (fz z).1 < 100 ∧ -100 < (fz z).2 ∧ (fz z).2 < 100 := by
  have h1 := tmod100 z.1
  have h2 := tmod100 z.2
  unfold fz; simp only []; omega
theorem rev_take (l : List GZ) (m : Nat) (h : m < l.length) : l.reverse.take (m + 1) = l.reverse.take m ++ [l.getD (l.length - 1 - m) (0, 0)] := by
  rw [GZ_snoc l.reverse m (by rw [List.length_reverse]; exact h)]
  congr 2
  rw [List.getD_eq_getElem?_getD, List.getD_eq_getElem?_getD, List.getElem?_reverse (by omega)]
-- surd/surdlaw23.GaussPaths
def a6 : AC := .seq (.reg [⟨some 4, none, .mv (.k (.b false))⟩])
  (.seq (.seq (.reg [⟨some 22, none, .call 12 []⟩, 
        ⟨some 23, none, .un .not (.t 22)⟩])
    (.cond (.t 23)
    (.seq (.reg [⟨some 4, none, .mv (.k (.b false))⟩])
      (.ret))
    (.skip)))
  (.seq (.reg [⟨some 5, none, .mv (.k .nl)⟩, 
      ⟨some 6, none, .mv (.k .nl)⟩, 
      ⟨some 7, none, .mv (.k .nl)⟩, 
      ⟨some 8, none, .mv (.k .nl)⟩])
  (.seq (.seq (.reg [⟨some 9, none, .mv (.k (.i .i64 0))⟩])
    (.blk 0
    (.loop
      (.seq (.seq (.reg [⟨some 24, none, .mv (.t 9)⟩, 
              ⟨some 25, none, .mv (.t 0)⟩, 
              ⟨some 26, none, .len (.t 25)⟩, 
              ⟨some 27, none, .bin .lss (.t 24) (.t 26)⟩])
          (.cond (.t 27)
          (.skip)
          (.exit 0)))
        (.seq (.blk 1
          (.seq (.reg [⟨some 30, none, .mv (.t 0)⟩, 
                ⟨some 31, none, .mv (.t 9)⟩, 
                ⟨some 32, none, .idx 2 (.t 30) (.t 31)⟩, 
                ⟨some 33, none, .ld true 2 (.t 32)⟩, 
                ⟨some 34, none, .call 29 [(1, (.t 33)), (1, (.k (.i .i64 100)))]⟩, 
                ⟨some 10, none, .al 31 [(.i .i64 0), (.i .i64 0)]⟩, 
                ⟨none, none, .st 2 (.t 10) (.t 34)⟩])
            (.seq (.reg [⟨some 35, none, .mv (.t 5)⟩, 
                ⟨some 36, none, .ld true 2 (.t 10)⟩, 
                ⟨some 37, none, .bsl 31 2 1 [(.i .i64 0), (.i .i64 0)] [(0, (.t 36))]⟩, 
                ⟨some 38, none, .app 31 2 16 (.t 35) (.t 37)⟩, 
                ⟨some 5, none, .mv (.t 38)⟩])
            (.seq (.reg [⟨some 39, none, .mv (.t 7)⟩, 
                ⟨some 40, none, .fad 1 (.t 10)⟩, 
                ⟨some 41, none, .ld false 1 (.t 40)⟩, 
                ⟨some 42, none, .un .neg (.t 41)⟩, 
                ⟨some 43, none, .fad 0 (.t 10)⟩, 
                ⟨some 44, none, .ld false 1 (.t 43)⟩, 
                ⟨some 45, none, .bld [(.i .i64 0), (.i .i64 0)] [(0, 1, (.t 42)), (1, 1, (.t 44))]⟩, 
                ⟨some 46, none, .bsl 31 2 1 [(.i .i64 0), (.i .i64 0)] [(0, (.t 45))]⟩, 
                ⟨some 47, none, .app 31 2 16 (.t 39) (.t 46)⟩, 
                ⟨some 7, none, .mv (.t 47)⟩])
            (.reg [⟨some 48, none, .mv (.t 8)⟩, 
              ⟨some 49, none, .fad 0 (.t 10)⟩, 
              ⟨some 50, none, .ld false 1 (.t 49)⟩, 
              ⟨some 51, none, .fad 1 (.t 10)⟩, 
              ⟨some 52, none, .ld false 1 (.t 51)⟩, 
              ⟨some 53, none, .un .neg (.t 52)⟩, 
              ⟨some 54, none, .bld [(.i .i64 0), (.i .i64 0)] [(0, 1, (.t 50)), (1, 1, (.t 53))]⟩, 
              ⟨some 55, none, .bsl 31 2 1 [(.i .i64 0), (.i .i64 0)] [(0, (.t 54))]⟩, 
              ⟨some 56, none, .app 31 2 16 (.t 48) (.t 55)⟩, 
              ⟨some 8, none, .mv (.t 56)⟩])))))
        (.reg [⟨some 28, none, .mv (.t 9)⟩, 
          ⟨some 29, none, .bin .add (.t 28) (.k (.i .i64 1))⟩, 
          ⟨some 9, none, .mv (.t 29)⟩]))))))
  (.seq (.seq (.reg [⟨some 57, none, .mv (.t 5)⟩, 
        ⟨some 58, none, .len (.t 57)⟩, 
        ⟨some 59, none, .bin .sub (.t 58) (.k (.i .i64 1))⟩, 
        ⟨some 11, none, .mv (.t 59)⟩])
    (.blk 2
    (.loop
      (.seq (.seq (.reg [⟨some 60, none, .mv (.t 11)⟩, 
              ⟨some 61, none, .bin .geq (.t 60) (.k (.i .i64 0))⟩])
          (.cond (.t 61)
          (.skip)
          (.exit 2)))
        (.seq (.blk 3
          (.reg [⟨some 64, none, .mv (.t 6)⟩, 
              ⟨some 65, none, .mv (.t 5)⟩, 
              ⟨some 66, none, .mv (.t 11)⟩, 
              ⟨some 67, none, .idx 2 (.t 65) (.t 66)⟩, 
              ⟨some 68, none, .ld true 2 (.t 67)⟩, 
              ⟨some 69, none, .bsl 31 2 1 [(.i .i64 0), (.i .i64 0)] [(0, (.t 68))]⟩, 
              ⟨some 70, none, .app 31 2 16 (.t 64) (.t 69)⟩, 
              ⟨some 6, none, .mv (.t 70)⟩]))
        (.reg [⟨some 62, none, .mv (.t 11)⟩, 
          ⟨some 63, none, .bin .sub (.t 62) (.k (.i .i64 1))⟩, 
          ⟨some 11, none, .mv (.t 63)⟩]))))))
  (.seq (.reg [⟨some 72, none, .mv (.t 5)⟩, 
      ⟨some 73, none, .call 24 [(2, (.t 72))]⟩, 
      ⟨some 71, none, .mv (.t 73)⟩, 
      ⟨some 74, none, .ext (.t 71) 0⟩, 
      ⟨some 75, none, .ext (.t 71) 1⟩, 
      ⟨some 12, none, .mv (.t 74)⟩, 
      ⟨some 13, none, .mv (.t 75)⟩])
  (.seq (.reg [⟨some 77, none, .mv (.t 6)⟩, 
      ⟨some 78, none, .call 24 [(2, (.t 77))]⟩, 
      ⟨some 76, none, .mv (.t 78)⟩, 
      ⟨some 79, none, .ext (.t 76) 0⟩, 
      ⟨some 80, none, .ext (.t 76) 1⟩, 
      ⟨some 14, none, .mv (.t 79)⟩, 
      ⟨some 15, none, .mv (.t 80)⟩])
  (.seq (.reg [⟨some 82, none, .mv (.t 7)⟩, 
      ⟨some 83, none, .call 24 [(2, (.t 82))]⟩, 
      ⟨some 81, none, .mv (.t 83)⟩, 
      ⟨some 84, none, .ext (.t 81) 0⟩, 
      ⟨some 85, none, .ext (.t 81) 1⟩, 
      ⟨some 16, none, .mv (.t 84)⟩, 
      ⟨some 17, none, .mv (.t 85)⟩])
  (.seq (.reg [⟨some 87, none, .mv (.t 8)⟩, 
      ⟨some 88, none, .call 24 [(2, (.t 87))]⟩, 
      ⟨some 86, none, .mv (.t 88)⟩, 
      ⟨some 89, none, .ext (.t 86) 0⟩, 
      ⟨some 90, none, .ext (.t 86) 1⟩, 
      ⟨some 18, none, .mv (.t 89)⟩, 
      ⟨some 19, none, .mv (.t 90)⟩])
  (.seq (.seq (.reg [⟨some 91, none, .mv (.t 13)⟩, 
        ⟨some 92, none, .bin .neq (.t 91) (.k (.i .i64 0))⟩])
    (.cond (.t 92)
    (.seq (.reg [⟨some 93, none, .mv (.t 15)⟩, 
          ⟨some 94, none, .bin .neq (.t 93) (.k (.i .i64 0))⟩, 
          ⟨some 95, none, .mv (.t 94)⟩, 
          ⟨some 96, some (95, true), .mv (.t 17)⟩, 
          ⟨some 97, some (95, true), .bin .neq (.t 96) (.k (.i .i64 0))⟩, 
          ⟨some 98, none, .pick (.t 95) (.t 97) (.k (.b false))⟩, 
          ⟨some 99, none, .mv (.t 98)⟩, 
          ⟨some 100, some (99, true), .mv (.t 19)⟩, 
          ⟨some 101, some (99, true), .bin .neq (.t 100) (.k (.i .i64 0))⟩, 
          ⟨some 102, none, .pick (.t 99) (.t 101) (.k (.b false))⟩, 
          ⟨some 103, none, .mv (.t 102)⟩, 
          ⟨some 104, some (103, true), .mv (.t 12)⟩, 
          ⟨some 105, some (103, true), .bin .eql (.t 104) (.k (.i .i64 0))⟩, 
          ⟨some 106, none, .pick (.t 103) (.t 105) (.k (.b false))⟩, 
          ⟨some 4, none, .mv (.t 106)⟩])
      (.ret))
    (.skip)))
  (.seq (.seq (.reg [⟨some 107, none, .mv (.t 15)⟩, 
        ⟨some 108, none, .bin .neq (.t 107) (.k (.i .i64 0))⟩, 
        ⟨some 109, none, .mv (.t 108)⟩, 
        ⟨some 110, some (109, false), .mv (.t 17)⟩, 
        ⟨some 111, some (109, false), .bin .neq (.t 110) (.k (.i .i64 0))⟩, 
        ⟨some 112, none, .pick (.t 109) (.k (.b true)) (.t 111)⟩, 
        ⟨some 113, none, .mv (.t 112)⟩, 
        ⟨some 114, some (113, false), .mv (.t 19)⟩, 
        ⟨some 115, some (113, false), .bin .neq (.t 114) (.k (.i .i64 0))⟩, 
        ⟨some 116, none, .pick (.t 113) (.k (.b true)) (.t 115)⟩, 
        ⟨some 117, none, .mv (.t 116)⟩, 
        ⟨some 118, some (117, false), .mv (.t 14)⟩, 
        ⟨some 119, some (117, false), .mv (.t 12)⟩, 
        ⟨some 120, some (117, false), .un .neg (.t 119)⟩, 
        ⟨some 121, some (117, false), .bin .neq (.t 118) (.t 120)⟩, 
        ⟨some 122, none, .pick (.t 117) (.k (.b true)) (.t 121)⟩, 
        ⟨some 123, none, .mv (.t 122)⟩, 
        ⟨some 124, some (123, false), .mv (.t 16)⟩, 
        ⟨some 125, some (123, false), .mv (.t 12)⟩, 
        ⟨some 126, some (123, false), .bin .neq (.t 124) (.t 125)⟩, 
        ⟨some 127, none, .pick (.t 123) (.k (.b true)) (.t 126)⟩, 
        ⟨some 128, none, .mv (.t 127)⟩, 
        ⟨some 129, some (128, false), .mv (.t 18)⟩, 
        ⟨some 130, some (128, false), .mv (.t 12)⟩, 
        ⟨some 131, some (128, false), .un .neg (.t 130)⟩, 
        ⟨some 132, some (128, false), .bin .neq (.t 129) (.t 131)⟩, 
        ⟨some 133, none, .pick (.t 128) (.k (.b true)) (.t 132)⟩])
    (.cond (.t 133)
    (.seq (.reg [⟨some 4, none, .mv (.k (.b false))⟩])
      (.ret))
    (.skip)))
  (.seq (.seq (.reg [⟨some 134, none, .mv (.t 5)⟩, 
        ⟨some 135, none, .len (.t 134)⟩, 
        ⟨some 136, none, .bin .eql (.t 135) (.k (.i .i64 0))⟩])
    (.cond (.t 136)
    (.seq (.reg [⟨some 137, none, .mv (.t 12)⟩, 
          ⟨some 138, none, .bin .eql (.t 137) (.k (.i .i64 0))⟩, 
          ⟨some 4, none, .mv (.t 138)⟩])
      (.ret))
    (.skip)))
  (.seq (.reg [⟨some 139, none, .mv (.t 1)⟩, 
      ⟨some 140, none, .cvt .u64 (.t 139)⟩, 
      ⟨some 141, none, .mv (.t 5)⟩, 
      ⟨some 142, none, .len (.t 141)⟩, 
      ⟨some 143, none, .cvt .u64 (.t 142)⟩, 
      ⟨some 144, none, .bin .rem (.t 140) (.t 143)⟩, 
      ⟨some 145, none, .cvt .i64 (.t 144)⟩, 
      ⟨some 1, none, .mv (.t 145)⟩])
  (.seq (.reg [⟨some 20, none, .mv (.k .nl)⟩])
  (.seq (.reg [⟨some 146, none, .mv (.t 20)⟩, 
      ⟨some 147, none, .mv (.t 5)⟩, 
      ⟨some 148, none, .mv (.t 1)⟩, 
      ⟨some 149, none, .sub 2 (.t 147) (some (.t 148)) none⟩, 
      ⟨some 150, none, .app 31 2 16 (.t 146) (.t 149)⟩, 
      ⟨some 20, none, .mv (.t 150)⟩])
  (.seq (.reg [⟨some 151, none, .mv (.t 20)⟩, 
      ⟨some 152, none, .mv (.t 5)⟩, 
      ⟨some 153, none, .mv (.t 1)⟩, 
      ⟨some 154, none, .sub 2 (.t 152) none (some (.t 153))⟩, 
      ⟨some 155, none, .app 31 2 16 (.t 151) (.t 154)⟩, 
      ⟨some 20, none, .mv (.t 155)⟩])
  (.seq (.reg [⟨some 157, none, .mv (.t 20)⟩, 
      ⟨some 158, none, .call 24 [(2, (.t 157))]⟩, 
      ⟨some 156, none, .mv (.t 158)⟩, 
      ⟨some 159, none, .ext (.t 156) 0⟩, 
      ⟨some 160, none, .ext (.t 156) 1⟩, 
      ⟨some 21, none, .mv (.t 159)⟩, 
      ⟨some 13, none, .mv (.t 160)⟩])
  (.seq (.reg [⟨some 161, none, .mv (.t 13)⟩, 
      ⟨some 162, none, .bin .eql (.t 161) (.k (.i .i64 0))⟩, 
      ⟨some 163, none, .mv (.t 162)⟩, 
      ⟨some 164, some (163, true), .mv (.t 21)⟩, 
      ⟨some 165, some (163, true), .mv (.t 12)⟩, 
      ⟨some 166, some (163, true), .bin .eql (.t 164) (.t 165)⟩, 
      ⟨some 167, none, .pick (.t 163) (.t 166) (.k (.b false))⟩, 
      ⟨some 168, none, .mv (.t 167)⟩, 
      ⟨some 169, some (168, true), .mv (.t 12)⟩, 
      ⟨some 170, some (168, true), .mv (.t 5)⟩, 
      ⟨some 171, some (168, true), .len (.t 170)⟩, 
      ⟨some 172, some (168, true), .bin .leq (.t 169) (.t 171)⟩, 
      ⟨some 173, none, .pick (.t 168) (.t 172) (.k (.b false))⟩, 
      ⟨some 174, none, .mv (.t 173)⟩, 
      ⟨some 175, some (174, true), .mv (.t 12)⟩, 
      ⟨some 176, some (174, true), .mv (.t 5)⟩, 
      ⟨some 177, some (174, true), .len (.t 176)⟩, 
      ⟨some 178, some (174, true), .un .neg (.t 177)⟩, 
      ⟨some 179, some (174, true), .bin .geq (.t 175) (.t 178)⟩, 
      ⟨some 180, none, .pick (.t 174) (.t 179) (.k (.b false))⟩, 
      ⟨some 4, none, .mv (.t 180)⟩])
  (.ret))))))))))))))))))
set_option maxRecDepth 100000 in
theorem gaussPaths_spec (zs : List GZ) (k : Int) (lz : zs.length ≤ 10000000) (hk : Pi k) : AFun Try.prog J0 6 [.l 2 (NC zs), .i .i64 k] (.b true) := by
  have hnl : (NC zs).length / 2 = zs.length := by rw [NC_len]; omega
  have hnz := NC_len zs
  have hd : zs.length * 2 / 2 = zs.length := by omega
  obtain ⟨P, hP⟩ : ∃ P, P = zs.map fz := ⟨_, rfl⟩
  have lP : P.length = zs.length := by rw [hP, List.length_map]
  obtain ⟨n, hn⟩ : ∃ n, n = zs.length := ⟨_, rfl⟩
  rw [← hn] at hnl hnz hd lP lz
  have t1 := gturnsS P (by omega)
  have t2 := gturnsS P.reverse (by rw [List.length_reverse]; omega)
  have t3 := gturnsS (P.map grot) (by rw [List.length_map]; omega)
  have t4 := gturnsS (P.map gmir) (by rw [List.length_map]; omega)
  have t5 := fun q => gturnsS (P.drop q ++ P.take q) (by rw [List.length_append, List.length_drop, List.length_take]; omega)
  have f2 := tu_back P
  have f3 := tu_rot P
  have f4 := tu_mir P
  have f5 := tu_rotl P
  have f6 := tuF_bnd P
  have f7 := tuF_bad (zs := P)
  rw [lP] at f6
  have hfe := fun z => few_spec z 100 (by decide) (by decide)
  simp only [nV] at hfe
  have nl1 : ∀ l : List GZ, (NC l).length = l.length * 2 := NC_len
  refine AFun.mk fol J0s Try.func6 rfl (ac := a6) (by kernel_rfl) rfl rfl ?_
  apply vm_start
  unfold a6
  simp only [init_eq, initE]
  have zc1 := gknown_spec
  repeat first | (refine hK _ ?_; clear hK K) | simp only [Sv, ↓reduceIte, Nat.reduceEqDiff] | ((first | refine vm_reg (fun K hK => ?_) | refine vm_dreg (fun K hK => ?_) | refine clp_q ?_ | refine clq_mk (by assumption) ?_); simp (disch := (first | omega | assumption)) only [S1, ↓reduceIte, Nat.reduceEqDiff, Nat.reduceAdd, Nat.reduceMul, Nat.reduceDiv, AOp.sb, AOp.mut, ↓Bool.false_eq_true, beq_self_eq_true, ite_self, Nat.reduceLeDiff, Int.reduceEq, Int.reduceSub, Int.reduceAdd, Int.reduceNeg, Int.reduceLT, Int.reduceLE, Nat.reduceLT, bz_LGPaths])
  refine vm_loopA [(5, 31, 2), (7, 31, 2), (8, 31, 2)] Nat (fun i => ⟨[(0, .l 2 (NC zs)), (1, .i .i64 k), (5, .ow 2 0 i), (6, .nl), (7, .ow 2 1 i), (8, .ow 2 2 i), (9, .i .i64 (i : Int))],
      [(0, some ⟨31, 2, NC ((zs.take i).map fz), true, false⟩), (1, some ⟨31, 2, NC (((zs.take i).map fz).map grot), true, false⟩), (2, some ⟨31, 2, NC (((zs.take i).map fz).map gmir), true, false⟩)], 3⟩)
    (fun i => i ≤ n) (fun i => n - i) 0 (Nat.zero_le _) (by simp (disch := (first | omega | assumption)) only [Sl, Sa, Sw, ↓reduceIte, Nat.reduceEqDiff, Nat.reduceLT, List.all_nil, List.all_cons, Nat.reduceBneDiff, Nat.reduceAdd, bne_iff_ne, ne_eq, reduceCtorEq, not_false_eq_true, not_true_eq_false, Bool.and_true, Bool.true_and, and_true, true_and, and_self]) (by
    simp (disch := (first | omega | assumption)) only [Sl, Sa, Sw, ↓reduceIte, Nat.reduceEqDiff, Nat.reduceLT, List.all_nil, List.all_cons, Nat.reduceBneDiff, Nat.reduceAdd, bne_iff_ne, ne_eq, reduceCtorEq, not_false_eq_true, not_true_eq_false, Bool.and_true, Bool.true_and, and_true, true_and, and_self, i_eq]
    repeat' first | rfl | omega | (simp only [List.length_append, List.length_cons, List.length_nil]; done) | apply And.intro) ?_
  intro i hi Q' hQ he hr
  by_cases h : (i : Int) < (n : Int)
  · have hiz : i < zs.length := by omega
    have row := NC_row zs i hiz
    have hsn := GZ_snoc zs i hiz
    have hf := hfe (zs.getD i (0, 0))
    have hb := fz_bnd (zs.getD i (0, 0))
    generalize zs.getD i (0, 0) = z at *
    have e1 : (zs.take (i + 1)).map fz = (zs.take i).map fz ++ [fz z] := by rw [hsn, List.map_append]; rfl
    obtain ⟨A, hA⟩ : ∃ A, A = (zs.take i).map fz := ⟨_, rfl⟩
    obtain ⟨A', hA'⟩ : ∃ A', A' = (zs.take (i + 1)).map fz := ⟨_, rfl⟩
    rw [← hA, ← hA'] at e1
    have lA : A.length = i := by rw [hA, List.length_map, List.length_take]; omega
    have lA' : A'.length = i + 1 := by rw [hA', List.length_map, List.length_take]; omega
    have a1 := NC_app1 A (fz z).1 (fz z).2
    rw [show A ++ [((fz z).1, (fz z).2)] = A' from e1.symm] at a1
    have a2 := NC_app1 (A.map grot) (-(fz z).2) (fz z).1
    rw [show A.map grot ++ [(-(fz z).2, (fz z).1)] = A'.map grot from by rw [e1, List.map_append]; rfl] at a2
    have a3 := NC_app1 (A.map gmir) (fz z).1 (-(fz z).2)
    rw [show A.map gmir ++ [((fz z).1, -(fz z).2)] = A'.map gmir from by rw [e1, List.map_append]; rfl] at a3
    have m1 := nl1 A
    have m2 := nl1 (A.map grot)
    have m3 := nl1 (A.map gmir)
    have m1' := nl1 A'
    have m2' := nl1 (A'.map grot)
    have m3' := nl1 (A'.map gmir)
    rw [List.length_map] at m2 m3 m2' m3'
    rw [lA] at m1 m2 m3
    rw [lA'] at m1' m2' m3'
    rw [show z.1.tmod ((100 : Nat) : Int) = (fz z).1 from rfl, show z.2.tmod ((100 : Nat) : Int) = (fz z).2 from rfl] at hf
    have hw : IntKind.i64.wrap (0 - (fz z).2) = -(fz z).2 := by rw [wi (by omega)]; omega
    rw [← hA]
    have zc2 := hf
    repeat first | (refine hK _ ?_; clear hK K) | simp only [Sv, ↓reduceIte, Nat.reduceEqDiff] | ((first | refine vm_reg (fun K hK => ?_) | refine vm_dreg (fun K hK => ?_) | refine clp_q ?_ | refine clq_mk (by assumption) ?_); simp (disch := (first | omega | assumption)) only [S1, ↓reduceIte, Nat.reduceEqDiff, Nat.reduceAdd, Nat.reduceMul, Nat.reduceDiv, AOp.sb, AOp.mut, ↓Bool.false_eq_true, beq_self_eq_true, ite_self, Nat.reduceLeDiff, Int.reduceEq, Int.reduceSub, Int.reduceAdd, Int.reduceNeg, Int.reduceLT, Int.reduceLE, Nat.reduceLT, bz_LGPaths, h, hnz, hd, row, a1, a2, a3, hw])
    refine hQ _ (i + 1) (by omega) (by omega) ?_
    simp only [← hA']
    simp (disch := (first | omega | assumption)) only [Sl, Sa, Sw, ↓reduceIte, Nat.reduceEqDiff, Nat.reduceLT, List.all_nil, List.all_cons, Nat.reduceBneDiff, Nat.reduceAdd, bne_iff_ne, ne_eq, reduceCtorEq, not_false_eq_true, not_true_eq_false, Bool.and_true, Bool.true_and, and_true, true_and, and_self, i_eq]
    repeat' first | rfl | omega | (simp only [List.length_append, List.length_cons, List.length_nil]; done) | apply And.intro
  · obtain rfl : i = n := by omega
    rw [show (zs.take i).map fz = P from by rw [hn, List.take_length, hP]]
    have lPr := nl1 P
    rw [lP] at lPr
    repeat first
      | (refine hK _ ?_; clear hK K)
      | ((first | refine vm_reg (fun K hK => ?_) | refine vm_dreg (fun K hK => ?_)); simp (disch := (first | omega | assumption)) only [S1, ↓reduceIte, Nat.reduceEqDiff, Nat.reduceAdd, Nat.reduceMul, Nat.reduceDiv, AOp.sb, AOp.mut, ↓Bool.false_eq_true, beq_self_eq_true, ite_self, Nat.reduceLeDiff, Int.reduceEq, Int.reduceSub, Int.reduceAdd, Int.reduceNeg, Int.reduceLT, Int.reduceLE, Nat.reduceLT, bz_LGPaths, h, hnl]; refine hK _ ?_; clear hK K)
      | simp only [Sv, ↓reduceIte, Nat.reduceEqDiff]
    refine he _ _ ?_
    repeat first
      | (refine hK _ ?_; clear hK K)
      | ((first | refine vm_reg (fun K hK => ?_) | refine vm_dreg (fun K hK => ?_)); simp (disch := (first | omega | assumption)) only [S1, ↓reduceIte, Nat.reduceEqDiff, Nat.reduceAdd, Nat.reduceMul, Nat.reduceDiv, AOp.sb, AOp.mut, ↓Bool.false_eq_true, beq_self_eq_true, ite_self, Nat.reduceLeDiff, Int.reduceEq, Int.reduceSub, Int.reduceAdd, Int.reduceNeg, Int.reduceLT, Int.reduceLE, Nat.reduceLT, bz_LGPaths]; refine hK _ ?_; clear hK K)
      | simp only [Sv, ↓reduceIte, Nat.reduceEqDiff]
    refine vm_loopA [(6, 31, 2)] Nat (fun m => ⟨[(1, .i .i64 k), (5, .ow 2 0 i), (6, .ow 2 1 m), (7, .ow 2 2 i), (8, .ow 2 3 i), (11, .i .i64 ((i : Int) - 1 - (m : Int)))],
        [(0, some ⟨31, 2, NC P, true, false⟩), (1, some ⟨31, 2, NC (P.reverse.take m), true, false⟩), (2, some ⟨31, 2, NC (P.map grot), true, false⟩), (3, some ⟨31, 2, NC (P.map gmir), true, false⟩)], 4⟩)
      (fun m => m ≤ i) (fun m => i - m) 0 (Nat.zero_le _) (by simp (disch := (first | omega | assumption)) only [Sl, Sa, Sw, ↓reduceIte, Nat.reduceEqDiff, Nat.reduceLT, List.all_nil, List.all_cons, Nat.reduceBneDiff, Nat.reduceAdd, bne_iff_ne, ne_eq, reduceCtorEq, not_false_eq_true, not_true_eq_false, Bool.and_true, Bool.true_and, and_true, true_and, and_self]) (by
      simp (disch := (first | omega | assumption)) only [Sl, Sa, Sw, ↓reduceIte, Nat.reduceEqDiff, Nat.reduceLT, List.all_nil, List.all_cons, Nat.reduceBneDiff, Nat.reduceAdd, bne_iff_ne, ne_eq, reduceCtorEq, not_false_eq_true, not_true_eq_false, Bool.and_true, Bool.true_and, and_true, true_and, and_self, i_eq]
      repeat' first | rfl | omega | (simp only [List.length_append, List.length_cons, List.length_nil]; done) | apply And.intro) ?_
    intro m hm Q2 hQ2 he2 hr2
    by_cases hmi : (0 : Int) ≤ (i : Int) - 1 - (m : Int)
    · have hml : m < P.length := by omega
      have row := NC_row P (P.length - 1 - m) (by omega)
      have hsn := rev_take P m hml
      rw [lP] at row hsn
      have htn : ((i : Int) - 1 - (m : Int)).toNat = i - 1 - m := by omega
      generalize P.getD (i - 1 - m) (0, 0) = z at *
      have a1 := NC_app1 (P.reverse.take m) z.1 z.2
      rw [show P.reverse.take m ++ [(z.1, z.2)] = P.reverse.take (m + 1) from hsn.symm] at a1
      have m1 := nl1 (P.reverse.take m)
      have m1' := nl1 (P.reverse.take (m + 1))
      rw [List.length_take, List.length_reverse] at m1 m1'
      repeat first
        | (refine hK _ ?_; clear hK K)
        | ((first | refine vm_reg (fun K hK => ?_) | refine vm_dreg (fun K hK => ?_)); simp (disch := (first | omega | assumption)) only [S1, ↓reduceIte, Nat.reduceEqDiff, Nat.reduceAdd, Nat.reduceMul, Nat.reduceDiv, AOp.sb, AOp.mut, ↓Bool.false_eq_true, beq_self_eq_true, ite_self, Nat.reduceLeDiff, Int.reduceEq, Int.reduceSub, Int.reduceAdd, Int.reduceNeg, Int.reduceLT, Int.reduceLE, Nat.reduceLT, bz_LGPaths, hmi, htn, lPr, row, a1]; refine hK _ ?_; clear hK K)
        | simp only [Sv, ↓reduceIte, Nat.reduceEqDiff]
      refine hQ2 _ (m + 1) (by omega) (by omega) ?_
      simp (disch := (first | omega | assumption)) only [Sl, Sa, Sw, ↓reduceIte, Nat.reduceEqDiff, Nat.reduceLT, List.all_nil, List.all_cons, Nat.reduceBneDiff, Nat.reduceAdd, bne_iff_ne, ne_eq, reduceCtorEq, not_false_eq_true, not_true_eq_false, Bool.and_true, Bool.true_and, and_true, true_and, and_self, i_eq]
      repeat' first | rfl | omega | (simp only [List.length_append, List.length_cons, List.length_nil]; done) | apply And.intro
    · obtain rfl : m = i := by omega
      rw [show P.reverse.take m = P.reverse from List.take_of_length_le (by rw [List.length_reverse]; omega)]
      have m2 := nl1 P.reverse
      have m3 := nl1 (P.map grot)
      have m4 := nl1 (P.map gmir)
      rw [List.length_reverse, lP] at m2
      rw [List.length_map, lP] at m3 m4
      by_cases e0 : tuE P = 0
      · have g2 := f2.1.2 e0
        have g3 := f3.1.2 e0
        have g4 := f4.1.2 e0
        have k2 := f2.2 e0
        have k3 := f3.2 e0
        have k4 := f4.2 e0
        rw [e0] at t1
        rw [g2, k2] at t2
        rw [g3, k3] at t3
        rw [g4, k4] at t4
        have wn : IntKind.i64.wrap (0 - tuF P) = -tuF P := by rw [wi (by omega)]; omega
        rcases Nat.eq_zero_or_pos m with hm0 | hm0
        · have hP0 : P = [] := List.eq_nil_of_length_eq_zero (by omega)
          have ht0 : tuF P = 0 := by rw [hP0]; rfl
          have hm0I : (m : Int) = 0 := by omega
          rw [ht0] at t1 t2 t3 t4
          generalize tuF P = T at *
          repeat first
            | (refine hK _ ?_; clear hK K)
            | ((first | refine vm_reg (fun K hK => ?_) | refine vm_dreg (fun K hK => ?_)); simp (disch := (first | omega | assumption)) only [S1, ↓reduceIte, Nat.reduceEqDiff, Nat.reduceAdd, Nat.reduceMul, Nat.reduceDiv, AOp.sb, AOp.mut, ↓Bool.false_eq_true, beq_self_eq_true, ite_self, Nat.reduceLeDiff, Int.reduceEq, Int.reduceSub, Int.reduceAdd, Int.reduceNeg, Int.reduceLT, Int.reduceLE, Nat.reduceLT, bz_LGPaths, hmi]; refine hK _ ?_; clear hK K)
            | simp only [Sv, ↓reduceIte, Nat.reduceEqDiff]
          refine he2 _ _ ?_
          have zc3 := t1
          have zc4 := t2
          have zc5 := t3
          have zc6 := t4
          repeat first | (refine hK _ ?_; clear hK K) | simp only [Sv, ↓reduceIte, Nat.reduceEqDiff] | ((first | refine vm_reg (fun K hK => ?_) | refine vm_dreg (fun K hK => ?_) | refine clp_q ?_ | refine clq_mk (by assumption) ?_); simp (disch := (first | omega | assumption)) only [S1, ↓reduceIte, Nat.reduceEqDiff, Nat.reduceAdd, Nat.reduceMul, Nat.reduceDiv, AOp.sb, AOp.mut, ↓Bool.false_eq_true, beq_self_eq_true, ite_self, Nat.reduceLeDiff, Int.reduceEq, Int.reduceSub, Int.reduceAdd, Int.reduceNeg, Int.reduceLT, Int.reduceLE, Nat.reduceLT, bz_LGPaths, hm0I, eq_self])
          simp (disch := (first | omega | assumption)) only [retOk, retN, ret1, retF, ret1F, V.okArg, and_true, true_and, S1, ↓reduceIte, Nat.reduceEqDiff, Nat.reduceAdd, Nat.reduceMul, Nat.reduceDiv, AOp.sb, AOp.mut, ↓Bool.false_eq_true, beq_self_eq_true, ite_self, Nat.reduceLeDiff, Int.reduceEq, Int.reduceSub, Int.reduceAdd, Int.reduceNeg, Int.reduceLT, Int.reduceLE, Nat.reduceLT, bz_LGPaths, hm0I, eq_self]
        · obtain ⟨q, hq⟩ : ∃ q : Nat, q < m ∧ (IntKind.u64.wrap k).tmod (m : Int) = (q : Int) := by
            have h1 : 0 ≤ IntKind.u64.wrap k := by rw [IntKind.wrap_u64]; omega
            obtain ⟨u, hu⟩ : ∃ u : Nat, IntKind.u64.wrap k = (u : Int) := ⟨(IntKind.u64.wrap k).toNat, by omega⟩
            refine ⟨u % m, Nat.mod_lt _ hm0, by rw [hu]; rfl⟩
          obtain ⟨hq1, hq2⟩ := hq
          have hmu : IntKind.u64.wrap (m : Int) = (m : Int) := wu (by omega)
          have hm0I : ¬ (m : Int) = 0 := by omega
          have t5' := t5 q
          obtain ⟨g5, k5⟩ := f5 q (by omega) e0
          rw [g5, k5] at t5'
          have d1 := NC_drop P q
          have d2 := NC_take P q
          have d3 : (NC (P.drop q)).take ((m - q) * 2) = NC (P.drop q) := List.take_of_length_le (by rw [nl1, List.length_drop]; omega)
          have d4 := NC_app (P.drop q) (P.take q)
          have l1 := nl1 (P.drop q)
          have l2 := nl1 (P.take q)
          have l3 := nl1 (P.drop q ++ P.take q)
          rw [List.length_append, List.length_drop, List.length_take] at l3
          rw [List.length_drop, lP] at l1
          rw [List.length_take, lP, Nat.min_eq_left (by omega)] at l2
          have l4 : (m - q) * 2 / 2 = m - q := by omega
          have l5 : q * 2 / 2 = q := by omega
          have hmn : IntKind.i64.wrap (0 - (m : Int)) = -(m : Int) := by rw [wi (by omega)]; omega
          obtain ⟨b1, b2⟩ := f6
          generalize tuF P = T at *
          repeat first
            | (refine hK _ ?_; clear hK K)
            | ((first | refine vm_reg (fun K hK => ?_) | refine vm_dreg (fun K hK => ?_)); simp (disch := (first | omega | assumption)) only [S1, ↓reduceIte, Nat.reduceEqDiff, Nat.reduceAdd, Nat.reduceMul, Nat.reduceDiv, AOp.sb, AOp.mut, ↓Bool.false_eq_true, beq_self_eq_true, ite_self, Nat.reduceLeDiff, Int.reduceEq, Int.reduceSub, Int.reduceAdd, Int.reduceNeg, Int.reduceLT, Int.reduceLE, Nat.reduceLT, bz_LGPaths, hmi]; refine hK _ ?_; clear hK K)
            | simp only [Sv, ↓reduceIte, Nat.reduceEqDiff]
          refine he2 _ _ ?_
          have zc7 := t1
          have zc8 := t2
          have zc9 := t3
          have zc10 := t4
          have zc11 := t5'
          repeat first | (refine hK _ ?_; clear hK K) | simp only [Sv, ↓reduceIte, Nat.reduceEqDiff] | ((first | refine vm_reg (fun K hK => ?_) | refine vm_dreg (fun K hK => ?_) | refine clp_q ?_ | refine clq_mk (by assumption) ?_); simp (disch := (first | omega | assumption)) only [S1, ↓reduceIte, Nat.reduceEqDiff, Nat.reduceAdd, Nat.reduceMul, Nat.reduceDiv, AOp.sb, AOp.mut, ↓Bool.false_eq_true, beq_self_eq_true, ite_self, Nat.reduceLeDiff, Int.reduceEq, Int.reduceSub, Int.reduceAdd, Int.reduceNeg, Int.reduceLT, Int.reduceLE, Nat.reduceLT, bz_LGPaths, hm0I, eq_self, wn, hq2, hmu, lPr, d1, d2, d3, ← d4, l1, l2, l4, l5, List.drop_zero, b1, b2, hmn])
          simp (disch := (first | omega | assumption)) only [retOk, retN, ret1, retF, ret1F, V.okArg, and_true, true_and, S1, ↓reduceIte, Nat.reduceEqDiff, Nat.reduceAdd, Nat.reduceMul, Nat.reduceDiv, AOp.sb, AOp.mut, ↓Bool.false_eq_true, beq_self_eq_true, ite_self, Nat.reduceLeDiff, Int.reduceEq, Int.reduceSub, Int.reduceAdd, Int.reduceNeg, Int.reduceLT, Int.reduceLE, Nat.reduceLT, bz_LGPaths, hm0I, eq_self, wn, hq2, hmu, lPr, d1, d2, d3, ← d4, l1, l2, l4, l5, List.drop_zero, b1, b2, hmn]
      · have g2 := mt f2.1.1 e0
        have g3 := mt f3.1.1 e0
        have g4 := mt f4.1.1 e0
        rw [f7 e0] at t1
        generalize tuE P = E1 at *
        generalize tuE P.reverse = E2 at *
        generalize tuE (P.map grot) = E3 at *
        generalize tuE (P.map gmir) = E4 at *
        repeat first
          | (refine hK _ ?_; clear hK K)
          | ((first | refine vm_reg (fun K hK => ?_) | refine vm_dreg (fun K hK => ?_)); simp (disch := (first | omega | assumption)) only [S1, ↓reduceIte, Nat.reduceEqDiff, Nat.reduceAdd, Nat.reduceMul, Nat.reduceDiv, AOp.sb, AOp.mut, ↓Bool.false_eq_true, beq_self_eq_true, ite_self, Nat.reduceLeDiff, Int.reduceEq, Int.reduceSub, Int.reduceAdd, Int.reduceNeg, Int.reduceLT, Int.reduceLE, Nat.reduceLT, bz_LGPaths, hmi]; refine hK _ ?_; clear hK K)
          | simp only [Sv, ↓reduceIte, Nat.reduceEqDiff]
        refine he2 _ _ ?_
        have zc12 := t1
        have zc13 := t2
        have zc14 := t3
        have zc15 := t4
        repeat first | (refine hK _ ?_; clear hK K) | simp only [Sv, ↓reduceIte, Nat.reduceEqDiff] | ((first | refine vm_reg (fun K hK => ?_) | refine vm_dreg (fun K hK => ?_) | refine clp_q ?_ | refine clq_mk (by assumption) ?_); simp (disch := (first | omega | assumption)) only [S1, ↓reduceIte, Nat.reduceEqDiff, Nat.reduceAdd, Nat.reduceMul, Nat.reduceDiv, AOp.sb, AOp.mut, ↓Bool.false_eq_true, beq_self_eq_true, ite_self, Nat.reduceLeDiff, Int.reduceEq, Int.reduceSub, Int.reduceAdd, Int.reduceNeg, Int.reduceLT, Int.reduceLE, Nat.reduceLT, bz_LGPaths, e0, g2, g3, g4])
        simp (disch := (first | omega | assumption)) only [retOk, retN, ret1, retF, ret1F, V.okArg, and_true, true_and, S1, ↓reduceIte, Nat.reduceEqDiff, Nat.reduceAdd, Nat.reduceMul, Nat.reduceDiv, AOp.sb, AOp.mut, ↓Bool.false_eq_true, beq_self_eq_true, ite_self, Nat.reduceLeDiff, Int.reduceEq, Int.reduceSub, Int.reduceAdd, Int.reduceNeg, Int.reduceLT, Int.reduceLE, Nat.reduceLT, bz_LGPaths, e0, g2, g3, g4]
end Go.Proofs.Ytfkldohgiifgbaa
