/-
  DivBases: the law's walk.
-/
import Derived.Test.YtngohbpgdeiodaaLBack
namespace Go.Proofs.Ytngohbpgdeiodaa
open Go Go.RowKit Ab
set_option linter.unusedSimpArgs false
set_option linter.unusedVariables false
set_option maxHeartbeats 10000000

theorem dg_cons {b x v : Nat} (hb : 2 ≤ b) (hx : x < b) (h : x + b * v ≠ 0) : dg b (x + b * v) = x :: dg b v := by
  have e := tz_dg (b := b) (l := x :: dg b v) hb (Lt_cons.2 ⟨hx, dg_Lt (by omega) v⟩)
  rw [nv_cons, nv_dg hb, tz, tz_dg'] at e
  rw [← e, if_neg]
  rintro ⟨h1, h2⟩
  rw [dg_nil hb] at h2
  rw [h1, h2] at h; simp at h
theorem dg_top {b v : Nat} (h : 0 < (dg b v).length) : (dg b v).getD ((dg b v).length - 1) 0 ≠ 0 := fun h0 => by
  have h1 := tz_zero (dg b v) ((dg b v).length - 1) (by omega) h0
  rw [show (dg b v).length - 1 + 1 = (dg b v).length from by omega, List.take_length, tz_dg'] at h1
  have := tz_len ((dg b v).take ((dg b v).length - 1))
  rw [← h1, List.length_take] at this; omega
theorem dgl_z {b v : Nat} (hb : 2 ≤ b) : (((dg b v).length : Nat) : Int) = 0 ↔ v = 0 := ⟨fun h => (dg_nil hb).1 (List.eq_nil_of_length_eq_zero (by omega)), fun h => by rw [h]; rfl⟩
-- surd/surdlaw04.words
def a30 : AC := .seq (.reg [⟨some 4, none, .mv (.k (.b false))⟩])
  (.seq (.reg [⟨some 5, none, .mv (.t 0)⟩, 
      ⟨some 6, none, .mv (.t 1)⟩, 
      ⟨some 7, none, .call 14 [(1, (.t 5)), (1, (.t 6))]⟩, 
      ⟨some 4, none, .mv (.t 7)⟩])
  (.ret))
theorem words_true {a b : List Nat} (h : a = b) (la : a.length ≤ 1099511627776) : AFun Try.prog J0 30 [.l 1 (W a), .l 1 (W b)] (.b true) := by
  have hs := same_true h la
  refine AFun.mk fol J0s Try.func30 rfl (ac := a30) (by kernel_rfl) rfl rfl ?_
  apply vm_start
  unfold a30
  simp only [init_eq, initE]
  have zc1 := hs
  repeat first | (refine hK _ ?_; clear hK K) | simp only [Sv, ↓reduceIte, Nat.reduceEqDiff] | ((first | refine vm_reg (fun K hK => ?_) | refine vm_dreg (fun K hK => ?_) | refine clp_q ?_ | refine clq_mk (by assumption) ?_); simp (disch := (first | omega | assumption)) only [S1, ↓reduceIte, Nat.reduceEqDiff, Nat.reduceAdd, Nat.reduceMul, Nat.reduceDiv, AOp.sb, AOp.mut, ↓Bool.false_eq_true, beq_self_eq_true, ite_self, Nat.reduceLeDiff, Int.reduceEq, Int.reduceSub, Int.reduceAdd, Int.reduceNeg, Int.reduceLT, Int.reduceLE, Nat.reduceLT, wi, tn_nat, Nat.div_one, Nat.mul_one, W_len, W_nf, W_cell, W_nil, W_get, List.length_nil, List.length_cons])
  simp (disch := (first | omega | assumption)) only [retOk, retN, ret1, retF, ret1F, V.okArg, and_true, true_and, S1, ↓reduceIte, Nat.reduceEqDiff, Nat.reduceAdd, Nat.reduceMul, Nat.reduceDiv, AOp.sb, AOp.mut, ↓Bool.false_eq_true, beq_self_eq_true, ite_self, Nat.reduceLeDiff, Int.reduceEq, Int.reduceSub, Int.reduceAdd, Int.reduceNeg, Int.reduceLT, Int.reduceLE, Nat.reduceLT, wi, tn_nat, Nat.div_one, Nat.mul_one, W_len, W_nf, W_cell, W_nil, W_get, List.length_nil, List.length_cons]
-- surd/surdlaw04.DivBases
def a6 : AC := .seq (.reg [⟨some 6, none, .mv (.k (.b false))⟩])
  (.seq (.seq (.reg [⟨some 17, none, .call 11 []⟩, 
        ⟨some 18, none, .un .not (.t 17)⟩])
    (.cond (.t 18)
    (.seq (.reg [⟨some 6, none, .mv (.k (.b false))⟩])
      (.ret))
    (.skip)))
  (.seq (.seq (.reg [⟨some 19, none, .mv (.t 1)⟩, 
        ⟨some 20, none, .bin .lss (.t 19) (.k (.i .u64 2))⟩])
    (.cond (.t 20)
    (.seq (.reg [⟨some 22, none, .mv (.t 0)⟩, 
          ⟨some 23, none, .mv (.t 1)⟩, 
          ⟨some 24, none, .call 29 [(1, (.t 22)), (1, (.t 23))]⟩, 
          ⟨some 21, none, .mv (.t 24)⟩, 
          ⟨some 25, none, .ext (.t 21) 0⟩, 
          ⟨some 26, none, .ext (.t 21) 1⟩, 
          ⟨some 7, none, .mv (.t 25)⟩, 
          ⟨some 8, none, .mv (.t 26)⟩])
      (.seq (.reg [⟨some 27, none, .mv (.t 8)⟩, 
          ⟨some 28, none, .bin .eql (.t 27) (.k (.i .i64 3))⟩, 
          ⟨some 6, none, .mv (.t 28)⟩])
      (.ret)))
    (.skip)))
  (.seq (.reg [⟨some 29, none, .mv (.t 2)⟩, 
      ⟨some 30, none, .mv (.t 1)⟩, 
      ⟨some 31, none, .bin .rem (.t 29) (.t 30)⟩, 
      ⟨some 2, none, .mv (.t 31)⟩])
  (.seq (.reg [⟨some 33, none, .mv (.t 0)⟩, 
      ⟨some 34, none, .mv (.t 1)⟩, 
      ⟨some 35, none, .call 29 [(1, (.t 33)), (1, (.t 34))]⟩, 
      ⟨some 32, none, .mv (.t 35)⟩, 
      ⟨some 36, none, .ext (.t 32) 0⟩, 
      ⟨some 37, none, .ext (.t 32) 1⟩, 
      ⟨some 9, none, .mv (.t 36)⟩, 
      ⟨some 10, none, .mv (.t 37)⟩])
  (.seq (.seq (.reg [⟨some 38, none, .mv (.t 10)⟩, 
        ⟨some 39, none, .bin .neq (.t 38) (.k (.i .i64 0))⟩, 
        ⟨some 40, none, .mv (.t 39)⟩, 
        ⟨some 41, some (40, false), .mv (.t 9)⟩, 
        ⟨some 42, some (40, false), .len (.t 41)⟩, 
        ⟨some 43, some (40, false), .bin .gtr (.t 42) (.k (.i .i64 0))⟩, 
        ⟨some 44, some (40, false), .mv (.t 43)⟩, 
        ⟨some 45, some (44, true), .mv (.t 9)⟩, 
        ⟨some 46, some (44, true), .mv (.t 9)⟩, 
        ⟨some 47, some (44, true), .len (.t 46)⟩, 
        ⟨some 48, some (44, true), .bin .sub (.t 47) (.k (.i .i64 1))⟩, 
        ⟨some 49, some (44, true), .idx 1 (.t 45) (.t 48)⟩, 
        ⟨some 50, some (44, true), .ld false 1 (.t 49)⟩, 
        ⟨some 51, some (44, true), .bin .eql (.t 50) (.k (.i .u64 0))⟩, 
        ⟨some 52, some (40, false), .pick (.t 44) (.t 51) (.k (.b false))⟩, 
        ⟨some 53, none, .pick (.t 40) (.k (.b true)) (.t 52)⟩, 
        ⟨some 54, none, .mv (.t 53)⟩, 
        ⟨some 55, some (54, false), .mv (.t 9)⟩, 
        ⟨some 56, some (54, false), .len (.t 55)⟩, 
        ⟨some 57, some (54, false), .bin .eql (.t 56) (.k (.i .i64 0))⟩, 
        ⟨some 58, some (54, false), .mv (.t 0)⟩, 
        ⟨some 59, some (54, false), .call 34 [(1, (.t 58))]⟩, 
        ⟨some 60, some (54, false), .bin .eql (.t 59) (.k (.i .i64 0))⟩, 
        ⟨some 61, some (54, false), .eqb true (.t 57) (.t 60)⟩, 
        ⟨some 62, none, .pick (.t 54) (.k (.b true)) (.t 61)⟩])
    (.cond (.t 62)
    (.seq (.reg [⟨some 6, none, .mv (.k (.b false))⟩])
      (.ret))
    (.skip)))
  (.seq (.seq (.reg [⟨some 11, none, .mv (.k (.i .i64 0))⟩])
    (.blk 0
    (.loop
      (.seq (.seq (.reg [⟨some 63, none, .mv (.t 11)⟩, 
              ⟨some 64, none, .mv (.t 9)⟩, 
              ⟨some 65, none, .len (.t 64)⟩, 
              ⟨some 66, none, .bin .lss (.t 63) (.t 65)⟩])
          (.cond (.t 66)
          (.skip)
          (.exit 0)))
        (.seq (.blk 1
          (.seq (.reg [⟨some 69, none, .mv (.t 9)⟩, 
                ⟨some 70, none, .mv (.t 11)⟩, 
                ⟨some 71, none, .idx 1 (.t 69) (.t 70)⟩, 
                ⟨some 72, none, .ld false 1 (.t 71)⟩, 
                ⟨some 73, none, .mv (.t 1)⟩, 
                ⟨some 74, none, .bin .geq (.t 72) (.t 73)⟩])
            (.cond (.t 74)
            (.seq (.reg [⟨some 6, none, .mv (.k (.b false))⟩])
              (.ret))
            (.skip))))
        (.reg [⟨some 67, none, .mv (.t 11)⟩, 
          ⟨some 68, none, .bin .add (.t 67) (.k (.i .i64 1))⟩, 
          ⟨some 11, none, .mv (.t 68)⟩]))))))
  (.seq (.reg [⟨some 75, none, .mv (.t 0)⟩, 
      ⟨some 76, none, .mv (.t 1)⟩, 
      ⟨some 77, none, .bsl 29 1 1 [(.i .u64 0)] [(0, (.t 76))]⟩, 
      ⟨some 78, none, .call 36 [(1, (.t 75)), (1, (.t 77))]⟩, 
      ⟨some 79, none, .mv (.t 2)⟩, 
      ⟨some 80, none, .bsl 29 1 1 [(.i .u64 0)] [(0, (.t 79))]⟩, 
      ⟨some 81, none, .call 35 [(1, (.t 78)), (1, (.t 80))]⟩, 
      ⟨some 12, none, .mv (.t 81)⟩])
  (.seq (.reg [⟨some 83, none, .mv (.t 12)⟩, 
      ⟨some 84, none, .mv (.t 1)⟩, 
      ⟨some 85, none, .call 29 [(1, (.t 83)), (1, (.t 84))]⟩, 
      ⟨some 82, none, .mv (.t 85)⟩, 
      ⟨some 86, none, .ext (.t 82) 0⟩, 
      ⟨some 87, none, .ext (.t 82) 1⟩, 
      ⟨some 13, none, .mv (.t 86)⟩, 
      ⟨some 10, none, .mv (.t 87)⟩])
  (.seq (.reg [⟨some 89, none, .mv (.t 12)⟩, 
      ⟨some 90, none, .mv (.t 1)⟩, 
      ⟨some 91, none, .call 27 [(1, (.t 89)), (1, (.t 90))]⟩, 
      ⟨some 88, none, .mv (.t 91)⟩, 
      ⟨some 92, none, .ext (.t 88) 0⟩, 
      ⟨some 93, none, .ext (.t 88) 1⟩, 
      ⟨some 94, none, .ext (.t 88) 2⟩, 
      ⟨some 14, none, .mv (.t 92)⟩, 
      ⟨some 15, none, .mv (.t 93)⟩, 
      ⟨some 16, none, .mv (.t 94)⟩])
  (.seq (.seq (.reg [⟨some 95, none, .mv (.t 10)⟩, 
        ⟨some 96, none, .bin .neq (.t 95) (.k (.i .i64 0))⟩, 
        ⟨some 97, none, .mv (.t 96)⟩, 
        ⟨some 98, some (97, false), .mv (.t 16)⟩, 
        ⟨some 99, some (97, false), .bin .neq (.t 98) (.k (.i .i64 0))⟩, 
        ⟨some 100, none, .pick (.t 97) (.k (.b true)) (.t 99)⟩, 
        ⟨some 101, none, .mv (.t 100)⟩, 
        ⟨some 102, some (101, false), .mv (.t 15)⟩, 
        ⟨some 103, some (101, false), .mv (.t 2)⟩, 
        ⟨some 104, some (101, false), .bin .neq (.t 102) (.t 103)⟩, 
        ⟨some 105, none, .pick (.t 101) (.k (.b true)) (.t 104)⟩, 
        ⟨some 106, none, .mv (.t 105)⟩, 
        ⟨some 107, some (106, false), .mv (.t 14)⟩, 
        ⟨some 108, some (106, false), .mv (.t 0)⟩, 
        ⟨some 109, some (106, false), .call 37 [(1, (.t 107)), (1, (.t 108))]⟩, 
        ⟨some 110, some (106, false), .bin .neq (.t 109) (.k (.i .i64 0))⟩, 
        ⟨some 111, none, .pick (.t 106) (.k (.b true)) (.t 110)⟩])
    (.cond (.t 111)
    (.seq (.reg [⟨some 6, none, .mv (.k (.b false))⟩])
      (.ret))
    (.skip)))
  (.seq (.seq (.reg [⟨some 112, none, .mv (.t 12)⟩, 
        ⟨some 113, none, .call 34 [(1, (.t 112))]⟩, 
        ⟨some 114, none, .bin .eql (.t 113) (.k (.i .i64 0))⟩])
    (.cond (.t 114)
    (.seq (.reg [⟨some 115, none, .mv (.t 13)⟩, 
          ⟨some 116, none, .len (.t 115)⟩, 
          ⟨some 117, none, .bin .eql (.t 116) (.k (.i .i64 0))⟩, 
          ⟨some 6, none, .mv (.t 117)⟩])
      (.ret))
    (.skip)))
  (.seq (.reg [⟨some 118, none, .mv (.t 13)⟩, 
      ⟨some 119, none, .len (.t 118)⟩, 
      ⟨some 120, none, .mv (.t 9)⟩, 
      ⟨some 121, none, .len (.t 120)⟩, 
      ⟨some 122, none, .bin .add (.t 121) (.k (.i .i64 1))⟩, 
      ⟨some 123, none, .bin .eql (.t 119) (.t 122)⟩, 
      ⟨some 124, none, .mv (.t 123)⟩, 
      ⟨some 125, some (124, true), .mv (.t 13)⟩, 
      ⟨some 126, some (124, true), .idx 1 (.t 125) (.k (.i .i64 0))⟩, 
      ⟨some 127, some (124, true), .ld false 1 (.t 126)⟩, 
      ⟨some 128, some (124, true), .mv (.t 2)⟩, 
      ⟨some 129, some (124, true), .bin .eql (.t 127) (.t 128)⟩, 
      ⟨some 130, none, .pick (.t 124) (.t 129) (.k (.b false))⟩, 
      ⟨some 131, none, .mv (.t 130)⟩, 
      ⟨some 132, some (131, true), .mv (.t 13)⟩, 
      ⟨some 133, some (131, true), .sub 1 (.t 132) (some (.k (.i .i64 1))) none⟩, 
      ⟨some 134, some (131, true), .mv (.t 9)⟩, 
      ⟨some 135, some (131, true), .call 30 [(1, (.t 133)), (1, (.t 134))]⟩, 
      ⟨some 136, none, .pick (.t 131) (.t 135) (.k (.b false))⟩, 
      ⟨some 6, none, .mv (.t 136)⟩])
  (.ret)))))))))))))
theorem divBases_spec (a : List Nat) (w g : Nat) (m : Nat) (hm : m ≤ 2000000) (ha : Wd a) (hw : w < 18446744073709551616) (hg : g < 18446744073709551616) (la : a.length ≤ m) :
    AFun Try.prog J0 6 [.l 1 (W a), .i .u64 (w : Int), .i .u64 (g : Int)] (.b true) := by
  have hd := digs_spec a w ha hw (by omega)
  refine AFun.mk fol J0s Try.func6 rfl (ac := a6) (by kernel_rfl) rfl rfl ?_
  apply vm_start
  unfold a6
  simp only [init_eq, initE]
  by_cases h2 : (w : Int) < 2
  · rw [show dgD (nv B a) w = [] from if_pos (by omega), show dgE w = 3 from if_pos (by omega)] at hd
    have zc2 := known_spec
    have zc3 := hd
    repeat first | (refine hK _ ?_; clear hK K) | simp only [Sv, ↓reduceIte, Nat.reduceEqDiff] | ((first | refine vm_reg (fun K hK => ?_) | refine vm_dreg (fun K hK => ?_) | refine clp_q ?_ | refine clq_mk (by assumption) ?_); simp (disch := (first | omega | assumption)) only [S1, ↓reduceIte, Nat.reduceEqDiff, Nat.reduceAdd, Nat.reduceMul, Nat.reduceDiv, AOp.sb, AOp.mut, ↓Bool.false_eq_true, beq_self_eq_true, ite_self, Nat.reduceLeDiff, Int.reduceEq, Int.reduceSub, Int.reduceAdd, Int.reduceNeg, Int.reduceLT, Int.reduceLE, Nat.reduceLT, wi, tn_nat, Nat.div_one, Nat.mul_one, W_len, W_nf, W_cell, W_nil, W_get, List.length_nil, List.length_cons, h2])
    simp (disch := (first | omega | assumption)) only [retOk, retN, ret1, retF, ret1F, V.okArg, and_true, true_and, S1, ↓reduceIte, Nat.reduceEqDiff, Nat.reduceAdd, Nat.reduceMul, Nat.reduceDiv, AOp.sb, AOp.mut, ↓Bool.false_eq_true, beq_self_eq_true, ite_self, Nat.reduceLeDiff, Int.reduceEq, Int.reduceSub, Int.reduceAdd, Int.reduceNeg, Int.reduceLT, Int.reduceLE, Nat.reduceLT, wi, tn_nat, Nat.div_one, Nat.mul_one, W_len, W_nf, W_cell, W_nil, W_get, List.length_nil, List.length_cons, h2]
  · have hw2 : 2 ≤ w := by omega
    have hA := nvlt ha la
    rw [show dgD (nv B a) w = dg w (nv B a) from if_neg (by omega), show dgE w = 0 from if_neg (by omega)] at hd
    have hba := natBits_spec a ha (by omega)
    have z1 := bl_z (n := nv B a)
    have w0 : ¬ (w : Int) = 0 := by omega
    obtain ⟨x, hx⟩ : ∃ x, x = g % w := ⟨_, rfl⟩
    have hxw : x < w := by rw [hx]; exact Nat.mod_lt _ (by omega)
    have hxI : ((g : Int)).tmod (w : Int) = (x : Int) := by rw [hx]; rfl
    have wB : w < B := hw
    have ww : Wd [w] := Wd1 hw
    have wx : Wd [x] := Wd1 (by omega)
    have hmu := mul_spec a [w] ha ww (by omega) (by simp)
    rw [nv_one] at hmu
    have pP : nv B a * w < B ^ (m + 1) := by rw [Nat.pow_succ]; exact Nat.mul_lt_mul_of_lt_of_lt hA wB
    have lP := dlen pP
    have had := add_spec (dg B (nv B a * w)) [x] (Wd_dg _) wx (by omega) (by simp)
    rw [nv_dgB, nv_one] at had
    have xB : x < B ^ (m + 1) := pup (k := 1) (by rw [Nat.pow_one]; omega) (by omega)
    have pS := padd pP xB
    have lS := dlen pS
    have hd2 := digs_spec (dg B (nv B a * w + x)) w (Wd_dg _) hw (by omega)
    rw [nv_dgB, show dgD (nv B a * w + x) w = dg w (nv B a * w + x) from if_neg (by omega), show dgE w = 0 from if_neg (by omega)] at hd2
    have hwd := word_spec (dg B (nv B a * w + x)) w (Wd_dg _) (by omega) hw (by omega)
    rw [nv_dgB, show (nv B a * w + x) / w = nv B a from by rw [Nat.mul_comm, Nat.mul_add_div (by omega), Nat.div_eq_of_lt hxw, Nat.add_zero], show (nv B a * w + x) % w = x from by rw [Nat.mul_comm, Nat.mul_add_mod, Nat.mod_eq_of_lt hxw]] at hwd
    have lu := dlen hA
    have hcm := cmp_spec (dg B (nv B a)) a (Wd_dg _) ha (by omega) (by omega)
    rw [nv_dgB, sg_of_eq rfl] at hcm
    have hbp := natBits_spec (dg B (nv B a * w + x)) (Wd_dg _) (by omega)
    rw [nv_dgB] at hbp
    have z2 := bl_z (n := nv B a * w + x)
    have hlz := dgl_z (b := w) (v := nv B a) hw2
    have ldw : (dg w (nv B a)).length ≤ 64 * m := dg_len hw2 (Nat.lt_of_lt_of_le hA (by rw [B64, ← Nat.pow_mul]; exact Nat.pow_le_pow_left hw2 _))
    have hLt := dg_Lt (b := w) (by omega) (nv B a)
    have htop := dg_top (b := w) (v := nv B a)
    have hcons := fun h => dg_cons (b := w) (x := x) (v := nv B a) hw2 hxw h
    rw [show x + w * nv B a = nv B a * w + x from by rw [Nat.mul_comm]; omega] at hcons
    generalize hD : dg w (nv B a) = d at *
    have hwo := words_true (rfl : d = d) (by omega)
    obtain ⟨t, ht⟩ : ∃ t, t = d.getD (d.length - 1) 0 := ⟨_, rfl⟩
    rw [← ht] at htop
    by_cases hd0 : nv B a = 0
    · have hdl : ((d.length : Nat) : Int) = 0 := hlz.2 hd0
      have hdn : ¬ ((0 : Int) < (d.length : Int)) := by omega
      rw [hd0, bl_0] at hba
      have zc4 := known_spec
      have zc5 := hd
      have zc6 := hba
      repeat first | (refine hK _ ?_; clear hK K) | simp only [Sv, ↓reduceIte, Nat.reduceEqDiff] | ((first | refine vm_reg (fun K hK => ?_) | refine vm_dreg (fun K hK => ?_) | refine clp_q ?_ | refine clq_mk (by assumption) ?_); simp (disch := (first | omega | assumption)) only [S1, ↓reduceIte, Nat.reduceEqDiff, Nat.reduceAdd, Nat.reduceMul, Nat.reduceDiv, AOp.sb, AOp.mut, ↓Bool.false_eq_true, beq_self_eq_true, ite_self, Nat.reduceLeDiff, Int.reduceEq, Int.reduceSub, Int.reduceAdd, Int.reduceNeg, Int.reduceLT, Int.reduceLE, Nat.reduceLT, wi, tn_nat, Nat.div_one, Nat.mul_one, W_len, W_nf, W_cell, W_nil, W_get, List.length_nil, List.length_cons, h2, w0, hxI, hdl, hdn])
      refine vm_loopA [] Nat (fun i => ⟨[(0, .l 1 (W a)), (1, .i .u64 (w : Int)), (2, .i .u64 (x : Int)), (9, .l 1 (W d)), (11, .i .i64 (i : Int))], [], 0⟩)
        (fun i => i ≤ d.length) (fun i => d.length - i) 0 (Nat.zero_le _) (by simp (disch := (first | omega | assumption)) only [Sl, Sa, Sw, ↓reduceIte, Nat.reduceEqDiff, Nat.reduceLT, List.all_nil, List.all_cons, Nat.reduceBneDiff, Nat.reduceAdd, bne_iff_ne, ne_eq, reduceCtorEq, not_false_eq_true, not_true_eq_false, Bool.and_true, Bool.true_and, and_true, true_and, and_self]) (by
        simp (disch := (first | omega | assumption)) only [Sl, Sa, Sw, ↓reduceIte, Nat.reduceEqDiff, Nat.reduceLT, List.all_nil, List.all_cons, Nat.reduceBneDiff, Nat.reduceAdd, bne_iff_ne, ne_eq, reduceCtorEq, not_false_eq_true, not_true_eq_false, Bool.and_true, Bool.true_and, and_true, true_and, and_self, i_eq]
        try rfl) ?_
      intro i hi Q' hQ he hr
      by_cases hil : (i : Int) < (d.length : Int)
      · have hdi := Lt_get hLt (by omega) i
        have hge : ¬ ((w : Int) ≤ ((d.getD i 0 : Nat) : Int)) := by omega
        repeat first
          | (refine hK _ ?_; clear hK K)
          | ((first | refine vm_reg (fun K hK => ?_) | refine vm_dreg (fun K hK => ?_)); simp (disch := (first | omega | assumption)) only [S1, ↓reduceIte, Nat.reduceEqDiff, Nat.reduceAdd, Nat.reduceMul, Nat.reduceDiv, AOp.sb, AOp.mut, ↓Bool.false_eq_true, beq_self_eq_true, ite_self, Nat.reduceLeDiff, Int.reduceEq, Int.reduceSub, Int.reduceAdd, Int.reduceNeg, Int.reduceLT, Int.reduceLE, Nat.reduceLT, wi, tn_nat, Nat.div_one, Nat.mul_one, W_len, W_nf, W_cell, W_nil, W_get, List.length_nil, List.length_cons, hil, hge]; refine hK _ ?_; clear hK K)
          | simp only [Sv, ↓reduceIte, Nat.reduceEqDiff]
        refine hQ _ (i + 1) (by omega) (by omega) ?_
        simp (disch := (first | omega | assumption)) only [Sl, Sa, Sw, ↓reduceIte, Nat.reduceEqDiff, Nat.reduceLT, List.all_nil, List.all_cons, Nat.reduceBneDiff, Nat.reduceAdd, bne_iff_ne, ne_eq, reduceCtorEq, not_false_eq_true, not_true_eq_false, Bool.and_true, Bool.true_and, and_true, true_and, and_self, i_eq]
        repeat' first | rfl | omega | (simp only [List.length_append, List.length_cons, List.length_nil]; done) | apply And.intro
      · by_cases hz : nv B a * w + x = 0
        · have e0 : dg w (nv B a * w + x) = [] := by rw [hz]; rfl
          rw [e0] at hd2
          have hz' : ((bl (nv B a * w + x) : Nat) : Int) = 0 := by rw [hz]; rfl
          repeat first
            | (refine hK _ ?_; clear hK K)
            | ((first | refine vm_reg (fun K hK => ?_) | refine vm_dreg (fun K hK => ?_)); simp (disch := (first | omega | assumption)) only [S1, ↓reduceIte, Nat.reduceEqDiff, Nat.reduceAdd, Nat.reduceMul, Nat.reduceDiv, AOp.sb, AOp.mut, ↓Bool.false_eq_true, beq_self_eq_true, ite_self, Nat.reduceLeDiff, Int.reduceEq, Int.reduceSub, Int.reduceAdd, Int.reduceNeg, Int.reduceLT, Int.reduceLE, Nat.reduceLT, wi, tn_nat, Nat.div_one, Nat.mul_one, W_len, W_nf, W_cell, W_nil, W_get, List.length_nil, List.length_cons, hil]; refine hK _ ?_; clear hK K)
            | simp only [Sv, ↓reduceIte, Nat.reduceEqDiff]
          refine he _ _ ?_
          have zc7 := hmu
          have zc8 := had
          have zc9 := hd2
          have zc10 := hwd
          have zc11 := hcm
          have zc12 := hbp
          repeat first | (refine hK _ ?_; clear hK K) | simp only [Sv, ↓reduceIte, Nat.reduceEqDiff] | ((first | refine vm_reg (fun K hK => ?_) | refine vm_dreg (fun K hK => ?_) | refine clp_q ?_ | refine clq_mk (by assumption) ?_); simp (disch := (first | omega | assumption)) only [S1, ↓reduceIte, Nat.reduceEqDiff, Nat.reduceAdd, Nat.reduceMul, Nat.reduceDiv, AOp.sb, AOp.mut, ↓Bool.false_eq_true, beq_self_eq_true, ite_self, Nat.reduceLeDiff, Int.reduceEq, Int.reduceSub, Int.reduceAdd, Int.reduceNeg, Int.reduceLT, Int.reduceLE, Nat.reduceLT, wi, tn_nat, Nat.div_one, Nat.mul_one, W_len, W_nf, W_cell, W_nil, W_get, List.length_nil, List.length_cons, W1, hz'])
          simp (disch := (first | omega | assumption)) only [retOk, retN, ret1, retF, ret1F, V.okArg, and_true, true_and, S1, ↓reduceIte, Nat.reduceEqDiff, Nat.reduceAdd, Nat.reduceMul, Nat.reduceDiv, AOp.sb, AOp.mut, ↓Bool.false_eq_true, beq_self_eq_true, ite_self, Nat.reduceLeDiff, Int.reduceEq, Int.reduceSub, Int.reduceAdd, Int.reduceNeg, Int.reduceLT, Int.reduceLE, Nat.reduceLT, wi, tn_nat, Nat.div_one, Nat.mul_one, W_len, W_nf, W_cell, W_nil, W_get, List.length_nil, List.length_cons, W1, hz']
        · rw [hcons hz] at hd2
          have hl1 : (((d.length + 1 : Nat)) : Int) = (d.length : Int) + 1 := by omega
          have hg0 : (W (x :: d)).getD (Int.toNat 0) .un = .i .u64 (x : Int) := rfl
          have hdr : (x :: d).drop (Int.toNat 1) = d := rfl
          repeat first
            | (refine hK _ ?_; clear hK K)
            | ((first | refine vm_reg (fun K hK => ?_) | refine vm_dreg (fun K hK => ?_)); simp (disch := (first | omega | assumption)) only [S1, ↓reduceIte, Nat.reduceEqDiff, Nat.reduceAdd, Nat.reduceMul, Nat.reduceDiv, AOp.sb, AOp.mut, ↓Bool.false_eq_true, beq_self_eq_true, ite_self, Nat.reduceLeDiff, Int.reduceEq, Int.reduceSub, Int.reduceAdd, Int.reduceNeg, Int.reduceLT, Int.reduceLE, Nat.reduceLT, wi, tn_nat, Nat.div_one, Nat.mul_one, W_len, W_nf, W_cell, W_nil, W_get, List.length_nil, List.length_cons, hil]; refine hK _ ?_; clear hK K)
            | simp only [Sv, ↓reduceIte, Nat.reduceEqDiff]
          refine he _ _ ?_
          have zc13 := hmu
          have zc14 := had
          have zc15 := hd2
          have zc16 := hwd
          have zc17 := hcm
          have zc18 := hbp
          have zc19 := hwo
          repeat first | (refine hK _ ?_; clear hK K) | simp only [Sv, ↓reduceIte, Nat.reduceEqDiff] | ((first | refine vm_reg (fun K hK => ?_) | refine vm_dreg (fun K hK => ?_) | refine clp_q ?_ | refine clq_mk (by assumption) ?_); simp (disch := (first | omega | assumption)) only [S1, ↓reduceIte, Nat.reduceEqDiff, Nat.reduceAdd, Nat.reduceMul, Nat.reduceDiv, AOp.sb, AOp.mut, ↓Bool.false_eq_true, beq_self_eq_true, ite_self, Nat.reduceLeDiff, Int.reduceEq, Int.reduceSub, Int.reduceAdd, Int.reduceNeg, Int.reduceLT, Int.reduceLE, Nat.reduceLT, wi, tn_nat, Nat.div_one, Nat.mul_one, W_len, W_nf, W_cell, W_nil, W_get, List.length_nil, List.length_cons, W1, z2, hz, hl1, hg0, W_drop, hdr])
          simp (disch := (first | omega | assumption)) only [retOk, retN, ret1, retF, ret1F, V.okArg, and_true, true_and, S1, ↓reduceIte, Nat.reduceEqDiff, Nat.reduceAdd, Nat.reduceMul, Nat.reduceDiv, AOp.sb, AOp.mut, ↓Bool.false_eq_true, beq_self_eq_true, ite_self, Nat.reduceLeDiff, Int.reduceEq, Int.reduceSub, Int.reduceAdd, Int.reduceNeg, Int.reduceLT, Int.reduceLE, Nat.reduceLT, wi, tn_nat, Nat.div_one, Nat.mul_one, W_len, W_nf, W_cell, W_nil, W_get, List.length_nil, List.length_cons, W1, z2, hz, hl1, hg0, W_drop, hdr]
    · have hdl : ¬ ((d.length : Nat) : Int) = 0 := fun h => hd0 (hlz.1 h)
      have hdn : (0 : Int) < (d.length : Int) := by omega
      have hidx : ((d.length : Int) - 1).toNat = d.length - 1 := by omega
      have ht0 : ¬ ((t : Nat) : Int) = 0 := by have := htop (by omega); omega
      have zc20 := known_spec
      have zc21 := hd
      have zc22 := hba
      repeat first | (refine hK _ ?_; clear hK K) | simp only [Sv, ↓reduceIte, Nat.reduceEqDiff] | ((first | refine vm_reg (fun K hK => ?_) | refine vm_dreg (fun K hK => ?_) | refine clp_q ?_ | refine clq_mk (by assumption) ?_); simp (disch := (first | omega | assumption)) only [S1, ↓reduceIte, Nat.reduceEqDiff, Nat.reduceAdd, Nat.reduceMul, Nat.reduceDiv, AOp.sb, AOp.mut, ↓Bool.false_eq_true, beq_self_eq_true, ite_self, Nat.reduceLeDiff, Int.reduceEq, Int.reduceSub, Int.reduceAdd, Int.reduceNeg, Int.reduceLT, Int.reduceLE, Nat.reduceLT, wi, tn_nat, Nat.div_one, Nat.mul_one, W_len, W_nf, W_cell, W_nil, W_get, List.length_nil, List.length_cons, h2, w0, hxI, hdl, hdn, hidx, ← ht, ht0, z1, hd0])
      refine vm_loopA [] Nat (fun i => ⟨[(0, .l 1 (W a)), (1, .i .u64 (w : Int)), (2, .i .u64 (x : Int)), (9, .l 1 (W d)), (11, .i .i64 (i : Int))], [], 0⟩)
        (fun i => i ≤ d.length) (fun i => d.length - i) 0 (Nat.zero_le _) (by simp (disch := (first | omega | assumption)) only [Sl, Sa, Sw, ↓reduceIte, Nat.reduceEqDiff, Nat.reduceLT, List.all_nil, List.all_cons, Nat.reduceBneDiff, Nat.reduceAdd, bne_iff_ne, ne_eq, reduceCtorEq, not_false_eq_true, not_true_eq_false, Bool.and_true, Bool.true_and, and_true, true_and, and_self]) (by
        simp (disch := (first | omega | assumption)) only [Sl, Sa, Sw, ↓reduceIte, Nat.reduceEqDiff, Nat.reduceLT, List.all_nil, List.all_cons, Nat.reduceBneDiff, Nat.reduceAdd, bne_iff_ne, ne_eq, reduceCtorEq, not_false_eq_true, not_true_eq_false, Bool.and_true, Bool.true_and, and_true, true_and, and_self, i_eq]
        try rfl) ?_
      intro i hi Q' hQ he hr
      by_cases hil : (i : Int) < (d.length : Int)
      · have hdi := Lt_get hLt (by omega) i
        have hge : ¬ ((w : Int) ≤ ((d.getD i 0 : Nat) : Int)) := by omega
        repeat first
          | (refine hK _ ?_; clear hK K)
          | ((first | refine vm_reg (fun K hK => ?_) | refine vm_dreg (fun K hK => ?_)); simp (disch := (first | omega | assumption)) only [S1, ↓reduceIte, Nat.reduceEqDiff, Nat.reduceAdd, Nat.reduceMul, Nat.reduceDiv, AOp.sb, AOp.mut, ↓Bool.false_eq_true, beq_self_eq_true, ite_self, Nat.reduceLeDiff, Int.reduceEq, Int.reduceSub, Int.reduceAdd, Int.reduceNeg, Int.reduceLT, Int.reduceLE, Nat.reduceLT, wi, tn_nat, Nat.div_one, Nat.mul_one, W_len, W_nf, W_cell, W_nil, W_get, List.length_nil, List.length_cons, hil, hge]; refine hK _ ?_; clear hK K)
          | simp only [Sv, ↓reduceIte, Nat.reduceEqDiff]
        refine hQ _ (i + 1) (by omega) (by omega) ?_
        simp (disch := (first | omega | assumption)) only [Sl, Sa, Sw, ↓reduceIte, Nat.reduceEqDiff, Nat.reduceLT, List.all_nil, List.all_cons, Nat.reduceBneDiff, Nat.reduceAdd, bne_iff_ne, ne_eq, reduceCtorEq, not_false_eq_true, not_true_eq_false, Bool.and_true, Bool.true_and, and_true, true_and, and_self, i_eq]
        repeat' first | rfl | omega | (simp only [List.length_append, List.length_cons, List.length_nil]; done) | apply And.intro
      · by_cases hz : nv B a * w + x = 0
        · have e0 : dg w (nv B a * w + x) = [] := by rw [hz]; rfl
          rw [e0] at hd2
          have hz' : ((bl (nv B a * w + x) : Nat) : Int) = 0 := by rw [hz]; rfl
          repeat first
            | (refine hK _ ?_; clear hK K)
            | ((first | refine vm_reg (fun K hK => ?_) | refine vm_dreg (fun K hK => ?_)); simp (disch := (first | omega | assumption)) only [S1, ↓reduceIte, Nat.reduceEqDiff, Nat.reduceAdd, Nat.reduceMul, Nat.reduceDiv, AOp.sb, AOp.mut, ↓Bool.false_eq_true, beq_self_eq_true, ite_self, Nat.reduceLeDiff, Int.reduceEq, Int.reduceSub, Int.reduceAdd, Int.reduceNeg, Int.reduceLT, Int.reduceLE, Nat.reduceLT, wi, tn_nat, Nat.div_one, Nat.mul_one, W_len, W_nf, W_cell, W_nil, W_get, List.length_nil, List.length_cons, hil]; refine hK _ ?_; clear hK K)
            | simp only [Sv, ↓reduceIte, Nat.reduceEqDiff]
          refine he _ _ ?_
          have zc23 := hmu
          have zc24 := had
          have zc25 := hd2
          have zc26 := hwd
          have zc27 := hcm
          have zc28 := hbp
          repeat first | (refine hK _ ?_; clear hK K) | simp only [Sv, ↓reduceIte, Nat.reduceEqDiff] | ((first | refine vm_reg (fun K hK => ?_) | refine vm_dreg (fun K hK => ?_) | refine clp_q ?_ | refine clq_mk (by assumption) ?_); simp (disch := (first | omega | assumption)) only [S1, ↓reduceIte, Nat.reduceEqDiff, Nat.reduceAdd, Nat.reduceMul, Nat.reduceDiv, AOp.sb, AOp.mut, ↓Bool.false_eq_true, beq_self_eq_true, ite_self, Nat.reduceLeDiff, Int.reduceEq, Int.reduceSub, Int.reduceAdd, Int.reduceNeg, Int.reduceLT, Int.reduceLE, Nat.reduceLT, wi, tn_nat, Nat.div_one, Nat.mul_one, W_len, W_nf, W_cell, W_nil, W_get, List.length_nil, List.length_cons, W1, hz'])
          simp (disch := (first | omega | assumption)) only [retOk, retN, ret1, retF, ret1F, V.okArg, and_true, true_and, S1, ↓reduceIte, Nat.reduceEqDiff, Nat.reduceAdd, Nat.reduceMul, Nat.reduceDiv, AOp.sb, AOp.mut, ↓Bool.false_eq_true, beq_self_eq_true, ite_self, Nat.reduceLeDiff, Int.reduceEq, Int.reduceSub, Int.reduceAdd, Int.reduceNeg, Int.reduceLT, Int.reduceLE, Nat.reduceLT, wi, tn_nat, Nat.div_one, Nat.mul_one, W_len, W_nf, W_cell, W_nil, W_get, List.length_nil, List.length_cons, W1, hz']
        · rw [hcons hz] at hd2
          have hl1 : (((d.length + 1 : Nat)) : Int) = (d.length : Int) + 1 := by omega
          have hg0 : (W (x :: d)).getD (Int.toNat 0) .un = .i .u64 (x : Int) := rfl
          have hdr : (x :: d).drop (Int.toNat 1) = d := rfl
          repeat first
            | (refine hK _ ?_; clear hK K)
            | ((first | refine vm_reg (fun K hK => ?_) | refine vm_dreg (fun K hK => ?_)); simp (disch := (first | omega | assumption)) only [S1, ↓reduceIte, Nat.reduceEqDiff, Nat.reduceAdd, Nat.reduceMul, Nat.reduceDiv, AOp.sb, AOp.mut, ↓Bool.false_eq_true, beq_self_eq_true, ite_self, Nat.reduceLeDiff, Int.reduceEq, Int.reduceSub, Int.reduceAdd, Int.reduceNeg, Int.reduceLT, Int.reduceLE, Nat.reduceLT, wi, tn_nat, Nat.div_one, Nat.mul_one, W_len, W_nf, W_cell, W_nil, W_get, List.length_nil, List.length_cons, hil]; refine hK _ ?_; clear hK K)
            | simp only [Sv, ↓reduceIte, Nat.reduceEqDiff]
          refine he _ _ ?_
          have zc29 := hmu
          have zc30 := had
          have zc31 := hd2
          have zc32 := hwd
          have zc33 := hcm
          have zc34 := hbp
          have zc35 := hwo
          repeat first | (refine hK _ ?_; clear hK K) | simp only [Sv, ↓reduceIte, Nat.reduceEqDiff] | ((first | refine vm_reg (fun K hK => ?_) | refine vm_dreg (fun K hK => ?_) | refine clp_q ?_ | refine clq_mk (by assumption) ?_); simp (disch := (first | omega | assumption)) only [S1, ↓reduceIte, Nat.reduceEqDiff, Nat.reduceAdd, Nat.reduceMul, Nat.reduceDiv, AOp.sb, AOp.mut, ↓Bool.false_eq_true, beq_self_eq_true, ite_self, Nat.reduceLeDiff, Int.reduceEq, Int.reduceSub, Int.reduceAdd, Int.reduceNeg, Int.reduceLT, Int.reduceLE, Nat.reduceLT, wi, tn_nat, Nat.div_one, Nat.mul_one, W_len, W_nf, W_cell, W_nil, W_get, List.length_nil, List.length_cons, W1, z2, hz, hl1, hg0, W_drop, hdr])
          simp (disch := (first | omega | assumption)) only [retOk, retN, ret1, retF, ret1F, V.okArg, and_true, true_and, S1, ↓reduceIte, Nat.reduceEqDiff, Nat.reduceAdd, Nat.reduceMul, Nat.reduceDiv, AOp.sb, AOp.mut, ↓Bool.false_eq_true, beq_self_eq_true, ite_self, Nat.reduceLeDiff, Int.reduceEq, Int.reduceSub, Int.reduceAdd, Int.reduceNeg, Int.reduceLT, Int.reduceLE, Nat.reduceLT, wi, tn_nat, Nat.div_one, Nat.mul_one, W_len, W_nf, W_cell, W_nil, W_get, List.length_nil, List.length_cons, W1, z2, hz, hl1, hg0, W_drop, hdr]
end Go.Proofs.Ytngohbpgdeiodaa
