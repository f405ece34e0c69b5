/-
  DivTurns: the law's walk.
-/
import Derived.Test.YtngohbpgdeiodaaLBack
namespace Go.Proofs.Ytngohbpgdeiodaa
open Go Go.RowKit Ab
set_option linter.unusedSimpArgs false
set_option linter.unusedVariables false
set_option maxHeartbeats 10000000

theorem pw_add {u e f v : Nat} : (u ^ e % v * (u ^ f % v)) % v = u ^ (e + f) % v := by rw [← Nat.mul_mod, ← Nat.pow_add]
theorem pw_mul {u x e v : Nat} : (u ^ e % v * (x ^ e % v)) % v = (u * x) ^ e % v := by rw [← Nat.mul_mod, ← Nat.mul_pow]
-- surd/surdlaw04.DivTurns
def a8 : AC := .seq (.reg [⟨some 1, none, .bx 49 (.t 0)⟩, 
      ⟨some 2, none, .mv (.k (.b false))⟩])
  (.seq (.seq (.reg [⟨some 34, none, .call 11 []⟩, 
        ⟨some 35, none, .un .not (.t 34)⟩])
    (.cond (.t 35)
    (.seq (.reg [⟨some 2, none, .mv (.k (.b false))⟩])
      (.ret))
    (.skip)))
  (.seq (.dreg [⟨some 36, none, .fad 0 (.t 1)⟩, 
      ⟨some 37, none, .ld false 1 (.t 36)⟩, 
      ⟨some 38, none, .fad 1 (.t 1)⟩, 
      ⟨some 39, none, .ld false 1 (.t 38)⟩, 
      ⟨some 40, none, .fad 2 (.t 1)⟩, 
      ⟨some 41, none, .ld false 1 (.t 40)⟩, 
      ⟨some 42, none, .fad 3 (.t 1)⟩, 
      ⟨some 43, none, .ld false 1 (.t 42)⟩, 
      ⟨some 44, none, .fad 4 (.t 1)⟩, 
      ⟨some 45, none, .ld false 1 (.t 44)⟩, 
      ⟨some 3, none, .mv (.t 37)⟩, 
      ⟨some 4, none, .mv (.t 39)⟩, 
      ⟨some 5, none, .mv (.t 41)⟩, 
      ⟨some 6, none, .mv (.t 43)⟩, 
      ⟨some 7, none, .mv (.t 45)⟩])
  (.seq (.seq (.reg [⟨some 46, none, .mv (.t 5)⟩, 
        ⟨some 47, none, .call 34 [(1, (.t 46))]⟩, 
        ⟨some 48, none, .bin .eql (.t 47) (.k (.i .i64 0))⟩])
    (.cond (.t 48)
    (.seq (.reg [⟨some 50, none, .mv (.t 3)⟩, 
          ⟨some 51, none, .mv (.t 6)⟩, 
          ⟨some 52, none, .mv (.t 5)⟩, 
          ⟨some 53, none, .call 39 [(1, (.t 50)), (1, (.t 51)), (1, (.t 52))]⟩, 
          ⟨some 49, none, .mv (.t 53)⟩, 
          ⟨some 54, none, .ext (.t 49) 0⟩, 
          ⟨some 55, none, .ext (.t 49) 1⟩, 
          ⟨some 8, none, .mv (.t 54)⟩, 
          ⟨some 9, none, .mv (.t 55)⟩])
      (.seq (.reg [⟨some 57, none, .mv (.t 3)⟩, 
          ⟨some 58, none, .mv (.t 4)⟩, 
          ⟨some 59, none, .mv (.t 5)⟩, 
          ⟨some 60, none, .call 40 [(1, (.t 57)), (1, (.t 58)), (1, (.t 59))]⟩, 
          ⟨some 56, none, .mv (.t 60)⟩, 
          ⟨some 61, none, .ext (.t 56) 0⟩, 
          ⟨some 62, none, .ext (.t 56) 1⟩, 
          ⟨some 10, none, .mv (.t 61)⟩, 
          ⟨some 11, none, .mv (.t 62)⟩])
      (.seq (.reg [⟨some 63, none, .mv (.t 9)⟩, 
          ⟨some 64, none, .bin .eql (.t 63) (.k (.i .i64 1))⟩, 
          ⟨some 65, none, .mv (.t 64)⟩, 
          ⟨some 66, some (65, true), .mv (.t 11)⟩, 
          ⟨some 67, some (65, true), .bin .eql (.t 66) (.k (.i .i64 1))⟩, 
          ⟨some 68, none, .pick (.t 65) (.t 67) (.k (.b false))⟩, 
          ⟨some 2, none, .mv (.t 68)⟩])
      (.ret))))
    (.skip)))
  (.seq (.reg [⟨some 70, none, .mv (.t 3)⟩, 
      ⟨some 71, none, .mv (.t 6)⟩, 
      ⟨some 72, none, .mv (.t 5)⟩, 
      ⟨some 73, none, .call 39 [(1, (.t 70)), (1, (.t 71)), (1, (.t 72))]⟩, 
      ⟨some 69, none, .mv (.t 73)⟩, 
      ⟨some 74, none, .ext (.t 69) 0⟩, 
      ⟨some 75, none, .ext (.t 69) 1⟩, 
      ⟨some 12, none, .mv (.t 74)⟩, 
      ⟨some 13, none, .mv (.t 75)⟩])
  (.seq (.reg [⟨some 77, none, .mv (.t 3)⟩, 
      ⟨some 78, none, .mv (.t 7)⟩, 
      ⟨some 79, none, .mv (.t 5)⟩, 
      ⟨some 80, none, .call 39 [(1, (.t 77)), (1, (.t 78)), (1, (.t 79))]⟩, 
      ⟨some 76, none, .mv (.t 80)⟩, 
      ⟨some 81, none, .ext (.t 76) 0⟩, 
      ⟨some 82, none, .ext (.t 76) 1⟩, 
      ⟨some 14, none, .mv (.t 81)⟩, 
      ⟨some 15, none, .mv (.t 82)⟩])
  (.seq (.reg [⟨some 84, none, .mv (.t 3)⟩, 
      ⟨some 85, none, .mv (.t 6)⟩, 
      ⟨some 86, none, .mv (.t 7)⟩, 
      ⟨some 87, none, .call 35 [(1, (.t 85)), (1, (.t 86))]⟩, 
      ⟨some 88, none, .mv (.t 5)⟩, 
      ⟨some 89, none, .call 39 [(1, (.t 84)), (1, (.t 87)), (1, (.t 88))]⟩, 
      ⟨some 83, none, .mv (.t 89)⟩, 
      ⟨some 90, none, .ext (.t 83) 0⟩, 
      ⟨some 91, none, .ext (.t 83) 1⟩, 
      ⟨some 16, none, .mv (.t 90)⟩, 
      ⟨some 17, none, .mv (.t 91)⟩])
  (.seq (.reg [⟨some 93, none, .mv (.t 12)⟩, 
      ⟨some 94, none, .mv (.t 14)⟩, 
      ⟨some 95, none, .mv (.t 5)⟩, 
      ⟨some 96, none, .call 40 [(1, (.t 93)), (1, (.t 94)), (1, (.t 95))]⟩, 
      ⟨some 92, none, .mv (.t 96)⟩, 
      ⟨some 97, none, .ext (.t 92) 0⟩, 
      ⟨some 98, none, .ext (.t 92) 1⟩, 
      ⟨some 18, none, .mv (.t 97)⟩, 
      ⟨some 19, none, .mv (.t 98)⟩])
  (.seq (.reg [⟨some 100, none, .mv (.t 4)⟩, 
      ⟨some 101, none, .mv (.t 6)⟩, 
      ⟨some 102, none, .mv (.t 5)⟩, 
      ⟨some 103, none, .call 39 [(1, (.t 100)), (1, (.t 101)), (1, (.t 102))]⟩, 
      ⟨some 99, none, .mv (.t 103)⟩, 
      ⟨some 104, none, .ext (.t 99) 0⟩, 
      ⟨some 105, none, .ext (.t 99) 1⟩, 
      ⟨some 20, none, .mv (.t 104)⟩, 
      ⟨some 21, none, .mv (.t 105)⟩])
  (.seq (.reg [⟨some 107, none, .mv (.t 3)⟩, 
      ⟨some 108, none, .mv (.t 4)⟩, 
      ⟨some 109, none, .call 36 [(1, (.t 107)), (1, (.t 108))]⟩, 
      ⟨some 110, none, .mv (.t 6)⟩, 
      ⟨some 111, none, .mv (.t 5)⟩, 
      ⟨some 112, none, .call 39 [(1, (.t 109)), (1, (.t 110)), (1, (.t 111))]⟩, 
      ⟨some 106, none, .mv (.t 112)⟩, 
      ⟨some 113, none, .ext (.t 106) 0⟩, 
      ⟨some 114, none, .ext (.t 106) 1⟩, 
      ⟨some 22, none, .mv (.t 113)⟩, 
      ⟨some 23, none, .mv (.t 114)⟩])
  (.seq (.reg [⟨some 116, none, .mv (.t 12)⟩, 
      ⟨some 117, none, .mv (.t 20)⟩, 
      ⟨some 118, none, .mv (.t 5)⟩, 
      ⟨some 119, none, .call 40 [(1, (.t 116)), (1, (.t 117)), (1, (.t 118))]⟩, 
      ⟨some 115, none, .mv (.t 119)⟩, 
      ⟨some 120, none, .ext (.t 115) 0⟩, 
      ⟨some 121, none, .ext (.t 115) 1⟩, 
      ⟨some 24, none, .mv (.t 120)⟩, 
      ⟨some 25, none, .mv (.t 121)⟩])
  (.seq (.reg [⟨some 123, none, .mv (.t 3)⟩, 
      ⟨some 124, none, .mv (.t 5)⟩, 
      ⟨some 125, none, .call 39 [(1, (.t 123)), (1, (.k .nl)), (1, (.t 124))]⟩, 
      ⟨some 122, none, .mv (.t 125)⟩, 
      ⟨some 126, none, .ext (.t 122) 0⟩, 
      ⟨some 127, none, .ext (.t 122) 1⟩, 
      ⟨some 26, none, .mv (.t 126)⟩, 
      ⟨some 27, none, .mv (.t 127)⟩])
  (.seq (.reg [⟨some 129, none, .bsl 29 1 1 [(.i .u64 0)] [(0, (.k (.i .u64 1)))]⟩, 
      ⟨some 130, none, .mv (.t 5)⟩, 
      ⟨some 131, none, .call 17 [(1, (.t 129)), (1, (.t 130))]⟩, 
      ⟨some 128, none, .mv (.t 131)⟩, 
      ⟨some 132, none, .ext (.t 128) 0⟩, 
      ⟨some 133, none, .ext (.t 128) 1⟩, 
      ⟨some 28, none, .mv (.t 132)⟩, 
      ⟨some 29, none, .mv (.t 133)⟩])
  (.seq (.reg [⟨some 135, none, .mv (.t 3)⟩, 
      ⟨some 136, none, .mv (.t 4)⟩, 
      ⟨some 137, none, .mv (.t 5)⟩, 
      ⟨some 138, none, .call 40 [(1, (.t 135)), (1, (.t 136)), (1, (.t 137))]⟩, 
      ⟨some 134, none, .mv (.t 138)⟩, 
      ⟨some 139, none, .ext (.t 134) 0⟩, 
      ⟨some 140, none, .ext (.t 134) 1⟩, 
      ⟨some 30, none, .mv (.t 139)⟩, 
      ⟨some 31, none, .mv (.t 140)⟩])
  (.seq (.reg [⟨some 142, none, .mv (.t 3)⟩, 
      ⟨some 143, none, .mv (.t 4)⟩, 
      ⟨some 144, none, .call 36 [(1, (.t 142)), (1, (.t 143))]⟩, 
      ⟨some 145, none, .mv (.t 5)⟩, 
      ⟨some 146, none, .call 17 [(1, (.t 144)), (1, (.t 145))]⟩, 
      ⟨some 141, none, .mv (.t 146)⟩, 
      ⟨some 147, none, .ext (.t 141) 0⟩, 
      ⟨some 148, none, .ext (.t 141) 1⟩, 
      ⟨some 32, none, .mv (.t 147)⟩, 
      ⟨some 33, none, .mv (.t 148)⟩])
  (.seq (.seq (.reg [⟨some 149, none, .mv (.t 13)⟩, 
        ⟨some 150, none, .bin .neq (.t 149) (.k (.i .i64 0))⟩, 
        ⟨some 151, none, .mv (.t 150)⟩, 
        ⟨some 152, some (151, false), .mv (.t 15)⟩, 
        ⟨some 153, some (151, false), .bin .neq (.t 152) (.k (.i .i64 0))⟩, 
        ⟨some 154, none, .pick (.t 151) (.k (.b true)) (.t 153)⟩, 
        ⟨some 155, none, .mv (.t 154)⟩, 
        ⟨some 156, some (155, false), .mv (.t 17)⟩, 
        ⟨some 157, some (155, false), .bin .neq (.t 156) (.k (.i .i64 0))⟩, 
        ⟨some 158, none, .pick (.t 155) (.k (.b true)) (.t 157)⟩, 
        ⟨some 159, none, .mv (.t 158)⟩, 
        ⟨some 160, some (159, false), .mv (.t 19)⟩, 
        ⟨some 161, some (159, false), .bin .neq (.t 160) (.k (.i .i64 0))⟩, 
        ⟨some 162, none, .pick (.t 159) (.k (.b true)) (.t 161)⟩, 
        ⟨some 163, none, .mv (.t 162)⟩, 
        ⟨some 164, some (163, false), .mv (.t 21)⟩, 
        ⟨some 165, some (163, false), .bin .neq (.t 164) (.k (.i .i64 0))⟩, 
        ⟨some 166, none, .pick (.t 163) (.k (.b true)) (.t 165)⟩, 
        ⟨some 167, none, .mv (.t 166)⟩, 
        ⟨some 168, some (167, false), .mv (.t 23)⟩, 
        ⟨some 169, some (167, false), .bin .neq (.t 168) (.k (.i .i64 0))⟩, 
        ⟨some 170, none, .pick (.t 167) (.k (.b true)) (.t 169)⟩, 
        ⟨some 171, none, .mv (.t 170)⟩, 
        ⟨some 172, some (171, false), .mv (.t 25)⟩, 
        ⟨some 173, some (171, false), .bin .neq (.t 172) (.k (.i .i64 0))⟩, 
        ⟨some 174, none, .pick (.t 171) (.k (.b true)) (.t 173)⟩, 
        ⟨some 175, none, .mv (.t 174)⟩, 
        ⟨some 176, some (175, false), .mv (.t 27)⟩, 
        ⟨some 177, some (175, false), .bin .neq (.t 176) (.k (.i .i64 0))⟩, 
        ⟨some 178, none, .pick (.t 175) (.k (.b true)) (.t 177)⟩, 
        ⟨some 179, none, .mv (.t 178)⟩, 
        ⟨some 180, some (179, false), .mv (.t 29)⟩, 
        ⟨some 181, some (179, false), .bin .neq (.t 180) (.k (.i .i64 0))⟩, 
        ⟨some 182, none, .pick (.t 179) (.k (.b true)) (.t 181)⟩, 
        ⟨some 183, none, .mv (.t 182)⟩, 
        ⟨some 184, some (183, false), .mv (.t 31)⟩, 
        ⟨some 185, some (183, false), .bin .neq (.t 184) (.k (.i .i64 0))⟩, 
        ⟨some 186, none, .pick (.t 183) (.k (.b true)) (.t 185)⟩, 
        ⟨some 187, none, .mv (.t 186)⟩, 
        ⟨some 188, some (187, false), .mv (.t 33)⟩, 
        ⟨some 189, some (187, false), .bin .neq (.t 188) (.k (.i .i64 0))⟩, 
        ⟨some 190, none, .pick (.t 187) (.k (.b true)) (.t 189)⟩])
    (.cond (.t 190)
    (.seq (.reg [⟨some 2, none, .mv (.k (.b false))⟩])
      (.ret))
    (.skip)))
  (.seq (.reg [⟨some 191, none, .mv (.t 16)⟩, 
      ⟨some 192, none, .mv (.t 18)⟩, 
      ⟨some 193, none, .call 14 [(1, (.t 191)), (1, (.t 192))]⟩, 
      ⟨some 194, none, .mv (.t 193)⟩, 
      ⟨some 195, some (194, true), .mv (.t 22)⟩, 
      ⟨some 196, some (194, true), .mv (.t 24)⟩, 
      ⟨some 197, some (194, true), .call 14 [(1, (.t 195)), (1, (.t 196))]⟩, 
      ⟨some 198, none, .pick (.t 194) (.t 197) (.k (.b false))⟩, 
      ⟨some 199, none, .mv (.t 198)⟩, 
      ⟨some 200, some (199, true), .mv (.t 26)⟩, 
      ⟨some 201, some (199, true), .mv (.t 28)⟩, 
      ⟨some 202, some (199, true), .call 14 [(1, (.t 200)), (1, (.t 201))]⟩, 
      ⟨some 203, none, .pick (.t 199) (.t 202) (.k (.b false))⟩, 
      ⟨some 204, none, .mv (.t 203)⟩, 
      ⟨some 205, some (204, true), .mv (.t 30)⟩, 
      ⟨some 206, some (204, true), .mv (.t 32)⟩, 
      ⟨some 207, some (204, true), .call 14 [(1, (.t 205)), (1, (.t 206))]⟩, 
      ⟨some 208, none, .pick (.t 204) (.t 207) (.k (.b false))⟩, 
      ⟨some 209, none, .mv (.t 208)⟩, 
      ⟨some 210, some (209, true), .mv (.t 16)⟩, 
      ⟨some 211, some (209, true), .mv (.t 5)⟩, 
      ⟨some 212, some (209, true), .call 37 [(1, (.t 210)), (1, (.t 211))]⟩, 
      ⟨some 213, some (209, true), .bin .lss (.t 212) (.k (.i .i64 0))⟩, 
      ⟨some 214, none, .pick (.t 209) (.t 213) (.k (.b false))⟩, 
      ⟨some 2, none, .mv (.t 214)⟩])
  (.ret)))))))))))))))))
theorem divTurns_spec (a b m e f : List Nat) (k : Nat) (hk : k ≤ 2000000) (ha : Wd a) (hb : Wd b) (hm : Wd m) (he' : Wd e) (hf : Wd f) (la : a.length ≤ k) (lb : b.length ≤ k) (lm : m.length ≤ k) (le : e.length ≤ k) (lf' : f.length ≤ k) :
    AFun Try.prog J0 8 [.g [.l 1 (W a), .l 1 (W b), .l 1 (W m), .l 1 (W e), .l 1 (W f)]] (.b true) := by
  have hbm := natBits_spec m hm (by omega)
  have z2 := bl_z (n := nv B m)
  have hp := powMod_spec a e m ha he' hm (by omega) (by omega) (by omega)
  have hab := mulMod_spec a b m ha hb hm (by omega) (by omega) (by omega)
  by_cases h0 : nv B m = 0
  · rw [h0, qR_0, qE_0] at hp hab
    rw [h0, bl_0] at hbm
    refine AFun.mk fol J0s Try.func8 rfl (ac := a8) (by kernel_rfl) rfl rfl ?_
    apply vm_start
    unfold a8
    simp only [init_eq, initE]
    have zc1 := known_spec
    have zc2 := hbm
    have zc3 := hp
    have zc4 := hab
    repeat first | (refine hK _ ?_; clear hK K) | simp only [Sv, ↓reduceIte, Nat.reduceEqDiff] | ((first | refine vm_reg (fun K hK => ?_) | refine vm_dreg (fun K hK => ?_) | refine clp_q ?_ | refine clq_mk (by assumption) ?_); simp (disch := (first | omega | assumption)) only [S1, ↓reduceIte, Nat.reduceEqDiff, Nat.reduceAdd, Nat.reduceMul, Nat.reduceDiv, AOp.sb, AOp.mut, ↓Bool.false_eq_true, beq_self_eq_true, ite_self, Nat.reduceLeDiff, Int.reduceEq, Int.reduceSub, Int.reduceAdd, Int.reduceNeg, Int.reduceLT, Int.reduceLE, Nat.reduceLT, wi, tn_nat, Nat.div_one, Nat.mul_one, W_len, W_nf, W_cell, W_nil, W_get, List.length_nil, List.length_cons])
    simp (disch := (first | omega | assumption)) only [retOk, retN, ret1, retF, ret1F, V.okArg, and_true, true_and, S1, ↓reduceIte, Nat.reduceEqDiff, Nat.reduceAdd, Nat.reduceMul, Nat.reduceDiv, AOp.sb, AOp.mut, ↓Bool.false_eq_true, beq_self_eq_true, ite_self, Nat.reduceLeDiff, Int.reduceEq, Int.reduceSub, Int.reduceAdd, Int.reduceNeg, Int.reduceLT, Int.reduceLE, Nat.reduceLT, wi, tn_nat, Nat.div_one, Nat.mul_one, W_len, W_nf, W_cell, W_nil, W_get, List.length_nil, List.length_cons]
  · have hv : 0 < nv B m := by omega
    have hM := nvlt hm lm
    have hlt : ∀ x, x % nv B m < B ^ k := fun x => Nat.lt_trans (Nat.mod_lt _ hv) hM
    have hl : ∀ x, (dg B (x % nv B m)).length ≤ k := fun x => dlen (hlt x)
    have hq := powMod_spec a f m ha hf hm (by omega) (by omega) (by omega)
    have hef := add_spec e f he' hf (by omega) (by omega)
    have lef := dlen (padd (nvlt he' le) (nvlt hf lf'))
    have hr := powMod_spec a (dg B (nv B e + nv B f)) m ha (Wd_dg _) hm (by omega) (by omega) (by omega)
    have hs := mulMod_spec (dg B (nv B a ^ nv B e % nv B m)) (dg B (nv B a ^ nv B f % nv B m)) m (Wd_dg _) (Wd_dg _) hm (by have := hl (nv B a ^ nv B e); omega) (by have := hl (nv B a ^ nv B f); omega) (by omega)
    have ht := powMod_spec b e m hb he' hm (by omega) (by omega) (by omega)
    have hmu := mul_spec a b ha hb (by omega) (by omega)
    have lP : (dg B (nv B a * nv B b)).length ≤ k + k := dlen (by rw [Nat.pow_add]; exact Nat.mul_lt_mul_of_lt_of_lt (nvlt ha la) (nvlt hb lb))
    have hu := powMod_spec (dg B (nv B a * nv B b)) e m (Wd_dg _) he' hm (by omega) (by omega) (by omega)
    have hv' := mulMod_spec (dg B (nv B a ^ nv B e % nv B m)) (dg B (nv B b ^ nv B e % nv B m)) m (Wd_dg _) (Wd_dg _) hm (by have := hl (nv B a ^ nv B e); omega) (by have := hl (nv B b ^ nv B e); omega) (by omega)
    have ho := powMod_spec a [] m ha Wd_nil hm (by omega) (by simp) (by omega)
    have hw := mod_spec [1] m (Wd1 (by decide)) hm (by simp) (by omega)
    have hpr := mod_spec (dg B (nv B a * nv B b)) m (Wd_dg _) hm (by omega) (by omega)
    simp only [nv_dgB, qE_p hv, qR_p hv, nv_one, pw_add, pw_mul, show nv B [] = 0 from rfl, Nat.pow_zero] at hp hab hq hr hs ht hu hv' ho hw hpr
    have s1 := same_true (rfl : dg B (nv B a ^ (nv B e + nv B f) % nv B m) = dg B (nv B a ^ (nv B e + nv B f) % nv B m)) (by have := hl (nv B a ^ (nv B e + nv B f)); omega)
    have s2 := same_true (rfl : dg B ((nv B a * nv B b) ^ nv B e % nv B m) = dg B ((nv B a * nv B b) ^ nv B e % nv B m)) (by have := hl ((nv B a * nv B b) ^ nv B e); omega)
    have s3 := same_true (rfl : dg B (1 % nv B m) = dg B (1 % nv B m)) (by have := hl 1; omega)
    have s4 := same_true (rfl : dg B (nv B a * nv B b % nv B m) = dg B (nv B a * nv B b % nv B m)) (by have := hl (nv B a * nv B b); omega)
    have hc := cmp_spec (dg B (nv B a ^ (nv B e + nv B f) % nv B m)) m (Wd_dg _) hm (by have := hl (nv B a ^ (nv B e + nv B f)); omega) (by omega)
    rw [nv_dgB, sg_of_lt (Nat.mod_lt _ hv)] at hc
    generalize dg B (nv B a ^ nv B e % nv B m) = x1 at *
    generalize dg B (nv B a ^ nv B f % nv B m) = x2 at *
    generalize dg B (nv B a ^ (nv B e + nv B f) % nv B m) = x3 at *
    generalize dg B (nv B b ^ nv B e % nv B m) = x4 at *
    generalize dg B ((nv B a * nv B b) ^ nv B e % nv B m) = x5 at *
    generalize dg B (1 % nv B m) = x6 at *
    generalize dg B (nv B a * nv B b % nv B m) = x7 at *
    refine AFun.mk fol J0s Try.func8 rfl (ac := a8) (by kernel_rfl) rfl rfl ?_
    apply vm_start
    unfold a8
    simp only [init_eq, initE]
    have zc5 := known_spec
    have zc6 := hbm
    have zc7 := hp
    have zc8 := hq
    have zc9 := hef
    have zc10 := hr
    have zc11 := hs
    have zc12 := ht
    have zc13 := hmu
    have zc14 := hu
    have zc15 := hv'
    have zc16 := ho
    have zc17 := hw
    have zc18 := hab
    have zc19 := hpr
    have zc20 := s1
    have zc21 := s2
    have zc22 := s3
    have zc23 := s4
    have zc24 := hc
    repeat first | (refine hK _ ?_; clear hK K) | simp only [Sv, ↓reduceIte, Nat.reduceEqDiff] | ((first | refine vm_reg (fun K hK => ?_) | refine vm_dreg (fun K hK => ?_) | refine clp_q ?_ | refine clq_mk (by assumption) ?_); simp (disch := (first | omega | assumption)) only [S1, ↓reduceIte, Nat.reduceEqDiff, Nat.reduceAdd, Nat.reduceMul, Nat.reduceDiv, AOp.sb, AOp.mut, ↓Bool.false_eq_true, beq_self_eq_true, ite_self, Nat.reduceLeDiff, Int.reduceEq, Int.reduceSub, Int.reduceAdd, Int.reduceNeg, Int.reduceLT, Int.reduceLE, Nat.reduceLT, wi, tn_nat, Nat.div_one, Nat.mul_one, W_len, W_nf, W_cell, W_nil, W_get, List.length_nil, List.length_cons, z2, h0, W1])
    simp (disch := (first | omega | assumption)) only [retOk, retN, ret1, retF, ret1F, V.okArg, and_true, true_and, S1, ↓reduceIte, Nat.reduceEqDiff, Nat.reduceAdd, Nat.reduceMul, Nat.reduceDiv, AOp.sb, AOp.mut, ↓Bool.false_eq_true, beq_self_eq_true, ite_self, Nat.reduceLeDiff, Int.reduceEq, Int.reduceSub, Int.reduceAdd, Int.reduceNeg, Int.reduceLT, Int.reduceLE, Nat.reduceLT, wi, tn_nat, Nat.div_one, Nat.mul_one, W_len, W_nf, W_cell, W_nil, W_get, List.length_nil, List.length_cons, z2, h0, W1]
end Go.Proofs.Ytngohbpgdeiodaa
