/-
  div: algorithm D.
-/
import Derived.Test.YtngohbpgdeiodaaM7
import Derived.Test.YtngohbpgdeiodaaNM6
import Derived.Test.YtngohbpgdeiodaaShift2
namespace Go.Proofs.Ytngohbpgdeiodaa
open Go Go.RowKit Ab
set_option linter.unusedSimpArgs false
set_option linter.unusedVariables false
set_option maxHeartbeats 10000000

theorem W_set0 (a : List Nat) (i : Nat) : (W a).set i (.i .u64 0) = W (a.set i 0) := W_set a i 0
theorem kn_un (t c : Nat) (h : c = t + 1) : (if t < c then 1 else 0 : Nat) = 1 := if_pos (by omega)
theorem kn_m1 (t c : Nat) (h : c = t + 1) : (t + 18446744073709551616 - c) % 18446744073709551616 = 18446744073709551615 := by
  rw [h, show t + 18446744073709551616 - (t + 1) = 18446744073709551615 from by omega]
theorem kn_d1 (g d : Nat) (h : g = d + 1) : (g : Int) - 1 = (d : Int) := by omega
theorem wuN (n : Nat) (h : n < 18446744073709551616) : IntKind.wrap .u64 (n : Int) = (n : Int) := wu ⟨Int.natCast_nonneg _, by omega⟩
theorem W_setM (a : List Nat) (i : Nat) : (W a).set i (.i .u64 18446744073709551615) = W (a.set i 18446744073709551615) := W_set a i 18446744073709551615
theorem wrapM : IntKind.wrap .u64 18446744073709551616 = 0 := by decide
theorem tn_add' (a b : Nat) : ((a : Int) + (b : Int)).toNat = a + b := by omega
theorem tn_add1' (a b : Nat) (h : 1 ≤ b) : ((a : Int) + (b : Int) - 1).toNat = a + (b - 1) := by omega
theorem tn_add2' (a b : Nat) (h : 2 ≤ b) : ((a : Int) + (b : Int) - 2).toNat = a + (b - 2) := by omega
theorem tn_s1 (b : Nat) : ((b : Int) - 1).toNat = b - 1 := by omega
theorem tn_s2 (b : Nat) : ((b : Int) - 2).toNat = b - 2 := by omega

-- surd/div.knuth
def a57 : AC := .seq (.reg [⟨some 4, none, .mv (.k .nl)⟩, 
      ⟨some 5, none, .mv (.k .nl)⟩])
  (.seq (.reg [⟨some 25, none, .mv (.t 1)⟩, 
      ⟨some 26, none, .len (.t 25)⟩, 
      ⟨some 6, none, .mv (.t 26)⟩])
  (.seq (.reg [⟨some 27, none, .mv (.t 1)⟩, 
      ⟨some 28, none, .mv (.t 6)⟩, 
      ⟨some 29, none, .bin .sub (.t 28) (.k (.i .i64 1))⟩, 
      ⟨some 30, none, .idx 1 (.t 27) (.t 29)⟩, 
      ⟨some 31, none, .ld false 1 (.t 30)⟩, 
      ⟨some 32, none, .call 77 [(1, (.t 31))]⟩, 
      ⟨some 7, none, .mv (.t 32)⟩])
  (.seq (.reg [⟨some 34, none, .mv (.t 1)⟩, 
      ⟨some 35, none, .mv (.t 7)⟩, 
      ⟨some 36, none, .call 78 [(1, (.t 34)), (1, (.t 35))]⟩, 
      ⟨some 33, none, .mv (.t 36)⟩, 
      ⟨some 37, none, .ext (.t 33) 0⟩, 
      ⟨some 38, none, .ext (.t 33) 1⟩, 
      ⟨some 8, none, .mv (.t 37)⟩, 
      ⟨some 9, none, .mv (.t 38)⟩])
  (.seq (.reg [⟨some 40, none, .mv (.t 0)⟩, 
      ⟨some 41, none, .mv (.t 7)⟩, 
      ⟨some 42, none, .call 78 [(1, (.t 40)), (1, (.t 41))]⟩, 
      ⟨some 39, none, .mv (.t 42)⟩, 
      ⟨some 43, none, .ext (.t 39) 0⟩, 
      ⟨some 44, none, .ext (.t 39) 1⟩, 
      ⟨some 10, none, .mv (.t 43)⟩, 
      ⟨some 11, none, .mv (.t 44)⟩])
  (.seq (.reg [⟨some 45, none, .mv (.t 10)⟩, 
      ⟨some 46, none, .mv (.t 0)⟩, 
      ⟨some 47, none, .len (.t 46)⟩, 
      ⟨some 48, none, .bin .add (.t 47) (.k (.i .i64 1))⟩, 
      ⟨some 49, none, .mv (.t 10)⟩, 
      ⟨some 50, none, .len (.t 49)⟩, 
      ⟨some 51, none, .bin .sub (.t 48) (.t 50)⟩, 
      ⟨some 52, none, .mk 29 1 8 [(.i .u64 0)] (.t 51) (.t 51)⟩, 
      ⟨some 53, none, .bsl 23 1 2 [(.l 1 []), (.l 1 [])] [(0, (.t 45)), (1, (.t 52))]⟩, 
      ⟨some 54, none, .call 79 [(1, (.t 53))]⟩, 
      ⟨some 12, none, .mv (.t 54)⟩])
  (.seq (.reg [⟨some 55, none, .mv (.t 12)⟩, 
      ⟨some 56, none, .len (.t 55)⟩, 
      ⟨some 57, none, .mv (.t 6)⟩, 
      ⟨some 58, none, .bin .sub (.t 56) (.t 57)⟩, 
      ⟨some 59, none, .mk 29 1 8 [(.i .u64 0)] (.t 58) (.t 58)⟩, 
      ⟨some 13, none, .mv (.t 59)⟩])
  (.seq (.seq (.reg [⟨some 60, none, .mv (.t 13)⟩, 
        ⟨some 61, none, .len (.t 60)⟩, 
        ⟨some 62, none, .bin .sub (.t 61) (.k (.i .i64 1))⟩, 
        ⟨some 14, none, .mv (.t 62)⟩])
    (.blk 0
    (.loop
      (.seq (.seq (.reg [⟨some 63, none, .mv (.t 14)⟩, 
              ⟨some 64, none, .bin .geq (.t 63) (.k (.i .i64 0))⟩])
          (.cond (.t 64)
          (.skip)
          (.exit 0)))
        (.seq (.blk 1
          (.seq (.dreg [⟨some 67, none, .mv (.t 12)⟩, 
                ⟨some 68, none, .mv (.t 14)⟩, 
                ⟨some 69, none, .mv (.t 6)⟩, 
                ⟨some 70, none, .bin .add (.t 68) (.t 69)⟩, 
                ⟨some 71, none, .idx 1 (.t 67) (.t 70)⟩, 
                ⟨some 72, none, .ld false 1 (.t 71)⟩, 
                ⟨some 73, none, .mv (.t 12)⟩, 
                ⟨some 74, none, .mv (.t 14)⟩, 
                ⟨some 75, none, .mv (.t 6)⟩, 
                ⟨some 76, none, .bin .add (.t 74) (.t 75)⟩, 
                ⟨some 77, none, .bin .sub (.t 76) (.k (.i .i64 1))⟩, 
                ⟨some 78, none, .idx 1 (.t 73) (.t 77)⟩, 
                ⟨some 79, none, .ld false 1 (.t 78)⟩, 
                ⟨some 80, none, .mv (.t 12)⟩, 
                ⟨some 81, none, .mv (.t 14)⟩, 
                ⟨some 82, none, .mv (.t 6)⟩, 
                ⟨some 83, none, .bin .add (.t 81) (.t 82)⟩, 
                ⟨some 84, none, .bin .sub (.t 83) (.k (.i .i64 2))⟩, 
                ⟨some 85, none, .idx 1 (.t 80) (.t 84)⟩, 
                ⟨some 86, none, .ld false 1 (.t 85)⟩, 
                ⟨some 87, none, .mv (.t 8)⟩, 
                ⟨some 88, none, .mv (.t 6)⟩, 
                ⟨some 89, none, .bin .sub (.t 88) (.k (.i .i64 1))⟩, 
                ⟨some 90, none, .idx 1 (.t 87) (.t 89)⟩, 
                ⟨some 91, none, .ld false 1 (.t 90)⟩, 
                ⟨some 92, none, .mv (.t 8)⟩, 
                ⟨some 93, none, .mv (.t 6)⟩, 
                ⟨some 94, none, .bin .sub (.t 93) (.k (.i .i64 2))⟩, 
                ⟨some 95, none, .idx 1 (.t 92) (.t 94)⟩, 
                ⟨some 96, none, .ld false 1 (.t 95)⟩, 
                ⟨some 97, none, .call 80 [(1, (.t 72)), (1, (.t 79)), (1, (.t 86)), (1, (.t 91)), (1, (.t 96))]⟩, 
                ⟨some 15, none, .mv (.t 97)⟩])
            (.seq (.reg [⟨some 99, none, .mv (.t 12)⟩, 
                ⟨some 100, none, .mv (.t 14)⟩, 
                ⟨some 101, none, .mv (.t 14)⟩, 
                ⟨some 102, none, .mv (.t 6)⟩, 
                ⟨some 103, none, .bin .add (.t 101) (.t 102)⟩, 
                ⟨some 104, none, .sub 1 (.t 99) (some (.t 100)) (some (.t 103))⟩, 
                ⟨some 105, none, .mv (.t 8)⟩, 
                ⟨some 106, none, .mv (.t 15)⟩, 
                ⟨some 107, none, .call 81 [(1, (.t 104)), (1, (.t 105)), (1, (.t 106))]⟩, 
                ⟨some 98, none, .mv (.t 107)⟩, 
                ⟨some 108, none, .ext (.t 98) 0⟩, 
                ⟨some 109, none, .ext (.t 98) 1⟩, 
                ⟨some 110, none, .ext (.t 98) 2⟩, 
                ⟨some 16, none, .mv (.t 108)⟩, 
                ⟨some 17, none, .mv (.t 109)⟩, 
                ⟨some 18, none, .mv (.t 110)⟩])
            (.seq (.reg [⟨some 112, none, .mv (.t 12)⟩, 
                ⟨some 113, none, .mv (.t 14)⟩, 
                ⟨some 114, none, .mv (.t 6)⟩, 
                ⟨some 115, none, .bin .add (.t 113) (.t 114)⟩, 
                ⟨some 116, none, .idx 1 (.t 112) (.t 115)⟩, 
                ⟨some 117, none, .ld false 1 (.t 116)⟩, 
                ⟨some 118, none, .mv (.t 17)⟩, 
                ⟨some 119, none, .xcall 82 [(.t 117), (.t 118), (.k (.i .u64 0))]⟩, 
                ⟨some 111, none, .mv (.t 119)⟩, 
                ⟨some 120, none, .ext (.t 111) 0⟩, 
                ⟨some 121, none, .ext (.t 111) 1⟩, 
                ⟨some 19, none, .mv (.t 120)⟩, 
                ⟨some 20, none, .mv (.t 121)⟩])
            (.seq (.reg [⟨some 122, none, .mv (.t 12)⟩, 
                ⟨some 123, none, .mv (.t 14)⟩, 
                ⟨some 124, none, .sub 1 (.t 122) (some (.t 123)) none⟩, 
                ⟨some 125, none, .mv (.t 16)⟩, 
                ⟨some 126, none, .cpy 1 (.t 124) (.t 125)⟩])
            (.seq (.reg [⟨some 127, none, .mv (.t 12)⟩, 
                ⟨some 128, none, .mv (.t 14)⟩, 
                ⟨some 129, none, .mv (.t 6)⟩, 
                ⟨some 130, none, .bin .add (.t 128) (.t 129)⟩, 
                ⟨some 131, none, .mv (.t 19)⟩, 
                ⟨some 132, none, .idx 1 (.t 127) (.t 130)⟩, 
                ⟨none, none, .st 1 (.t 132) (.t 131)⟩])
            (.seq (.seq (.reg [⟨some 133, none, .mv (.t 20)⟩, 
                  ⟨some 134, none, .bin .eql (.t 133) (.k (.i .u64 1))⟩])
              (.cond (.t 134)
              (.seq (.reg [⟨some 135, none, .mv (.t 15)⟩, 
                    ⟨some 136, none, .bin .sub (.t 135) (.k (.i .u64 1))⟩, 
                    ⟨some 15, none, .mv (.t 136)⟩])
                (.seq (.reg [⟨some 138, none, .mv (.t 12)⟩, 
                    ⟨some 139, none, .mv (.t 14)⟩, 
                    ⟨some 140, none, .mv (.t 14)⟩, 
                    ⟨some 141, none, .mv (.t 6)⟩, 
                    ⟨some 142, none, .bin .add (.t 140) (.t 141)⟩, 
                    ⟨some 143, none, .sub 1 (.t 138) (some (.t 139)) (some (.t 142))⟩, 
                    ⟨some 144, none, .mv (.t 8)⟩, 
                    ⟨some 145, none, .call 67 [(1, (.t 143)), (1, (.t 144))]⟩, 
                    ⟨some 137, none, .mv (.t 145)⟩, 
                    ⟨some 146, none, .ext (.t 137) 0⟩, 
                    ⟨some 147, none, .ext (.t 137) 1⟩, 
                    ⟨some 21, none, .mv (.t 146)⟩, 
                    ⟨some 22, none, .mv (.t 147)⟩])
                (.seq (.reg [⟨some 148, none, .mv (.t 12)⟩, 
                    ⟨some 149, none, .mv (.t 14)⟩, 
                    ⟨some 150, none, .sub 1 (.t 148) (some (.t 149)) none⟩, 
                    ⟨some 151, none, .mv (.t 21)⟩, 
                    ⟨some 152, none, .cpy 1 (.t 150) (.t 151)⟩])
                (.reg [⟨some 153, none, .mv (.t 12)⟩, 
                  ⟨some 154, none, .mv (.t 14)⟩, 
                  ⟨some 155, none, .mv (.t 6)⟩, 
                  ⟨some 156, none, .bin .add (.t 154) (.t 155)⟩, 
                  ⟨some 157, none, .idx 1 (.t 153) (.t 156)⟩, 
                  ⟨some 158, none, .ld false 1 (.t 157)⟩, 
                  ⟨some 159, none, .mv (.t 22)⟩, 
                  ⟨some 160, none, .bin .add (.t 158) (.t 159)⟩, 
                  ⟨some 161, none, .idx 1 (.t 153) (.t 156)⟩, 
                  ⟨none, none, .st 1 (.t 161) (.t 160)⟩]))))
              (.skip)))
            (.reg [⟨some 162, none, .mv (.t 13)⟩, 
              ⟨some 163, none, .mv (.t 14)⟩, 
              ⟨some 164, none, .mv (.t 15)⟩, 
              ⟨some 165, none, .idx 1 (.t 162) (.t 163)⟩, 
              ⟨none, none, .st 1 (.t 165) (.t 164)⟩]))))))))
        (.reg [⟨some 65, none, .mv (.t 14)⟩, 
          ⟨some 66, none, .bin .sub (.t 65) (.k (.i .i64 1))⟩, 
          ⟨some 14, none, .mv (.t 66)⟩]))))))
  (.seq (.reg [⟨some 167, none, .mv (.t 12)⟩, 
      ⟨some 168, none, .mv (.t 6)⟩, 
      ⟨some 169, none, .sub 1 (.t 167) none (some (.t 168))⟩, 
      ⟨some 170, none, .mv (.t 7)⟩, 
      ⟨some 171, none, .call 83 [(1, (.t 169)), (1, (.t 170))]⟩, 
      ⟨some 166, none, .mv (.t 171)⟩, 
      ⟨some 172, none, .ext (.t 166) 0⟩, 
      ⟨some 173, none, .ext (.t 166) 1⟩, 
      ⟨some 23, none, .mv (.t 172)⟩, 
      ⟨some 24, none, .mv (.t 173)⟩])
  (.seq (.reg [⟨some 174, none, .mv (.t 13)⟩, 
      ⟨some 175, none, .call 38 [(1, (.t 174))]⟩, 
      ⟨some 176, none, .mv (.t 23)⟩, 
      ⟨some 4, none, .mv (.t 175)⟩, 
      ⟨some 5, none, .mv (.t 176)⟩])
  (.ret))))))))))
theorem knuth_spec (a b : List Nat) (ha : Wd a) (hb : Wd b) (la : a.length ≤ 1000000000) (h2 : 2 ≤ b.length) (hab : b.length ≤ a.length) (htop : b.getD (b.length - 1) 0 ≠ 0) :
    AFun Try.prog J0 57 [.l 1 (W a), .l 1 (W b)] (.t [.l 1 (W (dg B (nv B a / nv B b))), .l 1 (W (dg B (nv B a % nv B b)))]) := by
  have hbt := Wd_get hb (b.length - 1)
  obtain ⟨n1, n2, n3⟩ := kn_norm hb (by omega) htop
  have hlz := lz64_spec (b.getD (b.length - 1) 0) hbt
  have hs64 : 64 - bl (b.getD (b.length - 1) 0) ≤ 64 := by omega
  have hshb := shl_spec b ((64 - bl (b.getD (b.length - 1) 0) : Nat) : Int) hb (by omega)
  have hsha := shl_spec a ((64 - bl (b.getD (b.length - 1) 0) : Nat) : Int) ha (by omega)
  rw [shlR, if_neg (by omega), tn_nat] at hshb hsha
  have hA := nv_lt ha
  have hsc := scale_div (U := nv B a) (y := nv B b) (s := 64 - bl (b.getD (b.length - 1) 0))
  have hbeg := kn_begin (s := 64 - bl (b.getD (b.length - 1) 0)) hab (by omega) hA n3
  have hAs : nv B a * 2 ^ (64 - bl (b.getD (b.length - 1) 0)) < B ^ (a.length + 1) := by
    have h64 : 2 ^ (64 - bl (b.getD (b.length - 1) 0)) ≤ B := Nat.pow_le_pow_right (n := 2) (by decide) hs64
    rw [Nat.pow_succ]
    exact Nat.lt_of_lt_of_le ((Nat.mul_lt_mul_right (Nat.two_pow_pos _)).2 hA) (Nat.mul_le_mul_left _ h64)
  generalize 64 - bl (b.getD (b.length - 1) 0) = s at *
  obtain ⟨n, hn⟩ : ∃ n, n = b.length := ⟨_, rfl⟩
  obtain ⟨m, hm⟩ : ∃ m, m = a.length := ⟨_, rfl⟩
  obtain ⟨Vs, hVs⟩ : ∃ v, v = nv B b * 2 ^ s := ⟨_, rfl⟩
  obtain ⟨As, hAe⟩ : ∃ v, v = nv B a * 2 ^ s := ⟨_, rfl⟩
  rw [← hVs, ← hn] at n1 n2
  rw [← hVs] at hshb hsc hbeg
  rw [← hAe] at hsha hsc hAs hbeg
  rw [← hm] at hAs hbeg
  rw [← hn] at hbeg
  have hvl : dg B Vs = fl B n Vs := (fl_full (by decide) (.inr n1) n2).symm
  rw [hvl] at hshb
  have hupl := dg_len (by decide : 2 ≤ B) hAs
  have hcat : [dg B As, List.replicate (m + 1 - (dg B As).length) 0].flatten = fl B (m + 1) As := by
    rw [← fl_pad hAs]; simp
  have hcon := concat_spec [dg B As, List.replicate (m + 1 - (dg B As).length) 0] (by simp) (by rw [hcat, fl_len]; omega)
  rw [hcat] at hcon
  have hlu : (fl B (m + 1) As).length = m + 1 := fl_len _ _
  have hlv : (fl B n Vs).length = n := fl_len _ _
  have hsub1 : ((m : Int) + 1 - ((dg B As).length : Int)).toNat = m + 1 - (dg B As).length := by omega
  have hge : (0 : Int) ≤ (m : Int) + 1 - ((dg B As).length : Int) := by omega
  refine AFun.mk fol J0s Try.func57 rfl (ac := a57) (by kernel_rfl) rfl rfl ?_
  apply vm_start
  unfold a57
  simp only [init_eq, initE]
  have hQ1 : ((m : Int) + 1 - (n : Int)).toNat = m + 1 - n := by omega
  have hQ0 : (0 : Int) ≤ (m : Int) + 1 - (n : Int) := by omega
  repeat first | (refine hK _ ?_; clear hK K) | simp only [Sv, ↓reduceIte, Nat.reduceEqDiff] | ((first | refine vm_reg (fun K hK => ?_) | refine vm_dreg (fun K hK => ?_)); simp (disch := (first | omega | assumption)) only [S1, ↓reduceIte, Nat.reduceEqDiff, Nat.reduceAdd, Nat.reduceMul, Nat.reduceDiv, AOp.sb, AOp.mut, ↓Bool.false_eq_true, beq_self_eq_true, ite_self, Nat.reduceLeDiff, Int.reduceEq, Int.reduceSub, Int.reduceAdd, Int.reduceNeg, Int.reduceLT, Int.reduceLE, Nat.reduceLT, wi, tn_nat, Nat.div_one, Nat.mul_one, W_len, W_nf, W_cell, W_get, ← hn, tn_s1])
  refine clp_of _ _ (hlz) ?_ ?_
  · first | rfl | (simp (disch := (first | omega | assumption)) only [S1, ↓reduceIte, Nat.reduceEqDiff, Nat.reduceAdd, Nat.reduceMul, Nat.reduceDiv, AOp.sb, AOp.mut, ↓Bool.false_eq_true, beq_self_eq_true, ite_self, Nat.reduceLeDiff, Int.reduceEq, Int.reduceSub, Int.reduceAdd, Int.reduceNeg, Int.reduceLT, Int.reduceLE, Nat.reduceLT, wi, tn_nat, Nat.div_one, Nat.mul_one, W_len, W_nf, W_cell, W_get, ← hn, tn_s1])
  simp (disch := (first | omega | assumption)) only [S1, ↓reduceIte, Nat.reduceEqDiff, Nat.reduceAdd, Nat.reduceMul, Nat.reduceDiv, AOp.sb, AOp.mut, ↓Bool.false_eq_true, beq_self_eq_true, ite_self, Nat.reduceLeDiff, Int.reduceEq, Int.reduceSub, Int.reduceAdd, Int.reduceNeg, Int.reduceLT, Int.reduceLE, Nat.reduceLT, wi, tn_nat, Nat.div_one, Nat.mul_one, W_len, W_nf, W_cell, W_get, ← hn, tn_s1]
  repeat first | (refine hK _ ?_; clear hK K) | simp only [Sv, ↓reduceIte, Nat.reduceEqDiff] | ((first | refine vm_reg (fun K hK => ?_) | refine vm_dreg (fun K hK => ?_)); simp (disch := (first | omega | assumption)) only [S1, ↓reduceIte, Nat.reduceEqDiff, Nat.reduceAdd, Nat.reduceMul, Nat.reduceDiv, AOp.sb, AOp.mut, ↓Bool.false_eq_true, beq_self_eq_true, ite_self, Nat.reduceLeDiff, Int.reduceEq, Int.reduceSub, Int.reduceAdd, Int.reduceNeg, Int.reduceLT, Int.reduceLE, Nat.reduceLT, wi, tn_nat, Nat.div_one, Nat.mul_one, W_len, W_nf, W_cell])
  refine clp_of _ _ (hshb) ?_ ?_
  · first | rfl | (simp (disch := (first | omega | assumption)) only [S1, ↓reduceIte, Nat.reduceEqDiff, Nat.reduceAdd, Nat.reduceMul, Nat.reduceDiv, AOp.sb, AOp.mut, ↓Bool.false_eq_true, beq_self_eq_true, ite_self, Nat.reduceLeDiff, Int.reduceEq, Int.reduceSub, Int.reduceAdd, Int.reduceNeg, Int.reduceLT, Int.reduceLE, Nat.reduceLT, wi, tn_nat, Nat.div_one, Nat.mul_one, W_len, W_nf, W_cell])
  simp (disch := (first | omega | assumption)) only [S1, ↓reduceIte, Nat.reduceEqDiff, Nat.reduceAdd, Nat.reduceMul, Nat.reduceDiv, AOp.sb, AOp.mut, ↓Bool.false_eq_true, beq_self_eq_true, ite_self, Nat.reduceLeDiff, Int.reduceEq, Int.reduceSub, Int.reduceAdd, Int.reduceNeg, Int.reduceLT, Int.reduceLE, Nat.reduceLT, wi, tn_nat, Nat.div_one, Nat.mul_one, W_len, W_nf, W_cell]
  repeat first | (refine hK _ ?_; clear hK K) | simp only [Sv, ↓reduceIte, Nat.reduceEqDiff] | ((first | refine vm_reg (fun K hK => ?_) | refine vm_dreg (fun K hK => ?_)); simp (disch := (first | omega | assumption)) only [S1, ↓reduceIte, Nat.reduceEqDiff, Nat.reduceAdd, Nat.reduceMul, Nat.reduceDiv, AOp.sb, AOp.mut, ↓Bool.false_eq_true, beq_self_eq_true, ite_self, Nat.reduceLeDiff, Int.reduceEq, Int.reduceSub, Int.reduceAdd, Int.reduceNeg, Int.reduceLT, Int.reduceLE, Nat.reduceLT, wi, tn_nat, Nat.div_one, Nat.mul_one, W_len, W_nf, W_cell])
  refine clp_of _ _ (hsha) ?_ ?_
  · first | rfl | (simp (disch := (first | omega | assumption)) only [S1, ↓reduceIte, Nat.reduceEqDiff, Nat.reduceAdd, Nat.reduceMul, Nat.reduceDiv, AOp.sb, AOp.mut, ↓Bool.false_eq_true, beq_self_eq_true, ite_self, Nat.reduceLeDiff, Int.reduceEq, Int.reduceSub, Int.reduceAdd, Int.reduceNeg, Int.reduceLT, Int.reduceLE, Nat.reduceLT, wi, tn_nat, Nat.div_one, Nat.mul_one, W_len, W_nf, W_cell])
  simp (disch := (first | omega | assumption)) only [S1, ↓reduceIte, Nat.reduceEqDiff, Nat.reduceAdd, Nat.reduceMul, Nat.reduceDiv, AOp.sb, AOp.mut, ↓Bool.false_eq_true, beq_self_eq_true, ite_self, Nat.reduceLeDiff, Int.reduceEq, Int.reduceSub, Int.reduceAdd, Int.reduceNeg, Int.reduceLT, Int.reduceLE, Nat.reduceLT, wi, tn_nat, Nat.div_one, Nat.mul_one, W_len, W_nf, W_cell]
  repeat first | (refine hK _ ?_; clear hK K) | simp only [Sv, ↓reduceIte, Nat.reduceEqDiff] | ((first | refine vm_reg (fun K hK => ?_) | refine vm_dreg (fun K hK => ?_)); simp (disch := (first | omega | assumption)) only [S1, ↓reduceIte, Nat.reduceEqDiff, Nat.reduceAdd, Nat.reduceMul, Nat.reduceDiv, AOp.sb, AOp.mut, ↓Bool.false_eq_true, beq_self_eq_true, ite_self, Nat.reduceLeDiff, Int.reduceEq, Int.reduceSub, Int.reduceAdd, Int.reduceNeg, Int.reduceLT, Int.reduceLE, Nat.reduceLT, wi, tn_nat, Nat.div_one, Nat.mul_one, W_len, W_nf, W_cell, ← hm, hsub1, mk_W])
  refine clp_of _ _ (hcon) ?_ ?_
  · first | rfl | (simp (disch := (first | omega | assumption)) only [S1, ↓reduceIte, Nat.reduceEqDiff, Nat.reduceAdd, Nat.reduceMul, Nat.reduceDiv, AOp.sb, AOp.mut, ↓Bool.false_eq_true, beq_self_eq_true, ite_self, Nat.reduceLeDiff, Int.reduceEq, Int.reduceSub, Int.reduceAdd, Int.reduceNeg, Int.reduceLT, Int.reduceLE, Nat.reduceLT, wi, tn_nat, Nat.div_one, Nat.mul_one, W_len, W_nf, W_cell, ← hm, hsub1, mk_W])
  simp (disch := (first | omega | assumption)) only [S1, ↓reduceIte, Nat.reduceEqDiff, Nat.reduceAdd, Nat.reduceMul, Nat.reduceDiv, AOp.sb, AOp.mut, ↓Bool.false_eq_true, beq_self_eq_true, ite_self, Nat.reduceLeDiff, Int.reduceEq, Int.reduceSub, Int.reduceAdd, Int.reduceNeg, Int.reduceLT, Int.reduceLE, Nat.reduceLT, wi, tn_nat, Nat.div_one, Nat.mul_one, W_len, W_nf, W_cell, ← hm, hsub1, mk_W]
  repeat first
    | (refine hK _ ?_; clear hK K)
    | ((first | refine vm_reg (fun K hK => ?_) | refine vm_dreg (fun K hK => ?_)); simp (disch := (first | omega | assumption)) only [S1, ↓reduceIte, Nat.reduceEqDiff, Nat.reduceAdd, Nat.reduceMul, Nat.reduceDiv, AOp.sb, AOp.mut, ↓Bool.false_eq_true, beq_self_eq_true, ite_self, Nat.reduceLeDiff, Int.reduceEq, Int.reduceSub, Int.reduceAdd, Int.reduceNeg, Int.reduceLT, Int.reduceLE, Nat.reduceLT, wi, tn_nat, Nat.div_one, Nat.mul_one, W_len, W_nf, W_cell, hlu, hQ1, mk_W]; refine hK _ ?_; clear hK K)
    | simp only [Sv, ↓reduceIte, Nat.reduceEqDiff]
  have hVn : 0 < Vs := Nat.lt_of_lt_of_le (Nat.pow_pos (by decide)) n1
  refine vm_loopA [] Nat (fun i => ⟨[(6, .i .i64 (n : Int)), (7, .i .i64 (s : Int)), (8, .l 1 (W (fl B n Vs))), (12, .ow 1 0 (m + 1)), (13, .ow 1 1 (m + 1 - n)), (14, .i .i64 ((i : Int) - 1))],
      [(0, some ⟨29, 1, W (uL As Vs m n i), true, false⟩), (1, some ⟨29, 1, W (qL As Vs (m + 1 - n) i), true, false⟩)], 2⟩)
    (fun i => i ≤ m + 1 - n) (fun i => i) (m + 1 - n) (Nat.le_refl _) (by simp (disch := (first | omega | assumption)) only [Sl, Sa, Sw, ↓reduceIte, Nat.reduceEqDiff, Nat.reduceLT, List.all_nil, List.all_cons, Nat.reduceBneDiff, Nat.reduceAdd, bne_iff_ne, ne_eq, reduceCtorEq, not_false_eq_true, not_true_eq_false, Bool.and_true, Bool.true_and, and_true, true_and, and_self]) (by
    simp (disch := (first | omega | assumption)) only [Sl, Sa, Sw, ↓reduceIte, Nat.reduceEqDiff, Nat.reduceLT, List.all_nil, List.all_cons, Nat.reduceBneDiff, Nat.reduceAdd, bne_iff_ne, ne_eq, reduceCtorEq, not_false_eq_true, not_true_eq_false, Bool.and_true, Bool.true_and, and_true, true_and, and_self, i_eq]
    refine ⟨by omega, ?_, ?_⟩
    · rw [← uL_top (by omega) hbeg]
    · unfold qL; rw [Nat.sub_self, Nat.div_eq_of_lt hbeg]; simp [fl]) ?_
  intro i hi Q' hQ he hr
  cases i with
  | zero =>
    have hu0 : (uL As Vs m n 0).take n = fl B n (As % Vs) := by
      unfold uL; rw [Nat.pow_zero, Nat.div_one, fl, List.nil_append, List.take_append_of_le_length (by rw [fl_len]; exact Nat.le_refl _), List.take_of_length_le (by rw [fl_len]; exact Nat.le_refl _)]
    have hul : (uL As Vs m n 0).length = m + 1 := by unfold uL; rw [List.length_append, List.length_append, fl_len, fl_len, List.length_replicate]; omega
    have hq0 : qL As Vs (m + 1 - n) 0 = fl B (m + 1 - n) (As / Vs) := by unfold qL; rw [Nat.pow_zero, Nat.div_one]; rfl
    have hRn : As % Vs < B ^ n := Nat.lt_trans (Nat.mod_lt _ hVn) n2
    have hQb : As / Vs < B ^ (m + 1 - n) := by
      refine (Nat.div_lt_iff_lt_mul hVn).2 ?_
      rw [Nat.mul_comm]
      exact (Nat.div_lt_iff_lt_mul (Nat.pow_pos (by decide))).1 hbeg
    have hsh := shr_spec (fl B n (As % Vs)) (s : Int) (fl_Lt (by decide) _ _) (by rw [fl_len]; omega) (by omega)
    rw [shrR, if_neg (by omega), tn_nat, nv_fl, Nat.mod_eq_of_lt hRn, hsc.2] at hsh
    have hno := norm_spec (fl B (m + 1 - n) (As / Vs)) (by rw [fl_len]; omega)
    rw [dg_fl (by decide : 2 ≤ B) hQb] at hno
    repeat first
      | (refine hK _ ?_; clear hK K)
      | ((first | refine vm_reg (fun K hK => ?_) | refine vm_dreg (fun K hK => ?_)); simp (disch := (first | omega | assumption)) only [S1, ↓reduceIte, Nat.reduceEqDiff, Nat.reduceAdd, Nat.reduceMul, Nat.reduceDiv, AOp.sb, AOp.mut, ↓Bool.false_eq_true, beq_self_eq_true, ite_self, Nat.reduceLeDiff, Int.reduceEq, Int.reduceSub, Int.reduceAdd, Int.reduceNeg, Int.reduceLT, Int.reduceLE, Nat.reduceLT, wi, tn_nat, Nat.div_one, Nat.mul_one, W_len, W_nf, W_cell]; refine hK _ ?_; clear hK K)
      | simp only [Sv, ↓reduceIte, Nat.reduceEqDiff]
    refine he _ _ ?_
    rw [hq0, ← hsc.1]
    have zc1 := hsh
    have zc2 := hno
    repeat first | (refine hK _ ?_; clear hK K) | simp only [Sv, ↓reduceIte, Nat.reduceEqDiff] | ((first | refine vm_reg (fun K hK => ?_) | refine vm_dreg (fun K hK => ?_) | refine clp_q ?_ | refine clq_mk (by assumption) ?_); simp (disch := (first | omega | assumption)) only [S1, ↓reduceIte, Nat.reduceEqDiff, Nat.reduceAdd, Nat.reduceMul, Nat.reduceDiv, AOp.sb, AOp.mut, ↓Bool.false_eq_true, beq_self_eq_true, ite_self, Nat.reduceLeDiff, Int.reduceEq, Int.reduceSub, Int.reduceAdd, Int.reduceNeg, Int.reduceLT, Int.reduceLE, Nat.reduceLT, wi, tn_nat, Nat.div_one, Nat.mul_one, W_len, W_nf, W_cell, hul, W_take, hu0])
    simp (disch := (first | omega | assumption)) only [retOk, retN, ret1, retF, ret1F, V.okArg, and_true, true_and, S1, ↓reduceIte, Nat.reduceEqDiff, Nat.reduceAdd, Nat.reduceMul, Nat.reduceDiv, AOp.sb, AOp.mut, ↓Bool.false_eq_true, beq_self_eq_true, ite_self, Nat.reduceLeDiff, Int.reduceEq, Int.reduceSub, Int.reduceAdd, Int.reduceNeg, Int.reduceLT, Int.reduceLE, Nat.reduceLT, wi, tn_nat, Nat.div_one, Nat.mul_one, W_len, W_nf, W_cell, hul, W_take, hu0]
  | succ j =>
    have hj : (((j + 1 : Nat) : Int) - 1) = (j : Int) := by omega
    have hnle : n ≤ 1099511627776 := by omega
    have hnm : n ≤ m + 1 - j := by omega
    have hjm : j + 1 + n ≤ m + 1 := by omega
    have hx : As / B ^ j % B < B := Nat.mod_lt _ (by decide)
    have hR : As / B ^ (j + 1) % Vs < Vs := Nat.mod_lt _ hVn
    have e0 : As / B ^ j = As / B ^ j % B + B * (As / B ^ (j + 1)) := by
      rw [Nat.pow_succ, ← Nat.div_div_eq_div_mul]; have := Nat.div_add_mod (As / B ^ j) B; omega
    obtain ⟨s1, s2, s3, s4⟩ := divOne_step (V := As / B ^ (j + 1)) hVn hx
    rw [← e0] at s1 s2 s3
    rw [uL_win]
    have hUlt : As / B ^ (j + 1) % Vs * B + As / B ^ j % B < Vs * B := by
      have := Nat.mul_le_mul_right B (show As / B ^ (j + 1) % Vs + 1 ≤ Vs from hR)
      rw [Nat.add_mul, Nat.one_mul] at this; omega
    obtain ⟨U, hU⟩ : ∃ U, U = As / B ^ (j + 1) % Vs * B + As / B ^ j % B := ⟨_, rfl⟩
    rw [← hU] at s1 s3 s4 hUlt ⊢
    have hX : (fl B j As).length = j := fl_len _ _
    have hAl : (fl B n U).length = n := fl_len _ _
    have hUB : U < B ^ n * B := Nat.lt_of_lt_of_le hUlt (Nat.mul_le_mul_right B (Nat.le_of_lt n2))
    have htB : U / B ^ n < B := (Nat.div_lt_iff_lt_mul (Nat.pow_pos (by decide))).2 (by rw [Nat.mul_comm]; exact hUB)
    have htm : U / B ^ n % B = U / B ^ n := Nat.mod_eq_of_lt htB
    obtain ⟨k, hk⟩ : ∃ k, n = k + 2 := ⟨n - 2, by omega⟩
    generalize hZ : List.replicate (m + 1 - (j + 1) - n) 0 = Z
    have hZl := congrArg List.length hZ
    rw [List.length_replicate] at hZl
    have w0 := win_len (t := U / B ^ n % B) (Z := Z) hX hAl
    have w1 := win_top (t := U / B ^ n % B) (Z := Z) hX hAl
    have w2 := win_get (t := U / B ^ n % B) (Z := Z) hX hAl (k := n - 1) (by omega) (i := j + (n - 1)) rfl
    have w3 := win_get (t := U / B ^ n % B) (Z := Z) hX hAl (k := n - 2) (by omega) (i := j + (n - 2)) rfl
    have w4 := win_cut (t := U / B ^ n % B) (Z := Z) hX hAl
    rw [fl_get _ _ _ (by omega)] at w2 w3
    have v1 := fl_get (b := B) n Vs (n - 1) (by omega)
    have v2 := fl_get (b := B) n Vs (n - 2) (by omega)
    have hn1 : n - 1 = k + 1 := by omega
    have hn2 : n - 2 = k := by omega
    rw [hn1] at w2 v1 n1
    rw [hn2] at w3 v2
    have ml : ∀ z : Nat, z % B < 18446744073709551616 := fun z => Nat.mod_lt z (by decide)
    have hv1 : Vs / B ^ (k + 1) < B := (Nat.div_lt_iff_lt_mul (Nat.pow_pos (by decide))).2 (by rw [← Nat.pow_succ', show (k + 1).succ = n from by omega]; exact n2)
    have hv1m : Vs / B ^ (k + 1) % B = Vs / B ^ (k + 1) := Nat.mod_eq_of_lt hv1
    have q1 : U / B ^ n % B ≤ Vs / B ^ (k + 1) % B := by
      rw [htm, hv1m, hk, Nat.pow_succ, Nat.mul_comm, ← Nat.div_div_eq_div_mul]
      refine Nat.div_le_div_right ?_
      exact Nat.le_of_lt ((Nat.div_lt_iff_lt_mul (by decide)).2 hUlt)
    have q2 : 0 < Vs / B ^ (k + 1) % B := by
      rw [hv1m]; exact (Nat.le_div_iff_mul_le (Nat.pow_pos (by decide))).2 (by rw [Nat.one_mul]; exact n1)
    have gs := guess_spec (U / B ^ n % B) (U / B ^ (k + 1) % B) (U / B ^ k % B) (Vs / B ^ (k + 1) % B) (Vs / B ^ k % B) q1 q2 (ml _) (ml _) (ml _) (ml _)
    have t1 : (U / B ^ n % B * 18446744073709551616 + U / B ^ (k + 1) % B) * 18446744073709551616 + U / B ^ k % B = U / B ^ k := by
      rw [htm, hk]; exact kn_top
    have t2 : Vs / B ^ (k + 1) % B * 18446744073709551616 + Vs / B ^ k % B = Vs / B ^ k := kn_top2 (by rw [← hk]; exact n2)
    rw [t1, t2] at gs
    have hVk : B ≤ Vs / B ^ k := (Nat.le_div_iff_mul_le (Nat.pow_pos (by decide))).2 (by rw [← Nat.pow_succ']; exact n1)
    obtain ⟨kg1, kg2⟩ := kn_guess (Nat.pow_pos (by decide : 0 < B) : 0 < B ^ k) hUlt hVk
    have gB : min 18446744073709551615 (U / B ^ k / (Vs / B ^ k)) < 18446744073709551616 := by omega
    obtain ⟨g, hg⟩ : ∃ g, g = min 18446744073709551615 (U / B ^ k / (Vs / B ^ k)) := ⟨_, rfl⟩
    rw [← hg] at gs gB
    have kg1' : U / Vs ≤ g := by rw [hg]; exact kg1
    have kg2' : g ≤ U / Vs + 1 := by rw [hg]; exact kg2
    have hj0 : (0 : Int) ≤ (j : Int) := by omega
    repeat first | (refine hK _ ?_; clear hK K) | simp only [Sv, ↓reduceIte, Nat.reduceEqDiff] | ((first | refine vm_reg (fun K hK => ?_) | refine vm_dreg (fun K hK => ?_)); simp (disch := (first | omega | assumption)) only [S1, ↓reduceIte, Nat.reduceEqDiff, Nat.reduceAdd, Nat.reduceMul, Nat.reduceDiv, AOp.sb, AOp.mut, ↓Bool.false_eq_true, beq_self_eq_true, ite_self, Nat.reduceLeDiff, Int.reduceEq, Int.reduceSub, Int.reduceAdd, Int.reduceNeg, Int.reduceLT, Int.reduceLE, Nat.reduceLT, wi, tn_nat, Nat.div_one, Nat.mul_one, W_len, W_nf, W_cell, hj, hj0, w0, tn_add', tn_add1', tn_add2', W_get, w1, w2, w3, v1, v2, hn1, hn2, hlv, tn_s1, tn_s2])
    refine clp_of _ _ (gs) ?_ ?_
    · first | rfl | (simp (disch := (first | omega | assumption)) only [S1, ↓reduceIte, Nat.reduceEqDiff, Nat.reduceAdd, Nat.reduceMul, Nat.reduceDiv, AOp.sb, AOp.mut, ↓Bool.false_eq_true, beq_self_eq_true, ite_self, Nat.reduceLeDiff, Int.reduceEq, Int.reduceSub, Int.reduceAdd, Int.reduceNeg, Int.reduceLT, Int.reduceLE, Nat.reduceLT, wi, tn_nat, Nat.div_one, Nat.mul_one, W_len, W_nf, W_cell, hj, hj0, w0, tn_add', tn_add1', tn_add2', W_get, w1, w2, w3, v1, v2, hn1, hn2, hlv, tn_s1, tn_s2])
    simp (disch := (first | omega | assumption)) only [S1, ↓reduceIte, Nat.reduceEqDiff, Nat.reduceAdd, Nat.reduceMul, Nat.reduceDiv, AOp.sb, AOp.mut, ↓Bool.false_eq_true, beq_self_eq_true, ite_self, Nat.reduceLeDiff, Int.reduceEq, Int.reduceSub, Int.reduceAdd, Int.reduceNeg, Int.reduceLT, Int.reduceLE, Nat.reduceLT, wi, tn_nat, Nat.div_one, Nat.mul_one, W_len, W_nf, W_cell, hj, hj0, w0, tn_add', tn_add1', tn_add2', W_get, w1, w2, w3, v1, v2, hn1, hn2, hlv, tn_s1, tn_s2]
    have hvd : nv B (fl B n Vs) = Vs := by rw [nv_fl, Nat.mod_eq_of_lt n2]
    have hms := mulSub_spec (fl B n U) (fl B n Vs) g (fl_Lt (by decide) _ _) (fl_Lt (by decide) _ _) gB (by omega) (by omega)
    rw [hvd, nv_fl, hAl] at hms
    obtain ⟨m1, m2⟩ := ms_def (A := U % B ^ n) (V := Vs) (w := g) (P := B ^ n) (Nat.mod_lt _ (Nat.pow_pos (by decide)))
    obtain ⟨c, hc⟩ : ∃ c, c = msC (U % B ^ n) Vs g (B ^ n) := ⟨_, rfl⟩
    rw [← hc] at hms m1 m2
    obtain ⟨o, ho⟩ : ∃ o, o = U % B ^ n + B ^ n * c - Vs * g := ⟨_, rfl⟩
    rw [← ho] at hms m1 m2
    have hcg := ms_le n2 (Nat.mod_lt U (Nat.pow_pos (by decide))) m1 m2
    obtain ⟨ks1, ks2⟩ := kn_sub (Nat.mod_lt U (Nat.pow_pos (by decide))) (Nat.mod_add_div U (B ^ n)).symm n2 hVn kg1' kg2' m1 m2
    have w5 := win_sub (t := U / B ^ n % B) (Z := Z) hX hAl
    have hol : (fl B n o).length = n := fl_len _ _
    have hcop := W_copy (A := fl B n U) (R := fl B n o) (Z := Z) (t := U / B ^ n % B) hX (by rw [hAl, hol])
    have w6 := win_len (t := U / B ^ n % B) (Z := Z) hX hol
    have w7 := win_top (t := U / B ^ n % B) (Z := Z) hX hol
    have w8 := fun t' => win_set (t := U / B ^ n % B) (Z := Z) hX hol t'
    repeat first | (refine hK _ ?_; clear hK K) | simp only [Sv, ↓reduceIte, Nat.reduceEqDiff] | ((first | refine vm_reg (fun K hK => ?_) | refine vm_dreg (fun K hK => ?_)); simp (disch := (first | omega | assumption)) only [S1, ↓reduceIte, Nat.reduceEqDiff, Nat.reduceAdd, Nat.reduceMul, Nat.reduceDiv, AOp.sb, AOp.mut, ↓Bool.false_eq_true, beq_self_eq_true, ite_self, Nat.reduceLeDiff, Int.reduceEq, Int.reduceSub, Int.reduceAdd, Int.reduceNeg, Int.reduceLT, Int.reduceLE, Nat.reduceLT, wi, tn_nat, Nat.div_one, Nat.mul_one, W_len, W_nf, W_cell, hj, tn_add', w0, W_drop, W_take, w5, Nat.add_sub_cancel_left])
    refine clp_of _ _ (hms) ?_ ?_
    · first | rfl | (simp (disch := (first | omega | assumption)) only [S1, ↓reduceIte, Nat.reduceEqDiff, Nat.reduceAdd, Nat.reduceMul, Nat.reduceDiv, AOp.sb, AOp.mut, ↓Bool.false_eq_true, beq_self_eq_true, ite_self, Nat.reduceLeDiff, Int.reduceEq, Int.reduceSub, Int.reduceAdd, Int.reduceNeg, Int.reduceLT, Int.reduceLE, Nat.reduceLT, wi, tn_nat, Nat.div_one, Nat.mul_one, W_len, W_nf, W_cell, hj, tn_add', w0, W_drop, W_take, w5, Nat.add_sub_cancel_left])
    simp (disch := (first | omega | assumption)) only [S1, ↓reduceIte, Nat.reduceEqDiff, Nat.reduceAdd, Nat.reduceMul, Nat.reduceDiv, AOp.sb, AOp.mut, ↓Bool.false_eq_true, beq_self_eq_true, ite_self, Nat.reduceLeDiff, Int.reduceEq, Int.reduceSub, Int.reduceAdd, Int.reduceNeg, Int.reduceLT, Int.reduceLE, Nat.reduceLT, wi, tn_nat, Nat.div_one, Nat.mul_one, W_len, W_nf, W_cell, hj, tn_add', w0, W_drop, W_take, w5, Nat.add_sub_cancel_left]
    repeat first | (refine hK _ ?_; clear hK K) | simp only [Sv, ↓reduceIte, Nat.reduceEqDiff] | ((first | refine vm_reg (fun K hK => ?_) | refine vm_dreg (fun K hK => ?_)); simp (disch := (first | omega | assumption)) only [S1, ↓reduceIte, Nat.reduceEqDiff, Nat.reduceAdd, Nat.reduceMul, Nat.reduceDiv, AOp.sb, AOp.mut, ↓Bool.false_eq_true, beq_self_eq_true, ite_self, Nat.reduceLeDiff, Int.reduceEq, Int.reduceSub, Int.reduceAdd, Int.reduceNeg, Int.reduceLT, Int.reduceLE, Nat.reduceLT, wi, tn_nat, Nat.div_one, Nat.mul_one, W_len, W_nf, W_cell, w0, tn_add', W_get, w1])
    refine xlp_mk _ (sub64_x (U / B ^ n % B) c (by omega)) ?_
    simp (disch := (first | omega | assumption)) only [S1, ↓reduceIte, Nat.reduceEqDiff, Nat.reduceAdd, Nat.reduceMul, Nat.reduceDiv, AOp.sb, AOp.mut, ↓Bool.false_eq_true, beq_self_eq_true, ite_self, Nat.reduceLeDiff, Int.reduceEq, Int.reduceSub, Int.reduceAdd, Int.reduceNeg, Int.reduceLT, Int.reduceLE, Nat.reduceLT, wi, tn_nat, Nat.div_one, Nat.mul_one, W_len, W_nf, W_cell, w0, tn_add', W_get, w1]
    have htk : (fl B n o).take (m + 1 - j) = fl B n o := List.take_of_length_le (by omega)
    have hql := qL_len (As := As) (Vs := Vs) (Q := m + 1 - n) hi
    have hqs := fun d h => qL_set (As := As) (Vs := Vs) (d := d) hi h s2
    rw [s1] at hqs
    by_cases hcase : c ≤ U / B ^ n
    · obtain ⟨z1, z2, z3⟩ := ks1 hcase
      have hun : (if U / B ^ n % B < c then 1 else 0 : Nat) = 0 := if_neg (by rw [htm]; omega)
      have htop0 : (U / B ^ n % B + 18446744073709551616 - c) % 18446744073709551616 = 0 := by rw [htm, z2, Nat.add_sub_cancel_left]
      have hq2 := hqs g z1.symm
      have hlow := uL_low (As := As) (Vs := Vs) (m := m) (n := n) (j := j) (by omega) o (by rw [s3, z3])
      rw [hZ] at hlow
      repeat first
        | (refine hK _ ?_; clear hK K)
        | ((first | refine vm_reg (fun K hK => ?_) | refine vm_dreg (fun K hK => ?_)); simp (disch := (first | omega | assumption)) only [S1, ↓reduceIte, Nat.reduceEqDiff, Nat.reduceAdd, Nat.reduceMul, Nat.reduceDiv, AOp.sb, AOp.mut, ↓Bool.false_eq_true, beq_self_eq_true, ite_self, Nat.reduceLeDiff, Int.reduceEq, Int.reduceSub, Int.reduceAdd, Int.reduceNeg, Int.reduceLT, Int.reduceLE, Nat.reduceLT, wi, tn_nat, Nat.div_one, Nat.mul_one, W_len, W_nf, W_cell, hj, hun, htop0, w0, w6, tn_add', W_take, htk, hcop, W_set0, w8, hlow, hql, W_set, hq2]; refine hK _ ?_; clear hK K)
        | simp only [Sv, ↓reduceIte, Nat.reduceEqDiff]
      refine hQ _ j (by omega) (by omega) ?_
      simp (disch := (first | omega | assumption)) only [Sl, Sa, Sw, ↓reduceIte, Nat.reduceEqDiff, Nat.reduceLT, List.all_nil, List.all_cons, Nat.reduceBneDiff, Nat.reduceAdd, bne_iff_ne, ne_eq, reduceCtorEq, not_false_eq_true, not_true_eq_false, Bool.and_true, Bool.true_and, and_true, true_and, and_self, i_eq]
      repeat' first | rfl | omega | (simp only [List.length_append, List.length_cons, List.length_nil]; done) | apply And.intro
    · obtain ⟨z1, z2, z3⟩ := ks2 (Nat.lt_of_not_le hcase)
      have hun : (if U / B ^ n % B < c then 1 else 0 : Nat) = 1 := by rw [htm]; exact kn_un _ _ z2
      have htop1 : (U / B ^ n % B + 18446744073709551616 - c) % 18446744073709551616 = 18446744073709551615 := by rw [htm]; exact kn_m1 _ _ z2
      have hd1 : ((g : Nat) : Int) - 1 = ((U / Vs : Nat) : Int) := kn_d1 _ _ z1
      have hRB : U % Vs < B ^ n := Nat.lt_trans (Nat.mod_lt _ hVn) n2
      have had := limbAdd_fr (fl B n o) (fl B n Vs) (fl_Lt (by decide) _ _) (fl_Lt (by decide) _ _) (by rw [hol]; exact hnle) (by rw [hlv]; exact hnle)
      rw [nv_fl (b := B) n o, Nat.mod_eq_of_lt m1, hvd, hol, hlv, Nat.max_self, z3, Nat.add_div_right _ (Nat.pow_pos (by decide)), Nat.div_eq_of_lt hRB, fl_congr (by decide : 0 < B) (show (U % Vs + B ^ n) % B ^ n = (U % Vs) % B ^ n by rw [Nat.add_mod_right])] at had
      have w9 := win_len (t := 18446744073709551615) (Z := Z) hX hol
      have w10 := win_cut (t := 18446744073709551615) (Z := Z) hX hol
      have hwu : IntKind.wrap .u64 ((U / Vs : Nat) : Int) = ((U / Vs : Nat) : Int) := wuN _ (Nat.lt_of_le_of_lt kg1' gB)
      have w14 := win_sub (t := 18446744073709551615) (Z := Z) hX hol
      have hbl : (fl B n (U % Vs)).length = n := fl_len _ _
      have hcop2 := W_copy (A := fl B n o) (R := fl B n (U % Vs)) (Z := Z) (t := 18446744073709551615) hX (by rw [hbl, hol])
      have w11 := win_top (t := 18446744073709551615) (Z := Z) hX hbl
      have w12 := win_len (t := 18446744073709551615) (Z := Z) hX hbl
      have w13 := fun t' => win_set (t := 18446744073709551615) (Z := Z) hX hbl t'
      have htk2 : (fl B n (U % Vs)).take (m + 1 - j) = fl B n (U % Vs) := List.take_of_length_le (by rw [hbl]; exact hnm)
      have hq2 := hqs (U / Vs) rfl
      have hlow := uL_low (As := As) (Vs := Vs) (m := m) (n := n) (j := j) hjm (U % Vs) s3
      rw [hZ] at hlow
      have zc3 := had
      repeat first | (refine hK _ ?_; clear hK K) | simp only [Sv, ↓reduceIte, Nat.reduceEqDiff] | ((first | refine vm_reg (fun K hK => ?_) | refine vm_dreg (fun K hK => ?_) | refine clp_q ?_ | refine clq_mk (by assumption) ?_); simp (disch := (first | omega | assumption)) only [S1, ↓reduceIte, Nat.reduceEqDiff, Nat.reduceAdd, Nat.reduceMul, Nat.reduceDiv, AOp.sb, AOp.mut, ↓Bool.false_eq_true, beq_self_eq_true, ite_self, Nat.reduceLeDiff, Int.reduceEq, Int.reduceSub, Int.reduceAdd, Int.reduceNeg, Int.reduceLT, Int.reduceLE, Nat.reduceLT, wi, tn_nat, Nat.div_one, Nat.mul_one, W_len, W_nf, W_cell, hj, hun, htop1, w0, w6, tn_add', W_take, W_drop, htk, hcop, W_setM, w8, w9, w10, w14, Nat.add_sub_cancel_left, hd1, hwu, w12, W_get, htk2, hcop2, w11, wrapM, W_set0, w13, hlow, hql, W_set, hq2])
      refine hQ _ j (Nat.le_of_succ_le hi) (Nat.lt_succ_self j) ?_
      simp (disch := (first | omega | assumption)) only [Sl, Sa, Sw, ↓reduceIte, Nat.reduceEqDiff, Nat.reduceLT, List.all_nil, List.all_cons, Nat.reduceBneDiff, Nat.reduceAdd, bne_iff_ne, ne_eq, reduceCtorEq, not_false_eq_true, not_true_eq_false, Bool.and_true, Bool.true_and, and_true, true_and, and_self, i_eq]
      repeat' first | rfl | omega | (simp only [List.length_append, List.length_cons, List.length_nil]; done) | apply And.intro
end Go.Proofs.Ytngohbpgdeiodaa
