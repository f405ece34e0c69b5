/-
  Words: products; a row less a multiple; a row times a word.
-/
import Derived.Test.YtngohbpgdeiodaaLimb3
import Derived.Test.YtngohbpgdeiodaaNM3
import Derived.Lib.Mul64
namespace Go.Proofs.Ytngohbpgdeiodaa
open Go Go.RowKit Ab
set_option linter.unusedSimpArgs false
set_option linter.unusedVariables false
set_option maxHeartbeats 10000000

theorem mulU (a b : Nat) : IntKind.u64.wrap ((a : Int) * (b : Int)) = ((a * b % 18446744073709551616 : Nat) : Int) := by
  rw [IntKind.wrap_u64, ← Int.natCast_mul]; omega
theorem addU (a b : Nat) : IntKind.u64.wrap ((a : Int) + (b : Int)) = (((a + b) % 18446744073709551616 : Nat) : Int) := by
  rw [IntKind.wrap_u64]; omega
theorem and32 (a : Nat) (h : a < 18446744073709551616) : bits .and .u64 (a : Int) 4294967295 = ((a % 4294967296 : Nat) : Int) := by
  rw [show (4294967295 : Int) = ((4294967295 : Nat) : Int) from rfl, band64 a _ h (by decide), show (4294967295 : Nat) = 2 ^ 32 - 1 from rfl, Nat.and_two_pow_sub_one_eq_mod]
theorem shr32 (a : Nat) : (a : Int).fdiv (2 ^ (min (32 : Int).toNat IntKind.u64.bits)) = ((a / 4294967296 : Nat) : Int) := shr64 a 32 (by decide)

-- math/bits.Mul64
def a103 : AC := .seq (.reg [⟨some 4, none, .mv (.k (.i .u64 0))⟩, 
      ⟨some 5, none, .mv (.k (.i .u64 0))⟩])
  (.seq (.reg [⟨some 14, none, .mv (.t 0)⟩, 
      ⟨some 15, none, .bin .and (.t 14) (.k (.i .u64 4294967295))⟩, 
      ⟨some 6, none, .mv (.t 15)⟩])
  (.seq (.reg [⟨some 16, none, .mv (.t 0)⟩, 
      ⟨some 17, none, .bin .shr (.t 16) (.k (.i .u64 32))⟩, 
      ⟨some 7, none, .mv (.t 17)⟩])
  (.seq (.reg [⟨some 18, none, .mv (.t 1)⟩, 
      ⟨some 19, none, .bin .and (.t 18) (.k (.i .u64 4294967295))⟩, 
      ⟨some 8, none, .mv (.t 19)⟩])
  (.seq (.reg [⟨some 20, none, .mv (.t 1)⟩, 
      ⟨some 21, none, .bin .shr (.t 20) (.k (.i .u64 32))⟩, 
      ⟨some 9, none, .mv (.t 21)⟩])
  (.seq (.reg [⟨some 22, none, .mv (.t 6)⟩, 
      ⟨some 23, none, .mv (.t 8)⟩, 
      ⟨some 24, none, .bin .mul (.t 22) (.t 23)⟩, 
      ⟨some 10, none, .mv (.t 24)⟩])
  (.seq (.reg [⟨some 25, none, .mv (.t 7)⟩, 
      ⟨some 26, none, .mv (.t 8)⟩, 
      ⟨some 27, none, .bin .mul (.t 25) (.t 26)⟩, 
      ⟨some 28, none, .mv (.t 10)⟩, 
      ⟨some 29, none, .bin .shr (.t 28) (.k (.i .u64 32))⟩, 
      ⟨some 30, none, .bin .add (.t 27) (.t 29)⟩, 
      ⟨some 11, none, .mv (.t 30)⟩])
  (.seq (.reg [⟨some 31, none, .mv (.t 11)⟩, 
      ⟨some 32, none, .bin .and (.t 31) (.k (.i .u64 4294967295))⟩, 
      ⟨some 12, none, .mv (.t 32)⟩])
  (.seq (.reg [⟨some 33, none, .mv (.t 11)⟩, 
      ⟨some 34, none, .bin .shr (.t 33) (.k (.i .u64 32))⟩, 
      ⟨some 13, none, .mv (.t 34)⟩])
  (.seq (.reg [⟨some 35, none, .mv (.t 12)⟩, 
      ⟨some 36, none, .mv (.t 6)⟩, 
      ⟨some 37, none, .mv (.t 9)⟩, 
      ⟨some 38, none, .bin .mul (.t 36) (.t 37)⟩, 
      ⟨some 39, none, .bin .add (.t 35) (.t 38)⟩, 
      ⟨some 12, none, .mv (.t 39)⟩])
  (.seq (.reg [⟨some 40, none, .mv (.t 7)⟩, 
      ⟨some 41, none, .mv (.t 9)⟩, 
      ⟨some 42, none, .bin .mul (.t 40) (.t 41)⟩, 
      ⟨some 43, none, .mv (.t 13)⟩, 
      ⟨some 44, none, .bin .add (.t 42) (.t 43)⟩, 
      ⟨some 45, none, .mv (.t 12)⟩, 
      ⟨some 46, none, .bin .shr (.t 45) (.k (.i .u64 32))⟩, 
      ⟨some 47, none, .bin .add (.t 44) (.t 46)⟩, 
      ⟨some 4, none, .mv (.t 47)⟩])
  (.seq (.reg [⟨some 48, none, .mv (.t 0)⟩, 
      ⟨some 49, none, .mv (.t 1)⟩, 
      ⟨some 50, none, .bin .mul (.t 48) (.t 49)⟩, 
      ⟨some 5, none, .mv (.t 50)⟩])
  (.ret))))))))))))
theorem mul64_spec (x y : Nat) (hx : x < 18446744073709551616) (hy : y < 18446744073709551616) : AFun Try.prog J0 103 [.i .u64 (x : Int), .i .u64 (y : Int)] (.t [.i .u64 ((x * y / 18446744073709551616 : Nat) : Int), .i .u64 ((x * y % 18446744073709551616 : Nat) : Int)]) := by
  obtain ⟨h1, h2, h3, h4⟩ := Lib.mul64_hi x y hx hy
  have h5 : x * y / 18446744073709551616 < 18446744073709551616 := (Nat.div_lt_iff_lt_mul (by decide)).2 (Nat.mul_lt_mul_of_lt_of_lt hx hy)
  rw [← h4] at h5
  rw [← h4]
  refine AFun.mk fol J0s Try.func103 rfl (ac := a103) (by kernel_rfl) rfl rfl ?_
  apply vm_start
  unfold a103
  simp only [init_eq, initE]
  repeat first
    | (refine hK _ ?_; clear hK K)
    | ((first | refine vm_reg (fun K hK => ?_) | refine vm_dreg (fun K hK => ?_)); simp (disch := (first | omega | assumption)) only [S1, ↓reduceIte, Nat.reduceEqDiff, Nat.reduceAdd, Nat.reduceMul, Nat.reduceDiv, AOp.sb, AOp.mut, ↓Bool.false_eq_true, beq_self_eq_true, ite_self, Nat.reduceLeDiff, Int.reduceEq, Int.reduceSub, Int.reduceAdd, Int.reduceNeg, Int.reduceLT, Int.reduceLE, Nat.reduceLT, wi, tn_nat, Nat.div_one, Nat.mul_one, and32, shr32, mulU, addU]; refine hK _ ?_; clear hK K)
    | simp only [Sv, ↓reduceIte, Nat.reduceEqDiff]
  simp (disch := (first | omega | assumption)) only [retOk, retN, ret1, retF, ret1F, V.okArg, and_true, true_and, S1, ↓reduceIte, Nat.reduceEqDiff, Nat.reduceAdd, Nat.reduceMul, Nat.reduceDiv, AOp.sb, AOp.mut, ↓Bool.false_eq_true, beq_self_eq_true, ite_self, Nat.reduceLeDiff, Int.reduceEq, Int.reduceSub, Int.reduceAdd, Int.reduceNeg, Int.reduceLT, Int.reduceLE, Nat.reduceLT, wi, tn_nat, Nat.div_one, Nat.mul_one, i_eq]
  rw [Nat.mod_eq_of_lt h1]
  have e2 : x / 4294967296 * (y % 4294967296) % 18446744073709551616 = x / 4294967296 * (y % 4294967296) := Nat.mod_eq_of_lt (by omega)
  have e3 : x % 4294967296 * (y / 4294967296) % 18446744073709551616 = x % 4294967296 * (y / 4294967296) := Nat.mod_eq_of_lt (by omega)
  have e4 : x / 4294967296 * (y / 4294967296) % 18446744073709551616 = x / 4294967296 * (y / 4294967296) := Nat.mod_eq_of_lt (by omega)
  rw [e2, e3, e4, Nat.mod_eq_of_lt h2, Nat.mod_eq_of_lt h3]
  generalize x / 4294967296 * (y / 4294967296) = a at *
  generalize x / 4294967296 * (y % 4294967296) = b at *
  generalize x % 4294967296 * (y / 4294967296) = c at *
  generalize x % 4294967296 * (y % 4294967296) = d at *
  omega

theorem mulW_lt {x y a b : Nat} (hx : x < 18446744073709551616) (hy : y < 18446744073709551616) (ha : a < 18446744073709551616) (hb : b < 18446744073709551616) : (x * y + a + b) / 18446744073709551616 < 18446744073709551616 := by
  refine (Nat.div_lt_iff_lt_mul (by decide)).2 ?_
  have := Nat.mul_le_mul (Nat.le_sub_one_of_lt hx) (Nat.le_sub_one_of_lt hy)
  omega
-- surd/limb.MulW
def a88 : AC := .seq (.reg [⟨some 8, none, .mv (.k (.i .u64 0))⟩, 
      ⟨some 9, none, .mv (.k (.i .u64 0))⟩])
  (.seq (.reg [⟨some 14, none, .mv (.t 0)⟩, 
      ⟨some 15, none, .mv (.t 1)⟩, 
      ⟨some 16, none, .call 103 [(1, (.t 14)), (1, (.t 15))]⟩, 
      ⟨some 13, none, .mv (.t 16)⟩, 
      ⟨some 17, none, .ext (.t 13) 0⟩, 
      ⟨some 18, none, .ext (.t 13) 1⟩, 
      ⟨some 10, none, .mv (.t 17)⟩, 
      ⟨some 11, none, .mv (.t 18)⟩])
  (.seq (.reg [⟨some 20, none, .mv (.t 11)⟩, 
      ⟨some 21, none, .mv (.t 2)⟩, 
      ⟨some 22, none, .mv (.t 3)⟩, 
      ⟨some 23, none, .call 91 [(1, (.t 20)), (1, (.t 21)), (1, (.t 22))]⟩, 
      ⟨some 19, none, .mv (.t 23)⟩, 
      ⟨some 24, none, .ext (.t 19) 0⟩, 
      ⟨some 25, none, .ext (.t 19) 1⟩, 
      ⟨some 11, none, .mv (.t 24)⟩, 
      ⟨some 12, none, .mv (.t 25)⟩])
  (.seq (.reg [⟨some 26, none, .mv (.t 10)⟩, 
      ⟨some 27, none, .mv (.t 12)⟩, 
      ⟨some 28, none, .bin .add (.t 26) (.t 27)⟩, 
      ⟨some 29, none, .mv (.t 11)⟩, 
      ⟨some 8, none, .mv (.t 28)⟩, 
      ⟨some 9, none, .mv (.t 29)⟩])
  (.ret))))
theorem mulW_spec (x y a b : Nat) (hx : x < 18446744073709551616) (hy : y < 18446744073709551616) (ha : a < 18446744073709551616) (hb : b < 18446744073709551616) :
    AFun Try.prog J0 88 [.i .u64 (x : Int), .i .u64 (y : Int), .i .u64 (a : Int), .i .u64 (b : Int)] (.t [.i .u64 (((x * y + a + b) / 18446744073709551616 : Nat) : Int), .i .u64 (((x * y + a + b) % 18446744073709551616 : Nat) : Int)]) := by
  have hlt := mulW_lt hx hy ha hb
  refine AFun.mk fol J0s Try.func88 rfl (ac := a88) (by kernel_rfl) rfl rfl ?_
  apply vm_start
  unfold a88
  simp only [init_eq, initE]
  have zc1 := mul64_spec x y hx hy
  have zc2 := addW_spec (x * y % 18446744073709551616) a b (by omega) ha hb
  repeat first | (refine hK _ ?_; clear hK K) | simp only [Sv, ↓reduceIte, Nat.reduceEqDiff] | ((first | refine vm_reg (fun K hK => ?_) | refine vm_dreg (fun K hK => ?_) | refine clp_q ?_ | refine clq_mk (by assumption) ?_); simp (disch := (first | omega | assumption)) only [S1, ↓reduceIte, Nat.reduceEqDiff, Nat.reduceAdd, Nat.reduceMul, Nat.reduceDiv, AOp.sb, AOp.mut, ↓Bool.false_eq_true, beq_self_eq_true, ite_self, Nat.reduceLeDiff, Int.reduceEq, Int.reduceSub, Int.reduceAdd, Int.reduceNeg, Int.reduceLT, Int.reduceLE, Nat.reduceLT, wi, tn_nat, Nat.div_one, Nat.mul_one, addU])
  simp (disch := (first | omega | assumption)) only [retOk, retN, ret1, retF, ret1F, V.okArg, and_true, true_and, S1, ↓reduceIte, Nat.reduceEqDiff, Nat.reduceAdd, Nat.reduceMul, Nat.reduceDiv, AOp.sb, AOp.mut, ↓Bool.false_eq_true, beq_self_eq_true, ite_self, Nat.reduceLeDiff, Int.reduceEq, Int.reduceSub, Int.reduceAdd, Int.reduceNeg, Int.reduceLT, Int.reduceLE, Nat.reduceLT, wi, tn_nat, Nat.div_one, Nat.mul_one, i_eq]
  generalize x * y = p at *
  omega

/-- a row less a multiple of another: what is borrowed, what is left -/
def msC (A V w P : Nat) : Nat := (V * w + (P - 1 - A)) / P
theorem ms_uniq {A V w P o c : Nat} (ho : o < P) (hA : A < P) (h : o + V * w = A + P * c) : c = msC A V w P ∧ o = A + P * msC A V w P - V * w := by
  have e : msC A V w P = c := by
    unfold msC
    rw [show V * w + (P - 1 - A) = (P - 1 - o) + P * c from by omega, Nat.add_mul_div_left _ _ (by omega), Nat.div_eq_of_lt (by omega), Nat.zero_add]
  rw [e]; exact ⟨rfl, by omega⟩
theorem ms_le {A V w P o c : Nat} (hV : V < P) (hA : A < P) (ho : o < P) (h : o + V * w = A + P * c) : c ≤ w := by
  rcases Nat.lt_or_ge w c with hc | hc
  · have h1 : P * (w + 1) ≤ P * c := Nat.mul_le_mul_left P hc
    have h2 : V * w ≤ P * w := Nat.mul_le_mul_right w (Nat.le_of_lt hV)
    rw [Nat.mul_succ] at h1
    omega
  · exact hc
/-- one word more -/
theorem ms_step {A V w P o c x y : Nat} (h : o + V * w = A + P * c) (hx : x < B) :
    o + P * ((x + B - (y * w + c) % B) % B) + (V + P * y) * w = (A + P * x) + P * B * ((y * w + c) / B + if x < (y * w + c) % B then 1 else 0) := by
  have h1 := Nat.div_add_mod (y * w + c) B
  have h2 := Nat.mod_lt (y * w + c) (by decide : 0 < B)
  have e : (x + B - (y * w + c) % B) % B + (y * w + c) = x + B * ((y * w + c) / B + if x < (y * w + c) % B then 1 else 0) := by
    generalize (y * w + c) / B = q at *
    generalize (y * w + c) % B = r at *
    unfold B at *
    split <;> omega
  have e2 : (V + P * y) * w = V * w + P * (y * w) := by rw [Nat.add_mul, Nat.mul_assoc]
  have e3 := congrArg (P * ·) e
  simp only [Nat.mul_add] at e3
  rw [e2, Nat.mul_assoc P B, Nat.mul_add B]
  rw [Nat.mul_add] 
  generalize P * ((x + B - (y * w + c) % B) % B) = u1 at *
  generalize P * (y * w) = u2 at *
  generalize P * c = u3 at *
  generalize P * x = u4 at *
  generalize P * (B * ((y * w + c) / B)) = u5 at *
  generalize P * (B * if x < (y * w + c) % B then 1 else 0) = u6 at *
  omega

-- surd/limb.MulSub
def a81 : AC := .seq (.reg [⟨some 6, none, .mv (.k .nl)⟩, 
      ⟨some 7, none, .mv (.k (.i .u64 0))⟩, 
      ⟨some 8, none, .mv (.k (.i .i64 0))⟩])
  (.seq (.seq (.reg [⟨some 16, none, .mv (.t 1)⟩, 
        ⟨some 17, none, .len (.t 16)⟩, 
        ⟨some 18, none, .mv (.t 0)⟩, 
        ⟨some 19, none, .len (.t 18)⟩, 
        ⟨some 20, none, .bin .gtr (.t 17) (.t 19)⟩])
    (.cond (.t 20)
    (.seq (.reg [⟨some 6, none, .mv (.k .nl)⟩, 
          ⟨some 7, none, .mv (.k (.i .u64 0))⟩, 
          ⟨some 8, none, .mv (.k (.i .i64 3))⟩])
      (.ret))
    (.skip)))
  (.seq (.reg [⟨some 21, none, .mv (.t 0)⟩, 
      ⟨some 22, none, .call 69 [(1, (.t 21))]⟩, 
      ⟨some 9, none, .mv (.t 22)⟩])
  (.seq (.reg [⟨some 10, none, .mv (.k (.i .u64 0))⟩])
  (.seq (.seq (.reg [⟨some 23, none, .mv (.t 9)⟩, 
        ⟨some 24, none, .len (.t 23)⟩, 
        ⟨some 25, none, .mv (.k (.i .i64 0))⟩])
    (.blk 0
    (.loop
      (.seq (.reg [⟨some 26, none, .bin .lss (.t 25) (.t 24)⟩])
        (.seq (.cond (.t 26)
          (.skip)
          (.exit 0))
        (.seq (.blk 1
          (.seq (.reg [⟨some 27, none, .mv (.t 25)⟩, 
                ⟨some 11, none, .mv (.t 27)⟩])
            (.seq (.reg [⟨some 29, none, .mv (.t 1)⟩, 
                ⟨some 30, none, .mv (.t 11)⟩, 
                ⟨some 31, none, .call 92 [(1, (.t 29)), (1, (.t 30))]⟩, 
                ⟨some 32, none, .mv (.t 2)⟩, 
                ⟨some 33, none, .mv (.t 10)⟩, 
                ⟨some 34, none, .call 88 [(1, (.t 31)), (1, (.t 32)), (1, (.t 33)), (1, (.k (.i .u64 0)))]⟩, 
                ⟨some 28, none, .mv (.t 34)⟩, 
                ⟨some 35, none, .ext (.t 28) 0⟩, 
                ⟨some 36, none, .ext (.t 28) 1⟩, 
                ⟨some 12, none, .mv (.t 35)⟩, 
                ⟨some 13, none, .mv (.t 36)⟩])
            (.seq (.reg [⟨some 38, none, .mv (.t 9)⟩, 
                ⟨some 39, none, .mv (.t 11)⟩, 
                ⟨some 40, none, .idx 1 (.t 38) (.t 39)⟩, 
                ⟨some 41, none, .ld false 1 (.t 40)⟩, 
                ⟨some 42, none, .mv (.t 13)⟩, 
                ⟨some 43, none, .call 101 [(1, (.t 41)), (1, (.t 42)), (1, (.k (.i .u64 0)))]⟩, 
                ⟨some 37, none, .mv (.t 43)⟩, 
                ⟨some 44, none, .ext (.t 37) 0⟩, 
                ⟨some 45, none, .ext (.t 37) 1⟩, 
                ⟨some 14, none, .mv (.t 44)⟩, 
                ⟨some 15, none, .mv (.t 45)⟩])
            (.reg [⟨some 46, none, .mv (.t 9)⟩, 
              ⟨some 47, none, .mv (.t 11)⟩, 
              ⟨some 48, none, .mv (.t 14)⟩, 
              ⟨some 49, none, .mv (.t 12)⟩, 
              ⟨some 50, none, .mv (.t 15)⟩, 
              ⟨some 51, none, .bin .add (.t 49) (.t 50)⟩, 
              ⟨some 52, none, .idx 1 (.t 46) (.t 47)⟩, 
              ⟨none, none, .st 1 (.t 52) (.t 48)⟩, 
              ⟨some 10, none, .mv (.t 51)⟩])))))
        (.reg [⟨some 53, none, .bin .add (.t 25) (.k (.i .i64 1))⟩, 
          ⟨some 25, none, .mv (.t 53)⟩])))))))
  (.seq (.reg [⟨some 54, none, .mv (.t 9)⟩, 
      ⟨some 55, none, .mv (.t 10)⟩, 
      ⟨some 6, none, .mv (.t 54)⟩, 
      ⟨some 7, none, .mv (.t 55)⟩, 
      ⟨some 8, none, .mv (.k (.i .i64 0))⟩])
  (.ret))))))
theorem mulSub_spec (a b : List Nat) (w : Nat) (ha : Wd a) (hb : Wd b) (hw : w < 18446744073709551616) (la : a.length ≤ 1099511627776) (lb : b.length ≤ a.length) :
    AFun Try.prog J0 81 [.l 1 (W a), .l 1 (W b), .i .u64 (w : Int)]
      (.fr (.t [.l 1 (W (fl B a.length (nv B a + B ^ a.length * msC (nv B a) (nv B b) w (B ^ a.length) - nv B b * w))), .i .u64 ((msC (nv B a) (nv B b) w (B ^ a.length) : Nat) : Int), .i .i64 0])) := by
  refine AFun.mk fol J0s Try.func81 rfl (ac := a81) (by kernel_rfl) rfl rfl ?_
  apply vm_start
  unfold a81
  simp only [init_eq, initE]
  have g0 : ¬ (a.length : Int) < b.length := by omega
  have zc3 := clone_spec a (by omega)
  repeat first | (refine hK _ ?_; clear hK K) | simp only [Sv, ↓reduceIte, Nat.reduceEqDiff] | ((first | refine vm_reg (fun K hK => ?_) | refine vm_dreg (fun K hK => ?_) | refine clp_q ?_ | refine clq_mk (by assumption) ?_); simp (disch := (first | omega | assumption)) only [S1, ↓reduceIte, Nat.reduceEqDiff, Nat.reduceAdd, Nat.reduceMul, Nat.reduceDiv, AOp.sb, AOp.mut, ↓Bool.false_eq_true, beq_self_eq_true, ite_self, Nat.reduceLeDiff, Int.reduceEq, Int.reduceSub, Int.reduceAdd, Int.reduceNeg, Int.reduceLT, Int.reduceLE, Nat.reduceLT, wi, tn_nat, Nat.div_one, Nat.mul_one, W_len, g0, W_nf])
  refine vm_loopA [] (Nat × List Nat × Nat) (fun x => ⟨[(1, .l 1 (W b)), (2, .i .u64 (w : Int)), (9, .ow 1 0 a.length), (10, .i .u64 (x.2.2 : Int)), (24, .i .i64 (a.length : Int)), (25, .i .i64 (x.1 : Int))],
      [(0, some ⟨29, 1, W (x.2.1 ++ a.drop x.1), true, false⟩)], 1⟩)
    (fun x => x.1 ≤ a.length ∧ x.2.1.length = x.1 ∧ Wd x.2.1 ∧ nv B x.2.1 + nv B (b.take x.1) * w = nv B (a.take x.1) + B ^ x.1 * x.2.2) (fun x => a.length - x.1) (0, [], 0)
    ⟨Nat.zero_le _, rfl, Wd_nil, by simp [nv]⟩ (by simp (disch := (first | omega | assumption)) only [Sl, Sa, Sw, ↓reduceIte, Nat.reduceEqDiff, Nat.reduceLT, List.all_nil, List.all_cons, Nat.reduceBneDiff, Nat.reduceAdd, bne_iff_ne, ne_eq, reduceCtorEq, not_false_eq_true, not_true_eq_false, Bool.and_true, Bool.true_and, and_true, true_and, and_self]) (by
    simp (disch := (first | omega | assumption)) only [Sl, Sa, Sw, ↓reduceIte, Nat.reduceEqDiff, Nat.reduceLT, List.all_nil, List.all_cons, Nat.reduceBneDiff, Nat.reduceAdd, bne_iff_ne, ne_eq, reduceCtorEq, not_false_eq_true, not_true_eq_false, Bool.and_true, Bool.true_and, and_true, true_and, and_self, i_eq]
    repeat' first | rfl | omega | (simp only [List.length_append, List.length_cons, List.length_nil]; done) | apply And.intro) ?_
  rintro ⟨i, o, c⟩ ⟨hi, lo, wo, hrel⟩ Q' hQ he hr
  simp only [] at hi lo wo hrel ⊢
  have hol := nv_lt wo
  rw [lo] at hol
  by_cases hlt : (i : Int) < a.length
  · have hlt' : i < a.length := by omega
    have hcw := ms_le (nv_take_lt (b := B) (by decide) hb i) (nv_take_lt (b := B) (by decide) ha i) hol hrel
    have hai := Wd_get ha i
    have hbi := Wd_get hb i
    have hget : (o ++ a.drop i).getD i 0 = a.getD i 0 := by rw [List.getD_eq_getElem?_getD, List.getElem?_append_right (by omega), lo, Nat.sub_self, List.getElem?_drop, List.getD_eq_getElem?_getD]; rfl
    have hll : (o ++ a.drop i).length = a.length := by rw [List.length_append, lo, List.length_drop]; omega
    have hst := ms_step (y := b.getD i 0) hrel hai
    have hmw := mulW_spec (b.getD i 0) w c 0 hbi hw (by omega) (by decide)
    have hlw := mulW_lt hbi hw (show c < 18446744073709551616 by omega) (show 0 < 18446744073709551616 by decide)
    rw [Nat.add_zero] at hmw hlw
    generalize b.getD i 0 * w + c = t at *
    have hsw := subW_spec (a.getD i 0) (t % 18446744073709551616) 0 hai (by omega) (by decide)
    simp only [Nat.add_zero] at hsw
    have hw2 : Wd (o ++ [(a.getD i 0 + 18446744073709551616 - t % 18446744073709551616) % 18446744073709551616]) := Wd_app wo (fun x hx => by rw [List.mem_singleton] at hx; subst hx; unfold B; omega)
    have hrel2 : nv B (o ++ [(a.getD i 0 + 18446744073709551616 - t % 18446744073709551616) % 18446744073709551616]) + nv B (b.take (i + 1)) * w = nv B (a.take (i + 1)) + B ^ (i + 1) * (t / 18446744073709551616 + if a.getD i 0 < t % 18446744073709551616 then 1 else 0) := by
      rw [nv_app, nv_one, lo, nv_take_succ', nv_take_succ', Nat.pow_succ]
      exact hst
    have hl2 : (o ++ [(a.getD i 0 + 18446744073709551616 - t % 18446744073709551616) % 18446744073709551616]).length = i + 1 := by rw [List.length_append, lo, List.length_singleton]
    have hol2 := nv_lt hw2
    rw [hl2] at hol2
    have hcw2 := ms_le (nv_take_lt (b := B) (by decide) hb (i + 1)) (nv_take_lt (b := B) (by decide) ha (i + 1)) hol2 hrel2
    have hset : (o ++ a.drop i).set i ((a.getD i 0 + 18446744073709551616 - t % 18446744073709551616) % 18446744073709551616) = o ++ [(a.getD i 0 + 18446744073709551616 - t % 18446744073709551616) % 18446744073709551616] ++ a.drop (i + 1) := by
      rw [List.drop_eq_getElem_cons hlt', List.set_append_right _ _ (by omega), lo, Nat.sub_self, List.set_cons_zero, List.append_assoc]; rfl
    have zc4 := at_spec b i
    have zc5 := hmw
    have zc6 := hsw
    repeat first | (refine hK _ ?_; clear hK K) | simp only [Sv, ↓reduceIte, Nat.reduceEqDiff] | ((first | refine vm_reg (fun K hK => ?_) | refine vm_dreg (fun K hK => ?_) | refine clp_q ?_ | refine clq_mk (by assumption) ?_); simp (disch := (first | omega | assumption)) only [S1, ↓reduceIte, Nat.reduceEqDiff, Nat.reduceAdd, Nat.reduceMul, Nat.reduceDiv, AOp.sb, AOp.mut, ↓Bool.false_eq_true, beq_self_eq_true, ite_self, Nat.reduceLeDiff, Int.reduceEq, Int.reduceSub, Int.reduceAdd, Int.reduceNeg, Int.reduceLT, Int.reduceLE, Nat.reduceLT, wi, tn_nat, Nat.div_one, Nat.mul_one, hlt, W_len, hll, W_get, hget, addU, W_set, hset])
    refine hQ _ (i + 1, o ++ [(a.getD i 0 + 18446744073709551616 - t % 18446744073709551616) % 18446744073709551616], t / 18446744073709551616 + if a.getD i 0 < t % 18446744073709551616 then 1 else 0) ⟨by simp only; omega, hl2, hw2, hrel2⟩ (by simp only; omega) ?_
    simp (disch := (first | omega | assumption)) only [Sl, Sa, Sw, ↓reduceIte, Nat.reduceEqDiff, Nat.reduceLT, List.all_nil, List.all_cons, Nat.reduceBneDiff, Nat.reduceAdd, bne_iff_ne, ne_eq, reduceCtorEq, not_false_eq_true, not_true_eq_false, Bool.and_true, Bool.true_and, and_true, true_and, and_self, i_eq]
    refine ⟨?_, by omega⟩
    rw [Nat.mod_eq_of_lt (by omega)]
  · obtain rfl : i = a.length := by omega
    repeat first
      | (refine hK _ ?_; clear hK K)
      | ((first | refine vm_reg (fun K hK => ?_) | refine vm_dreg (fun K hK => ?_)); simp (disch := (first | omega | assumption)) only [S1, ↓reduceIte, Nat.reduceEqDiff, Nat.reduceAdd, Nat.reduceMul, Nat.reduceDiv, AOp.sb, AOp.mut, ↓Bool.false_eq_true, beq_self_eq_true, ite_self, Nat.reduceLeDiff, Int.reduceEq, Int.reduceSub, Int.reduceAdd, Int.reduceNeg, Int.reduceLT, Int.reduceLE, Nat.reduceLT, wi, tn_nat, Nat.div_one, Nat.mul_one, hlt]; refine hK _ ?_; clear hK K)
      | simp only [Sv, ↓reduceIte, Nat.reduceEqDiff]
    refine he _ _ ?_
    rw [List.take_of_length_le (by omega), List.take_of_length_le (Nat.le_refl _)] at hrel
    obtain ⟨e1, e2⟩ := ms_uniq hol (nv_lt ha) hrel
    have e3 : fl B a.length (nv B a + B ^ a.length * msC (nv B a) (nv B b) w (B ^ a.length) - nv B b * w) = o := by rw [← e2, ← lo, fl_nv wo]
    rw [e3, ← e1]
    repeat first
      | (refine hK _ ?_; clear hK K)
      | ((first | refine vm_reg (fun K hK => ?_) | refine vm_dreg (fun K hK => ?_)); simp (disch := (first | omega | assumption)) only [S1, ↓reduceIte, Nat.reduceEqDiff, Nat.reduceAdd, Nat.reduceMul, Nat.reduceDiv, AOp.sb, AOp.mut, ↓Bool.false_eq_true, beq_self_eq_true, ite_self, Nat.reduceLeDiff, Int.reduceEq, Int.reduceSub, Int.reduceAdd, Int.reduceNeg, Int.reduceLT, Int.reduceLE, Nat.reduceLT, wi, tn_nat, Nat.div_one, Nat.mul_one]; refine hK _ ?_; clear hK K)
      | simp only [Sv, ↓reduceIte, Nat.reduceEqDiff]
    simp (disch := (first | omega | assumption)) only [retOk, retN, ret1, retF, ret1F, V.okArg, and_true, true_and, S1, ↓reduceIte, Nat.reduceEqDiff, Nat.reduceAdd, Nat.reduceMul, Nat.reduceDiv, AOp.sb, AOp.mut, ↓Bool.false_eq_true, beq_self_eq_true, ite_self, Nat.reduceLeDiff, Int.reduceEq, Int.reduceSub, Int.reduceAdd, Int.reduceNeg, Int.reduceLT, Int.reduceLE, Nat.reduceLT, wi, tn_nat, Nat.div_one, Nat.mul_one, List.drop_length, List.append_nil, W_nf]
end Go.Proofs.Ytngohbpgdeiodaa
