/-
  The texts M1, M2, M3, M4, M5, NM5, M6, M7, NM6.
-/
import Derived.Test.YtjcmhoiabakclaaDoorGD
import Derived.Lib.Mul64
import Derived.WalkKit
import Derived.Lib.Walk
import Derived.Lib.SliceRun
import Derived.Lib.AppendZerosOnto
/- M1 -/
namespace Go.Proofs.YtjcmhoiabakclaaDoor
open Go Go.RowKit Ab
set_option linter.unusedSimpArgs false
set_option linter.unusedVariables false
set_option maxHeartbeats 10000000
theorem bz_M1 : type_of% (And.intro @wi (And.intro @tn_nat (And.intro @Nat.div_one (@Nat.mul_one)))) := And.intro @wi (And.intro @tn_nat (And.intro @Nat.div_one (@Nat.mul_one)))

theorem mulU (a b : Nat) : IntKind.u64.wrap ((a : Int) * (b : Int)) = ((a * b % 18446744073709551616 : Nat) : Int) := by
  rw [IntKind.wrap_u64, ← Int.natCast_mul]; omega
theorem addU (a b : Nat) : IntKind.u64.wrap ((a : Int) + (b : Int)) = (((a + b) % 18446744073709551616 : Nat) : Int) := by
  rw [IntKind.wrap_u64]; omega
theorem and32 (a : Nat) (h : a < 18446744073709551616) : bits .and .u64 (a : Int) 4294967295 = ((a % 4294967296 : Nat) : Int) := by
  rw [show (4294967295 : Int) = ((4294967295 : Nat) : Int) from rfl, band64 a _ h (by decide), show (4294967295 : Nat) = 2 ^ 32 - 1 from rfl, Nat.and_two_pow_sub_one_eq_mod]
theorem shr32 (a : Nat) : (a : Int).fdiv (2 ^ (min (32 : Int).toNat IntKind.u64.bits)) = ((a / 4294967296 : Nat) : Int) := shr64 a 32 (by decide)

theorem mulW_lt {x y a b : Nat} (hx : x < 18446744073709551616) (hy : y < 18446744073709551616) (ha : a < 18446744073709551616) (hb : b < 18446744073709551616) : (x * y + a + b) / 18446744073709551616 < 18446744073709551616 := by
  refine (Nat.div_lt_iff_lt_mul (by decide)).2 ?_
  have := Nat.mul_le_mul (Nat.le_sub_one_of_lt hx) (Nat.le_sub_one_of_lt hy)
  omega
/-- a row less a multiple of another: what is borrowed, what is left -/
def msC (A V w P : Nat) : Nat := (V * w + (P - 1 - A)) / P
theorem ms_uniq {A V w P o c : Nat} (ho : o < P) (hA : A < P) (h : o + V * w = A + P * c) : c = msC A V w P ∧ o = A + P * msC A V w P - V * w := by
  have e : msC A V w P = c := by
    unfold msC
    rw [show V * w + (P - 1 - A) = (P - 1 - o) + P * c from by omega, Nat.add_mul_div_left _ _ (by omega), Nat.div_eq_of_lt (by omega), Nat.zero_add]
  rw [e]; exact ⟨rfl, by omega⟩
theorem ms_le {A V w P o c : Nat} (hV : V < P) (hA : A < P) (ho : o < P) (h : o + V * w = A + P * c) : c ≤ w := by
  rcases Nat.lt_or_ge w c with hc | hc
  · have h1 : P * (w + 1) ≤ P * c := Nat.mul_le_mul_left P hc
    have h2 : V * w ≤ P * w := Nat.mul_le_mul_right w (Nat.le_of_lt hV)
    rw [Nat.mul_succ] at h1
    omega
  · exact hc
/-- one word more -/
theorem ms_step {A V w P o c x y : Nat} (h : o + V * w = A + P * c) (hx : x < B) :
    o + P * ((x + B - (y * w + c) % B) % B) + (V + P * y) * w = (A + P * x) + P * B * ((y * w + c) / B + if x < (y * w + c) % B then 1 else 0) := by
  have h1 := Nat.div_add_mod (y * w + c) B
  have h2 := Nat.mod_lt (y * w + c) (by decide : 0 < B)
  have e : (x + B - (y * w + c) % B) % B + (y * w + c) = x + B * ((y * w + c) / B + if x < (y * w + c) % B then 1 else 0) := by
    generalize (y * w + c) / B = q at *
    generalize (y * w + c) % B = r at *
    unfold B at *
    split <;> omega
  have e2 : (V + P * y) * w = V * w + P * (y * w) := by rw [Nat.add_mul, Nat.mul_assoc]
  have e3 := congrArg (P * ·) e
  simp only [Nat.mul_add] at e3
  rw [e2, Nat.mul_assoc P B, Nat.mul_add B]
  rw [Nat.mul_add] 
  generalize P * ((x + B - (y * w + c) % B) % B) = u1 at *
  generalize P * (y * w) = u2 at *
  generalize P * c = u3 at *
  generalize P * x = u4 at *
  generalize P * (B * ((y * w + c) / B)) = u5 at *
  generalize P * (B * if x < (y * w + c) % B then 1 else 0) = u6 at *
  omega

end Go.Proofs.YtjcmhoiabakclaaDoor

/- M2 -/
namespace Go.Proofs.YtjcmhoiabakclaaDoor
open Go Go.RowKit Ab
set_option linter.unusedSimpArgs false
set_option linter.unusedVariables false
set_option maxHeartbeats 10000000
theorem bz_M2 : type_of% (And.intro @wi (And.intro @tn_nat (And.intro @Nat.div_one (@Nat.mul_one)))) := And.intro @wi (And.intro @tn_nat (And.intro @Nat.div_one (@Nat.mul_one)))

/-- how many bits a byte has -/
def bt : List UInt8 := (List.range 256).map fun i => UInt8.ofNat (bl i)
theorem bt_eq : ([0, 1, 2, 2, 3, 3, 3, 3, 4, 4, 4, 4, 4, 4, 4, 4, 5, 5, 5, 5, 5, 5, 5, 5, 5, 5, 5, 5, 5, 5, 5, 5, 6, 6, 6, 6, 6, 6, 6, 6, 6, 6, 6, 6, 6, 6, 6, 6, 6, 6, 6, 6, 6, 6, 6, 6, 6, 6, 6, 6, 6, 6, 6, 6, 7, 7, 7, 7, 7, 7, 7, 7, 7, 7, 7, 7, 7, 7, 7, 7, 7, 7, 7, 7, 7, 7, 7, 7, 7, 7, 7, 7, 7, 7, 7, 7, 7, 7, 7, 7, 7, 7, 7, 7, 7, 7, 7, 7, 7, 7, 7, 7, 7, 7, 7, 7, 7, 7, 7, 7, 7, 7, 7, 7, 7, 7, 7, 7, 8, 8, 8, 8, 8, 8, 8, 8, 8, 8, 8, 8, 8, 8, 8, 8, 8, 8, 8, 8, 8, 8, 8, 8, 8, 8, 8, 8, 8, 8, 8, 8, 8, 8, 8, 8, 8, 8, 8, 8, 8, 8, 8, 8, 8, 8, 8, 8, 8, 8, 8, 8, 8, 8, 8, 8, 8, 8, 8, 8, 8, 8, 8, 8, 8, 8, 8, 8, 8, 8, 8, 8, 8, 8, 8, 8, 8, 8, 8, 8, 8, 8, 8, 8, 8, 8, 8, 8, 8, 8, 8, 8, 8, 8, 8, 8, 8, 8, 8, 8, 8, 8, 8, 8, 8, 8, 8, 8, 8, 8, 8, 8, 8, 8, 8, 8, 8, 8, 8, 8, 8, 8, 8, 8, 8, 8, 8, 8] : List UInt8) = bt := by decide +kernel
theorem bt_len : bt.length = 256 := by decide +kernel
theorem bt_all : ∀ i, i < 256 → (bt.getD i 0).toNat = bl i := by decide +kernel
theorem bt_get (x : Nat) (h : x < 256) : (((bt.getD x 0).toNat : Nat) : Int) = ((bl x : Nat) : Int) := by rw [bt_all x h]
theorem shr16 (a : Nat) : (a : Int).fdiv (2 ^ (min (16 : Int).toNat IntKind.u64.bits)) = ((a / 65536 : Nat) : Int) := shr64 a 16 (by decide)
theorem shr8 (a : Nat) : (a : Int).fdiv (2 ^ (min (8 : Int).toNat IntKind.u64.bits)) = ((a / 256 : Nat) : Int) := shr64 a 8 (by decide)
theorem w8 (a : Nat) (h : a < 256) : IntKind.u8.wrap (a : Int) = (a : Int) := by rw [IntKind.wrap_u8]; omega
theorem bl32 {x : Nat} (h : 4294967296 ≤ x) : bl x = 32 + bl (x / 4294967296) := bl_div (n := 32) h
theorem bl16 {x : Nat} (h : 65536 ≤ x) : bl x = 16 + bl (x / 65536) := bl_div (n := 16) h
theorem bl8 {x : Nat} (h : 256 ≤ x) : bl x = 8 + bl (x / 256) := bl_div (n := 8) h

-- math/bits.Len64
def a43 : AC := .seq (.reg [⟨some 2, none, .mv (.k (.i .i64 0))⟩])
  (.seq (.seq (.reg [⟨some 3, none, .mv (.t 0)⟩, 
        ⟨some 4, none, .bin .geq (.t 3) (.k (.i .u64 4294967296))⟩])
    (.cond (.t 4)
    (.seq (.reg [⟨some 5, none, .mv (.t 0)⟩, 
          ⟨some 6, none, .bin .shr (.t 5) (.k (.i .u64 32))⟩, 
          ⟨some 0, none, .mv (.t 6)⟩])
      (.reg [⟨some 2, none, .mv (.k (.i .i64 32))⟩]))
    (.skip)))
  (.seq (.seq (.reg [⟨some 7, none, .mv (.t 0)⟩, 
        ⟨some 8, none, .bin .geq (.t 7) (.k (.i .u64 65536))⟩])
    (.cond (.t 8)
    (.seq (.reg [⟨some 9, none, .mv (.t 0)⟩, 
          ⟨some 10, none, .bin .shr (.t 9) (.k (.i .u64 16))⟩, 
          ⟨some 0, none, .mv (.t 10)⟩])
      (.reg [⟨some 11, none, .mv (.t 2)⟩, 
        ⟨some 12, none, .bin .add (.t 11) (.k (.i .i64 16))⟩, 
        ⟨some 2, none, .mv (.t 12)⟩]))
    (.skip)))
  (.seq (.seq (.reg [⟨some 13, none, .mv (.t 0)⟩, 
        ⟨some 14, none, .bin .geq (.t 13) (.k (.i .u64 256))⟩])
    (.cond (.t 14)
    (.seq (.reg [⟨some 15, none, .mv (.t 0)⟩, 
          ⟨some 16, none, .bin .shr (.t 15) (.k (.i .u64 8))⟩, 
          ⟨some 0, none, .mv (.t 16)⟩])
      (.reg [⟨some 17, none, .mv (.t 2)⟩, 
        ⟨some 18, none, .bin .add (.t 17) (.k (.i .i64 8))⟩, 
        ⟨some 2, none, .mv (.t 18)⟩]))
    (.skip)))
  (.seq (.reg [⟨some 19, none, .mv (.t 2)⟩, 
      ⟨some 20, none, .mv (.t 0)⟩, 
      ⟨some 21, none, .cvt .u8 (.t 20)⟩, 
      ⟨some 22, none, .six (.k (.s [0, 1, 2, 2, 3, 3, 3, 3, 4, 4, 4, 4, 4, 4, 4, 4, 5, 5, 5, 5, 5, 5, 5, 5, 5, 5, 5, 5, 5, 5, 5, 5, 6, 6, 6, 6, 6, 6, 6, 6, 6, 6, 6, 6, 6, 6, 6, 6, 6, 6, 6, 6, 6, 6, 6, 6, 6, 6, 6, 6, 6, 6, 6, 6, 7, 7, 7, 7, 7, 7, 7, 7, 7, 7, 7, 7, 7, 7, 7, 7, 7, 7, 7, 7, 7, 7, 7, 7, 7, 7, 7, 7, 7, 7, 7, 7, 7, 7, 7, 7, 7, 7, 7, 7, 7, 7, 7, 7, 7, 7, 7, 7, 7, 7, 7, 7, 7, 7, 7, 7, 7, 7, 7, 7, 7, 7, 7, 7, 8, 8, 8, 8, 8, 8, 8, 8, 8, 8, 8, 8, 8, 8, 8, 8, 8, 8, 8, 8, 8, 8, 8, 8, 8, 8, 8, 8, 8, 8, 8, 8, 8, 8, 8, 8, 8, 8, 8, 8, 8, 8, 8, 8, 8, 8, 8, 8, 8, 8, 8, 8, 8, 8, 8, 8, 8, 8, 8, 8, 8, 8, 8, 8, 8, 8, 8, 8, 8, 8, 8, 8, 8, 8, 8, 8, 8, 8, 8, 8, 8, 8, 8, 8, 8, 8, 8, 8, 8, 8, 8, 8, 8, 8, 8, 8, 8, 8, 8, 8, 8, 8, 8, 8, 8, 8, 8, 8, 8, 8, 8, 8, 8, 8, 8, 8, 8, 8, 8, 8, 8, 8, 8, 8, 8, 8, 8, 8])) (.t 21)⟩, 
      ⟨some 23, none, .cvt .i64 (.t 22)⟩, 
      ⟨some 24, none, .bin .add (.t 19) (.t 23)⟩, 
      ⟨some 2, none, .mv (.t 24)⟩])
  (.ret)))))
set_option maxRecDepth 10000 in
theorem len64_spec (x : Nat) (hx : x < 18446744073709551616) : AFun Tryd.prog J0 43 [.i .u64 (x : Int)] (.i .i64 ((bl x : Nat) : Int)) := by
  refine AFun.mk fol J0s Tryd.func43 rfl (ac := a43) (by kernel_rfl) rfl rfl ?_
  apply vm_start
  unfold a43
  simp only [init_eq, initE]
  by_cases h32 : (4294967296 : Int) ≤ (x : Int)
  · have e32 := bl32 (x := x) (by omega)
    by_cases h16 : (65536 : Int) ≤ ((x / 4294967296 : Nat) : Int)
    · have e16 := bl16 (x := x / 4294967296) (by omega)
      by_cases h8 : (256 : Int) ≤ ((x / 4294967296 / 65536 : Nat) : Int)
      · have e8 := bl8 (x := x / 4294967296 / 65536) (by omega)
        have hb := bl_64 (x := x / 4294967296 / 65536) (by omega)
        repeat first | (refine hK _ ?_; clear hK K) | simp only [Sv, ↓reduceIte, Nat.reduceEqDiff] | ((first | refine vm_reg (fun K hK => ?_) | refine vm_dreg (fun K hK => ?_) | refine vm_dregx (fun K hK => ?_)); simp (disch := (first | omega | assumption)) only [S1, ↓reduceIte, Nat.reduceEqDiff, Nat.reduceAdd, Nat.reduceMul, Nat.reduceDiv, AOp.sb, AOp.mut, ↓Bool.false_eq_true, beq_self_eq_true, ite_self, Nat.reduceLeDiff, Int.reduceEq, Int.reduceSub, Int.reduceAdd, Int.reduceNeg, Int.reduceLT, Int.reduceLE, Nat.reduceLT, bz_M2, h32, h16, h8, shr32, shr16, shr8, w8, ↓bt_eq, bt_len, bt_get])
        simp (disch := (first | omega | assumption)) only [retOk, retN, ret1, retF, ret1F, V.okArg, and_true, true_and, S1, ↓reduceIte, Nat.reduceEqDiff, Nat.reduceAdd, Nat.reduceMul, Nat.reduceDiv, AOp.sb, AOp.mut, ↓Bool.false_eq_true, beq_self_eq_true, ite_self, Nat.reduceLeDiff, Int.reduceEq, Int.reduceSub, Int.reduceAdd, Int.reduceNeg, Int.reduceLT, Int.reduceLE, Nat.reduceLT, bz_M2, h32, h16, h8, shr32, shr16, shr8, w8, ↓bt_eq, bt_len, bt_get]
        try (congr 1; omega)
      · have hb := bl_64 (x := x / 4294967296 / 65536) (by omega)
        repeat first | (refine hK _ ?_; clear hK K) | simp only [Sv, ↓reduceIte, Nat.reduceEqDiff] | ((first | refine vm_reg (fun K hK => ?_) | refine vm_dreg (fun K hK => ?_) | refine vm_dregx (fun K hK => ?_)); simp (disch := (first | omega | assumption)) only [S1, ↓reduceIte, Nat.reduceEqDiff, Nat.reduceAdd, Nat.reduceMul, Nat.reduceDiv, AOp.sb, AOp.mut, ↓Bool.false_eq_true, beq_self_eq_true, ite_self, Nat.reduceLeDiff, Int.reduceEq, Int.reduceSub, Int.reduceAdd, Int.reduceNeg, Int.reduceLT, Int.reduceLE, Nat.reduceLT, bz_M2, h32, h16, h8, shr32, shr16, shr8, w8, ↓bt_eq, bt_len, bt_get])
        simp (disch := (first | omega | assumption)) only [retOk, retN, ret1, retF, ret1F, V.okArg, and_true, true_and, S1, ↓reduceIte, Nat.reduceEqDiff, Nat.reduceAdd, Nat.reduceMul, Nat.reduceDiv, AOp.sb, AOp.mut, ↓Bool.false_eq_true, beq_self_eq_true, ite_self, Nat.reduceLeDiff, Int.reduceEq, Int.reduceSub, Int.reduceAdd, Int.reduceNeg, Int.reduceLT, Int.reduceLE, Nat.reduceLT, bz_M2, h32, h16, h8, shr32, shr16, shr8, w8, ↓bt_eq, bt_len, bt_get]
        try (congr 1; omega)
    · by_cases h8 : (256 : Int) ≤ ((x / 4294967296 : Nat) : Int)
      · have e8 := bl8 (x := x / 4294967296) (by omega)
        have hb := bl_64 (x := x / 4294967296) (by omega)
        repeat first | (refine hK _ ?_; clear hK K) | simp only [Sv, ↓reduceIte, Nat.reduceEqDiff] | ((first | refine vm_reg (fun K hK => ?_) | refine vm_dreg (fun K hK => ?_) | refine vm_dregx (fun K hK => ?_)); simp (disch := (first | omega | assumption)) only [S1, ↓reduceIte, Nat.reduceEqDiff, Nat.reduceAdd, Nat.reduceMul, Nat.reduceDiv, AOp.sb, AOp.mut, ↓Bool.false_eq_true, beq_self_eq_true, ite_self, Nat.reduceLeDiff, Int.reduceEq, Int.reduceSub, Int.reduceAdd, Int.reduceNeg, Int.reduceLT, Int.reduceLE, Nat.reduceLT, bz_M2, h32, h16, h8, shr32, shr16, shr8, w8, ↓bt_eq, bt_len, bt_get])
        simp (disch := (first | omega | assumption)) only [retOk, retN, ret1, retF, ret1F, V.okArg, and_true, true_and, S1, ↓reduceIte, Nat.reduceEqDiff, Nat.reduceAdd, Nat.reduceMul, Nat.reduceDiv, AOp.sb, AOp.mut, ↓Bool.false_eq_true, beq_self_eq_true, ite_self, Nat.reduceLeDiff, Int.reduceEq, Int.reduceSub, Int.reduceAdd, Int.reduceNeg, Int.reduceLT, Int.reduceLE, Nat.reduceLT, bz_M2, h32, h16, h8, shr32, shr16, shr8, w8, ↓bt_eq, bt_len, bt_get]
        try (congr 1; omega)
      · have hb := bl_64 (x := x / 4294967296) (by omega)
        repeat first | (refine hK _ ?_; clear hK K) | simp only [Sv, ↓reduceIte, Nat.reduceEqDiff] | ((first | refine vm_reg (fun K hK => ?_) | refine vm_dreg (fun K hK => ?_) | refine vm_dregx (fun K hK => ?_)); simp (disch := (first | omega | assumption)) only [S1, ↓reduceIte, Nat.reduceEqDiff, Nat.reduceAdd, Nat.reduceMul, Nat.reduceDiv, AOp.sb, AOp.mut, ↓Bool.false_eq_true, beq_self_eq_true, ite_self, Nat.reduceLeDiff, Int.reduceEq, Int.reduceSub, Int.reduceAdd, Int.reduceNeg, Int.reduceLT, Int.reduceLE, Nat.reduceLT, bz_M2, h32, h16, h8, shr32, shr16, shr8, w8, ↓bt_eq, bt_len, bt_get])
        simp (disch := (first | omega | assumption)) only [retOk, retN, ret1, retF, ret1F, V.okArg, and_true, true_and, S1, ↓reduceIte, Nat.reduceEqDiff, Nat.reduceAdd, Nat.reduceMul, Nat.reduceDiv, AOp.sb, AOp.mut, ↓Bool.false_eq_true, beq_self_eq_true, ite_self, Nat.reduceLeDiff, Int.reduceEq, Int.reduceSub, Int.reduceAdd, Int.reduceNeg, Int.reduceLT, Int.reduceLE, Nat.reduceLT, bz_M2, h32, h16, h8, shr32, shr16, shr8, w8, ↓bt_eq, bt_len, bt_get]
        try (congr 1; omega)
  · by_cases h16 : (65536 : Int) ≤ (x : Int)
    · have e16 := bl16 (x := x) (by omega)
      by_cases h8 : (256 : Int) ≤ ((x / 65536 : Nat) : Int)
      · have e8 := bl8 (x := x / 65536) (by omega)
        have hb := bl_64 (x := x / 65536) (by omega)
        repeat first | (refine hK _ ?_; clear hK K) | simp only [Sv, ↓reduceIte, Nat.reduceEqDiff] | ((first | refine vm_reg (fun K hK => ?_) | refine vm_dreg (fun K hK => ?_) | refine vm_dregx (fun K hK => ?_)); simp (disch := (first | omega | assumption)) only [S1, ↓reduceIte, Nat.reduceEqDiff, Nat.reduceAdd, Nat.reduceMul, Nat.reduceDiv, AOp.sb, AOp.mut, ↓Bool.false_eq_true, beq_self_eq_true, ite_self, Nat.reduceLeDiff, Int.reduceEq, Int.reduceSub, Int.reduceAdd, Int.reduceNeg, Int.reduceLT, Int.reduceLE, Nat.reduceLT, bz_M2, h32, h16, h8, shr32, shr16, shr8, w8, ↓bt_eq, bt_len, bt_get])
        simp (disch := (first | omega | assumption)) only [retOk, retN, ret1, retF, ret1F, V.okArg, and_true, true_and, S1, ↓reduceIte, Nat.reduceEqDiff, Nat.reduceAdd, Nat.reduceMul, Nat.reduceDiv, AOp.sb, AOp.mut, ↓Bool.false_eq_true, beq_self_eq_true, ite_self, Nat.reduceLeDiff, Int.reduceEq, Int.reduceSub, Int.reduceAdd, Int.reduceNeg, Int.reduceLT, Int.reduceLE, Nat.reduceLT, bz_M2, h32, h16, h8, shr32, shr16, shr8, w8, ↓bt_eq, bt_len, bt_get]
        try (congr 1; omega)
      · have hb := bl_64 (x := x / 65536) (by omega)
        repeat first | (refine hK _ ?_; clear hK K) | simp only [Sv, ↓reduceIte, Nat.reduceEqDiff] | ((first | refine vm_reg (fun K hK => ?_) | refine vm_dreg (fun K hK => ?_) | refine vm_dregx (fun K hK => ?_)); simp (disch := (first | omega | assumption)) only [S1, ↓reduceIte, Nat.reduceEqDiff, Nat.reduceAdd, Nat.reduceMul, Nat.reduceDiv, AOp.sb, AOp.mut, ↓Bool.false_eq_true, beq_self_eq_true, ite_self, Nat.reduceLeDiff, Int.reduceEq, Int.reduceSub, Int.reduceAdd, Int.reduceNeg, Int.reduceLT, Int.reduceLE, Nat.reduceLT, bz_M2, h32, h16, h8, shr32, shr16, shr8, w8, ↓bt_eq, bt_len, bt_get])
        simp (disch := (first | omega | assumption)) only [retOk, retN, ret1, retF, ret1F, V.okArg, and_true, true_and, S1, ↓reduceIte, Nat.reduceEqDiff, Nat.reduceAdd, Nat.reduceMul, Nat.reduceDiv, AOp.sb, AOp.mut, ↓Bool.false_eq_true, beq_self_eq_true, ite_self, Nat.reduceLeDiff, Int.reduceEq, Int.reduceSub, Int.reduceAdd, Int.reduceNeg, Int.reduceLT, Int.reduceLE, Nat.reduceLT, bz_M2, h32, h16, h8, shr32, shr16, shr8, w8, ↓bt_eq, bt_len, bt_get]
        try (congr 1; omega)
    · by_cases h8 : (256 : Int) ≤ ((x : Nat) : Int)
      · have e8 := bl8 (x := x) (by omega)
        have hb := bl_64 (x := x) (by omega)
        repeat first | (refine hK _ ?_; clear hK K) | simp only [Sv, ↓reduceIte, Nat.reduceEqDiff] | ((first | refine vm_reg (fun K hK => ?_) | refine vm_dreg (fun K hK => ?_) | refine vm_dregx (fun K hK => ?_)); simp (disch := (first | omega | assumption)) only [S1, ↓reduceIte, Nat.reduceEqDiff, Nat.reduceAdd, Nat.reduceMul, Nat.reduceDiv, AOp.sb, AOp.mut, ↓Bool.false_eq_true, beq_self_eq_true, ite_self, Nat.reduceLeDiff, Int.reduceEq, Int.reduceSub, Int.reduceAdd, Int.reduceNeg, Int.reduceLT, Int.reduceLE, Nat.reduceLT, bz_M2, h32, h16, h8, shr32, shr16, shr8, w8, ↓bt_eq, bt_len, bt_get])
        simp (disch := (first | omega | assumption)) only [retOk, retN, ret1, retF, ret1F, V.okArg, and_true, true_and, S1, ↓reduceIte, Nat.reduceEqDiff, Nat.reduceAdd, Nat.reduceMul, Nat.reduceDiv, AOp.sb, AOp.mut, ↓Bool.false_eq_true, beq_self_eq_true, ite_self, Nat.reduceLeDiff, Int.reduceEq, Int.reduceSub, Int.reduceAdd, Int.reduceNeg, Int.reduceLT, Int.reduceLE, Nat.reduceLT, bz_M2, h32, h16, h8, shr32, shr16, shr8, w8, ↓bt_eq, bt_len, bt_get]
        try (congr 1; omega)
      · have hb := bl_64 (x := x) (by omega)
        repeat first | (refine hK _ ?_; clear hK K) | simp only [Sv, ↓reduceIte, Nat.reduceEqDiff] | ((first | refine vm_reg (fun K hK => ?_) | refine vm_dreg (fun K hK => ?_) | refine vm_dregx (fun K hK => ?_)); simp (disch := (first | omega | assumption)) only [S1, ↓reduceIte, Nat.reduceEqDiff, Nat.reduceAdd, Nat.reduceMul, Nat.reduceDiv, AOp.sb, AOp.mut, ↓Bool.false_eq_true, beq_self_eq_true, ite_self, Nat.reduceLeDiff, Int.reduceEq, Int.reduceSub, Int.reduceAdd, Int.reduceNeg, Int.reduceLT, Int.reduceLE, Nat.reduceLT, bz_M2, h32, h16, h8, shr32, shr16, shr8, w8, ↓bt_eq, bt_len, bt_get])
        simp (disch := (first | omega | assumption)) only [retOk, retN, ret1, retF, ret1F, V.okArg, and_true, true_and, S1, ↓reduceIte, Nat.reduceEqDiff, Nat.reduceAdd, Nat.reduceMul, Nat.reduceDiv, AOp.sb, AOp.mut, ↓Bool.false_eq_true, beq_self_eq_true, ite_self, Nat.reduceLeDiff, Int.reduceEq, Int.reduceSub, Int.reduceAdd, Int.reduceNeg, Int.reduceLT, Int.reduceLE, Nat.reduceLT, bz_M2, h32, h16, h8, shr32, shr16, shr8, w8, ↓bt_eq, bt_len, bt_get]
        try (congr 1; omega)

end Go.Proofs.YtjcmhoiabakclaaDoor

/- M3 -/
namespace Go.Proofs.YtjcmhoiabakclaaDoor
open Go Go.RowKit Ab
set_option linter.unusedSimpArgs false
set_option linter.unusedVariables false
set_option maxHeartbeats 10000000
theorem bz_M3 : type_of% (And.intro @wi (And.intro @tn_nat (And.intro @Nat.div_one (@Nat.mul_one)))) := And.intro @wi (And.intro @tn_nat (And.intro @Nat.div_one (@Nat.mul_one)))

theorem mulK (a : Nat) : IntKind.u64.wrap (4294967296 * (a : Int)) = ((4294967296 * a % 18446744073709551616 : Nat) : Int) := mulU 4294967296 a
theorem mulK' (a : Nat) : IntKind.u64.wrap ((a : Int) * 4294967296) = ((a * 4294967296 % 18446744073709551616 : Nat) : Int) := mulU a 4294967296
theorem tdivU (a b : Nat) (h : a < 18446744073709551616) : IntKind.u64.wrap ((a : Int).tdiv (b : Int)) = ((a / b : Nat) : Int) := by
  have e : (a : Int).tdiv (b : Int) = ((a / b : Nat) : Int) := rfl
  have := Nat.div_le_self a b
  rw [e, IntKind.wrap_u64]
  generalize a / b = c at *
  omega
theorem tmodU (a b : Nat) : (a : Int).tmod (b : Int) = ((a % b : Nat) : Int) := rfl
theorem subU1 (a : Nat) (h1 : 1 ≤ a) (h2 : a < 18446744073709551616) : IntKind.u64.wrap ((a : Int) - 1) = ((a - 1 : Nat) : Int) := by rw [IntKind.wrap_u64]; omega
theorem sub64 (a : Nat) (h : a ≤ 64) : IntKind.u64.wrap (64 - (a : Int)) = ((64 - a : Nat) : Int) := by rw [IntKind.wrap_u64]; omega
theorem cvtU (a : Nat) (h : a ≤ 64) : IntKind.u64.wrap (a : Int) = (a : Int) := by rw [IntKind.wrap_u64]; omega
/-- a difference that does not turn over, though its parts may -/
theorem subM (a b c : Nat) (h : a = b + c) (hc : c < 18446744073709551616) : IntKind.u64.wrap (((a % 18446744073709551616 : Nat) : Int) - ((b % 18446744073709551616 : Nat) : Int)) = (c : Int) := by
  rw [IntKind.wrap_u64]; omega

theorem two_word (u a b : Nat) : (u * 4294967296 + a) * 4294967296 + b = u * 18446744073709551616 + (a * 4294967296 + b) := by omega
theorem p32 : 2 ^ (32 : Int).toNat = 4294967296 := rfl
theorem remU (a b : Nat) (h : a < 18446744073709551616) : IntKind.u64.wrap ((a : Int) - ((a / b * b % 18446744073709551616 : Nat) : Int)) = ((a % b : Nat) : Int) := by
  have e := Nat.div_add_mod a b
  rw [Nat.mul_comm] at e
  have h2 : a / b * b < 18446744073709551616 := by omega
  rw [Nat.mod_eq_of_lt h2, IntKind.wrap_u64]
  generalize a / b * b = c at *
  omega
theorem remM' {u u1 c m N : Nat} (hN : u * 4294967296 + u1 = N) (e : c + m = N) (hm : m < 18446744073709551616) :
    IntKind.u64.wrap ((((u * 4294967296 % 18446744073709551616 + u1) % 18446744073709551616 : Nat) : Int) - ((c % 18446744073709551616 : Nat) : Int)) = (m : Int) := by
  rw [IntKind.wrap_u64]
  omega
theorem remM {u u1 q Y : Nat} (hY : Y < 18446744073709551616) (hY0 : 0 < Y) (hq : q = (u * 4294967296 + u1) / Y) :
    IntKind.u64.wrap ((((u * 4294967296 % 18446744073709551616 + u1) % 18446744073709551616 : Nat) : Int) - ((q * Y % 18446744073709551616 : Nat) : Int)) = (((u * 4294967296 + u1) % Y : Nat) : Int) := by
  have e := Nat.div_add_mod (u * 4294967296 + u1) Y
  have hm := Nat.mod_lt (u * 4294967296 + u1) hY0
  rw [← hq, Nat.mul_comm] at e
  exact remM' rfl e (Nat.lt_trans hm hY)
theorem dig_stop' {Y yn1 yn0 u32 u1 q r : Nat} (hY : yn1 * 4294967296 + yn0 = Y) (h : q * yn1 + r = u32) (h2 : q * yn0 ≤ 4294967296 * r + u1) : q * Y ≤ u32 * 4294967296 + u1 := hY ▸ dig_stop h h2
theorem dig_over' {Y yn1 yn0 u32 u1 q r : Nat} (hY : yn1 * 4294967296 + yn0 = Y) (h : q * yn1 + r = u32) (h2 : 4294967296 * r + u1 < q * yn0) : u32 * 4294967296 + u1 < q * Y := hY ▸ dig_over h h2
theorem dig_init' {Y yn1 yn0 u32 u1 : Nat} (hY : yn1 * 4294967296 + yn0 = Y) (h31 : 2147483648 ≤ yn1) (h0 : yn0 < 4294967296) (hu : u32 < Y) (h1 : u1 < 4294967296) :
    u32 / yn1 * yn1 + u32 % yn1 = u32 ∧ u32 * 4294967296 + u1 < (u32 / yn1 + 1) * Y ∧ u32 / yn1 ≤ 4294967297 := by
  subst hY; exact dig_init h31 h0 hu h1
theorem sub_mul1 {q yn1 r u : Nat} (h : q * yn1 + r = u) (h0 : 1 ≤ q) : (q - 1) * yn1 + (r + yn1) = u := by
  obtain ⟨p, rfl⟩ : ∃ p, q = p + 1 := ⟨q - 1, by omega⟩
  rw [Nat.add_sub_cancel, ← h, Nat.add_mul, Nat.one_mul]; omega

end Go.Proofs.YtjcmhoiabakclaaDoor

/- M4 -/
namespace Go.Proofs.YtjcmhoiabakclaaDoor
open Go Go.RowKit Ab
set_option linter.unusedSimpArgs false
set_option linter.unusedVariables false
set_option maxHeartbeats 10000000
theorem bz_M4 : type_of% (And.intro @wi (And.intro @tn_nat (And.intro @Nat.div_one (And.intro @Nat.mul_one (@W_len))))) := And.intro @wi (And.intro @tn_nat (And.intro @Nat.div_one (And.intro @Nat.mul_one (@W_len))))

theorem divOne_step {V x w : Nat} (hw : 0 < w) (hx : x < B) :
    (x + B * V) / w % B = (V % w * B + x) / w ∧ (x + B * V) / w / B = V / w ∧ (x + B * V) % w = (V % w * B + x) % w ∧ (V % w * B + x) / w < B := by
  have e := Nat.div_add_mod V w
  have hm := Nat.mod_lt V hw
  generalize V / w = q at *
  generalize V % w = r at *
  have h : x + B * V = (r * B + x) + w * (q * B) := by rw [← e, Nat.mul_add, ← Nat.mul_assoc, Nat.mul_comm B w, Nat.mul_assoc, Nat.mul_comm B q, Nat.mul_comm B r]; omega
  have hlt : (r * B + x) / w < B := by
    refine (Nat.div_lt_iff_lt_mul hw).2 ?_
    have := Nat.mul_le_mul_right B (show r + 1 ≤ w from hm)
    rw [Nat.add_mul, Nat.one_mul] at this
    rw [Nat.mul_comm B w]; omega
  rw [h, Nat.add_mul_div_left _ _ hw, Nat.add_mul_mod_self_left, Nat.add_mul_mod_self_right, Nat.mod_eq_of_lt hlt, Nat.add_mul_div_right _ _ (by decide : 0 < B), Nat.div_eq_of_lt hlt]
  exact ⟨rfl, by omega, rfl, hlt⟩

end Go.Proofs.YtjcmhoiabakclaaDoor

/- M5 -/
namespace Go.Proofs.YtjcmhoiabakclaaDoor
open Go Go.RowKit Ab
set_option linter.unusedSimpArgs false
set_option linter.unusedVariables false
set_option maxHeartbeats 10000000
theorem bz_M5 : type_of% (And.intro @wi (And.intro @tn_nat (And.intro @Nat.div_one (@Nat.mul_one)))) := And.intro @wi (And.intro @tn_nat (And.intro @Nat.div_one (@Nat.mul_one)))

theorem kstop {b v1 v0 u w q r : Nat} (h : q * v1 + r = u) (h2 : q * v0 ≤ r * b + w) : q * (v1 * b + v0) ≤ u * b + w := by
  rw [← h, Nat.mul_add, Nat.add_mul, Nat.mul_assoc]; omega
theorem kover {b v1 v0 u w q r : Nat} (h : q * v1 + r = u) (h2 : r * b + w < q * v0) : u * b + w < q * (v1 * b + v0) := by
  rw [← h, Nat.mul_add, Nat.add_mul, Nat.mul_assoc]; omega
theorem kmin {Y N q q0 : Nat} (hY : 0 < Y) (h1 : q * Y ≤ N) (h2 : q ≤ q0) (h3 : q = q0 ∨ N < (q + 1) * Y) : q = min q0 (N / Y) := by
  have h4 := (Nat.le_div_iff_mul_le hY).2 h1
  rcases h3 with h | h
  · omega
  · have := (Nat.div_lt_iff_lt_mul hY).2 h
    omega
theorem big_le {q v0 r w : Nat} (hq : q ≤ 18446744073709551616) (hv : v0 ≤ 18446744073709551616) (hr : 18446744073709551616 ≤ r) : q * v0 ≤ r * 18446744073709551616 + w := by
  have h1 := Nat.mul_le_mul hq hv
  omega
theorem two_cmp {hi lo p r w : Nat} (e : 18446744073709551616 * hi + lo = p) (h : hi < r ∨ hi = r ∧ lo ≤ w) (hl : lo < 18446744073709551616) : p ≤ r * 18446744073709551616 + w := by omega
theorem two_cmp' {hi lo p r w : Nat} (e : 18446744073709551616 * hi + lo = p) (h : ¬ (hi < r ∨ hi = r ∧ lo ≤ w)) (hw : w < 18446744073709551616) : r * 18446744073709551616 + w < p := by omega

theorem gmin {Y N q : Nat} (hY : 0 < Y) (hq : q ≤ 18446744073709551615) (h : N < (q + 1) * Y) : min q (N / Y) = min 18446744073709551615 (N / Y) := by
  have := (Nat.div_lt_iff_lt_mul hY).2 h
  omega
end Go.Proofs.YtjcmhoiabakclaaDoor

/- NM5 -/
namespace Go.Proofs.YtjcmhoiabakclaaDoor
open Go Go.RowKit Ab
set_option linter.unusedSimpArgs false
set_option linter.unusedVariables false
set_option maxHeartbeats 10000000

theorem kn_guess {U V P : Nat} (hP : 0 < P) (hU : U < V * B) (hV : B ≤ V / P) : U / V ≤ min (B - 1) (U / P / (V / P)) ∧ min (B - 1) (U / P / (V / P)) ≤ U / V + 1 := by
  have hB : 0 < B := by decide
  have hV2 : 0 < V / P := Nat.lt_of_lt_of_le hB hV
  have hV0 : 0 < V := Nat.lt_of_lt_of_le hV2 (Nat.div_le_self _ _)
  have h1 : V / P * P ≤ V := Nat.div_mul_le_self V P
  have hd : U / V < B := (Nat.div_lt_iff_lt_mul hV0).2 (by rw [Nat.mul_comm]; exact hU)
  refine ⟨?_, ?_⟩
  · refine Nat.le_min.2 ⟨by omega, ?_⟩
    rw [Nat.le_div_iff_mul_le hV2, Nat.le_div_iff_mul_le hP, Nat.mul_assoc]
    exact Nat.le_trans (Nat.mul_le_mul_left _ h1) (Nat.div_mul_le_self U V)
  · rcases Nat.lt_or_ge (U / V + 1) (min (B - 1) (U / P / (V / P))) with h | h
    · exfalso
      obtain ⟨g, hg⟩ : ∃ g, g = min (B - 1) (U / P / (V / P)) := ⟨_, rfl⟩
      rw [← hg] at h
      have hg1 : g ≤ B - 1 := by rw [hg]; exact Nat.min_le_left _ _
      have hg2 : g ≤ U / P / (V / P) := by rw [hg]; exact Nat.min_le_right _ _
      rw [Nat.le_div_iff_mul_le hV2, Nat.le_div_iff_mul_le hP] at hg2
      have h2 : U < (U / V + 1) * V := by rw [Nat.add_mul, Nat.one_mul, Nat.mul_comm (U / V)]; exact Nat.lt_mul_div_succ U hV0 |> fun h => by rwa [Nat.mul_succ] at h
      have h3 : (U / V + 1) * V ≤ (g - 1) * V := Nat.mul_le_mul_right V (by omega)
      have h4 : V < (V / P + 1) * P := by have := Nat.lt_mul_div_succ V hP; rwa [Nat.mul_comm] at this
      have h5 : (g - 1) * V ≤ (g - 1) * ((V / P + 1) * P) := Nat.mul_le_mul_left _ (Nat.le_of_lt h4)
      have h6 : g * (V / P) * P < (g - 1) * ((V / P + 1) * P) := by omega
      rw [← Nat.mul_assoc] at h6
      have h7 := Nat.lt_of_mul_lt_mul_right h6
      have hg0 : 1 ≤ g := Nat.lt_of_le_of_lt (Nat.zero_le _) h
      obtain ⟨k, rfl⟩ : ∃ k, g = k + 1 := ⟨g - 1, by omega⟩
      rw [Nat.add_sub_cancel, Nat.add_mul, Nat.one_mul, Nat.mul_add, Nat.mul_one] at h7
      omega
    · exact h

/-- the multiple is taken away: it was right, or one too great -/
theorem kn_sub {U V P A t g c o : Nat} (hA : A < P) (hU : U = A + P * t) (hV : V < P) (hV0 : 0 < V) (hg1 : U / V ≤ g) (hg2 : g ≤ U / V + 1) (ho : o < P) (h : o + V * g = A + P * c) :
    (c ≤ t → g = U / V ∧ t = c ∧ o = U % V) ∧ (t < c → g = U / V + 1 ∧ c = t + 1 ∧ o + V = U % V + P) := by
  have e := Nat.div_add_mod U V
  have hm := Nat.mod_lt U hV0
  have hUg : U + P * c = o + V * g + P * t := by omega
  obtain ⟨d, hd⟩ : ∃ d, d = U / V := ⟨_, rfl⟩
  rw [← hd] at e hg1 hg2 ⊢
  generalize U % V = m at *
  refine ⟨fun hct => ?_, fun htc => ?_⟩
  · obtain ⟨s, rfl⟩ : ∃ s, t = c + s := ⟨t - c, by omega⟩
    have hg : g = d := by
      rcases Nat.lt_or_ge d g with h1 | h1
      · obtain rfl : g = d + 1 := by omega
        rw [Nat.mul_add, Nat.mul_add, Nat.mul_one] at hUg
        omega
      · omega
    subst hg
    rw [Nat.mul_add] at hUg
    have hs : s = 0 := by
      rcases Nat.eq_zero_or_pos s with h1 | h1
      · exact h1
      · have := Nat.mul_le_mul_left P (show 1 ≤ s from h1)
        omega
    subst hs
    exact ⟨rfl, by omega, by omega⟩
  · obtain ⟨s, rfl⟩ : ∃ s, c = t + 1 + s := ⟨c - t - 1, by omega⟩
    rw [Nat.mul_add, Nat.mul_add, Nat.mul_one] at hUg
    have hg : g = d + 1 := by
      rcases Nat.lt_or_ge d g with h1 | h1
      · omega
      · obtain rfl : g = d := by omega
        omega
    subst hg
    rw [Nat.mul_add, Nat.mul_one] at hUg
    have hs : s = 0 := by
      rcases Nat.eq_zero_or_pos s with h1 | h1
      · exact h1
      · have := Nat.mul_le_mul_left P (show 1 ≤ s from h1)
        omega
    subst hs
    exact ⟨rfl, by omega, by omega⟩
/-- the three upper words -/
theorem kn_top {U n : Nat} : ((U / B ^ (n + 2)) * B + U / B ^ (n + 1) % B) * B + U / B ^ n % B = U / B ^ n := by
  have h1 : U / B ^ (n + 2) = U / B ^ (n + 1) / B := by rw [Nat.div_div_eq_div_mul, ← Nat.pow_succ]
  have h2 : U / B ^ (n + 1) = U / B ^ n / B := by rw [Nat.div_div_eq_div_mul, ← Nat.pow_succ]
  rw [h1, Nat.div_add_mod', h2, Nat.div_add_mod']
theorem kn_top2 {V n : Nat} (h : V < B ^ (n + 2)) : (V / B ^ (n + 1) % B) * B + V / B ^ n % B = V / B ^ n := by
  have h2 : V / B ^ (n + 1) = V / B ^ n / B := by rw [Nat.div_div_eq_div_mul, ← Nat.pow_succ]
  have h3 : V / B ^ (n + 1) < B := (Nat.div_lt_iff_lt_mul (Nat.pow_pos (by decide))).2 (by rw [← Nat.pow_succ']; exact h)
  rw [Nat.mod_eq_of_lt h3, h2, Nat.div_add_mod']
end Go.Proofs.YtjcmhoiabakclaaDoor

/- M6 -/
namespace Go.Proofs.YtjcmhoiabakclaaDoor
open Go Go.RowKit Ab
set_option linter.unusedSimpArgs false
set_option linter.unusedVariables false
set_option maxHeartbeats 10000000

end Go.Proofs.YtjcmhoiabakclaaDoor

/- M7 -/
namespace Go.Proofs.YtjcmhoiabakclaaDoor
open Go Go.RowKit Ab
set_option linter.unusedSimpArgs false
set_option linter.unusedVariables false
set_option maxHeartbeats 10000000
theorem bz_M7 : type_of% (And.intro @wi (And.intro @tn_nat (And.intro @Nat.div_one (And.intro @Nat.mul_one (And.intro @W_len (And.intro @W_app (And.intro @W_cell (@W_nf)))))))) := And.intro @wi (And.intro @tn_nat (And.intro @Nat.div_one (And.intro @Nat.mul_one (And.intro @W_len (And.intro @W_app (And.intro @W_cell (@W_nf)))))))

/-- Rows, as values. -/
def PW (ps : List (List Nat)) : List V := ps.map fun p => V.l 1 (W p)
theorem PW_len (ps : List (List Nat)) : (PW ps).length = ps.length := by simp [PW]
theorem PW_get (ps : List (List Nat)) (i : Nat) (h : i < ps.length) : (PW ps).getD i .un = V.l 1 (W (ps.getD i [])) := by simp [PW, List.getD_eq_getElem?_getD, h]
theorem flat_take (ps : List (List Nat)) (i : Nat) (h : i < ps.length) : (ps.take (i + 1)).flatten = (ps.take i).flatten ++ ps.getD i [] := by
  rw [List.take_succ_eq_append_getElem h, List.flatten_append, List.getD_eq_getElem?_getD, List.getElem?_eq_getElem h]; simp
theorem flat_take_le (ps : List (List Nat)) (i : Nat) : (ps.take i).flatten.length ≤ ps.flatten.length := by
  have : ps.flatten = (ps.take i).flatten ++ (ps.drop i).flatten := by rw [← List.flatten_append, List.take_append_drop]
  rw [this, List.length_append]; omega

end Go.Proofs.YtjcmhoiabakclaaDoor

/- NM6 -/
namespace Go.Proofs.YtjcmhoiabakclaaDoor
open Go Go.RowKit Ab
set_option linter.unusedSimpArgs false
set_option linter.unusedVariables false
set_option maxHeartbeats 10000000

section
variable {X A Z R : List Nat} {t j n : Nat}
theorem win_len (hX : X.length = j) (hA : A.length = n) : (X ++ (A ++ t :: Z)).length = j + n + 1 + Z.length := by simp; omega
theorem win_top (hX : X.length = j) (hA : A.length = n) : (X ++ (A ++ t :: Z)).getD (j + n) 0 = t := by
  rw [List.getD_eq_getElem?_getD, List.getElem?_append_right (by omega), List.getElem?_append_right (by omega), hX, hA, show j + n - j - n = 0 from by omega]; rfl
theorem win_get (hX : X.length = j) (hA : A.length = n) {k i : Nat} (hk : k < n) (hi : i = j + k) : (X ++ (A ++ t :: Z)).getD i 0 = A.getD k 0 := by
  subst hi
  rw [List.getD_eq_getElem?_getD, List.getElem?_append_right (by omega), List.getElem?_append_left (by omega), hX, show j + k - j = k from by omega, List.getD_eq_getElem?_getD]
theorem win_sub (hX : X.length = j) (hA : A.length = n) : ((X ++ (A ++ t :: Z)).drop j).take n = A := by
  rw [List.drop_append_of_le_length (by omega), ← hX, List.drop_length, List.nil_append, List.take_append_of_le_length (by omega), ← hA, List.take_length]
theorem win_cut (hX : X.length = j) (hA : A.length = n) : ((X ++ (A ++ t :: Z)).take (j + n)).drop j = A := by
  rw [List.drop_take, Nat.add_sub_cancel_left]; exact win_sub hX hA
theorem win_set (hX : X.length = j) (hA : A.length = n) (t' : Nat) : (X ++ (A ++ t :: Z)).set (j + n) t' = X ++ (A ++ t' :: Z) := by
  rw [List.set_append_right _ _ (by omega), List.set_append_right _ _ (by omega), hX, hA, show j + n - j - n = 0 from by omega]; rfl
end
theorem setAt_app {α : Type} : ∀ (X A R Y : List α), A.length = R.length → setAt (X ++ (A ++ Y)) X.length R = X ++ (R ++ Y)
  | X, [], [], Y, _ => rfl
  | X, [], _ :: _, Y, h => by simp at h
  | X, _ :: _, [], Y, h => by simp at h
  | X, a :: A, r :: R, Y, h => by
    have e : (X ++ (a :: A ++ Y)).set X.length r = (X ++ [r]) ++ (A ++ Y) := by
      rw [List.set_append_right _ _ (Nat.le_refl _), Nat.sub_self]; simp
    show setAt ((X ++ (a :: A ++ Y)).set X.length r) (X.length + 1) R = _
    rw [e, show X.length + 1 = (X ++ [r]).length from by simp, setAt_app (X ++ [r]) A R Y (by simpa using h)]
    simp
theorem W_copy {X A Z R : List Nat} {t j : Nat} (hX : X.length = j) (hR : A.length = R.length) : setAt (W (X ++ (A ++ t :: Z))) j (W R) = W (X ++ (R ++ t :: Z)) := by
  have h := setAt_app (W X) (W A) (W R) (W (t :: Z)) (by rw [W_len, W_len]; exact hR)
  rw [W_len, hX, W_app, W_app, W_app, W_app] at h
  exact h
/-- so many digits: those that there are, zeros above -/
theorem fl_pad {n v : Nat} (h : v < B ^ n) : dg B v ++ List.replicate (n - (dg B v).length) 0 = fl B n v := by
  have e := dg_fl (by decide : 2 ≤ B) h
  obtain ⟨k, hk⟩ := tz_split (fl B n v)
  rw [e] at hk
  have hl := congrArg List.length hk
  rw [fl_len, List.length_append, List.length_replicate] at hl
  rw [show n - (dg B v).length = k from by omega]
  exact hk.symm
theorem kn_norm {b : List Nat} (hb : Wd b) (h1 : 1 ≤ b.length) (h : b.getD (b.length - 1) 0 ≠ 0) :
    B ^ (b.length - 1) ≤ nv B b * 2 ^ (64 - bl (b.getD (b.length - 1) 0)) ∧ nv B b * 2 ^ (64 - bl (b.getD (b.length - 1) 0)) < B ^ b.length ∧ B ^ (b.length - 1) ≤ nv B b := by
  have hy := Wd_get hb (b.length - 1)
  have e := nv_take_succ (b := B) b (b.length - 1) (by omega)
  rw [show b.length - 1 + 1 = b.length from by omega, List.take_length] at e
  have hlo := nv_take_lt (b := B) (by decide) hb (b.length - 1)
  have hpow : B ^ b.length = B ^ (b.length - 1) * B := by rw [← Nat.pow_succ, show (b.length - 1).succ = b.length from by omega]
  have hP : 0 < B ^ (b.length - 1) := Nat.pow_pos (by decide)
  generalize b.getD (b.length - 1) 0 = y at *
  generalize nv B (b.take (b.length - 1)) = lo at *
  generalize B ^ (b.length - 1) = P at *
  have h64 := bl_64 hy
  have hs : (y + 1) * 2 ^ (64 - bl y) ≤ B := by
    have := Nat.mul_le_mul_right (2 ^ (64 - bl y)) (show y + 1 ≤ 2 ^ bl y from bl_lt y)
    rw [← Nat.pow_add, show bl y + (64 - bl y) = 64 from by omega] at this
    exact this
  have hs0 := Nat.two_pow_pos (64 - bl y)
  have hV : P ≤ nv B b := by
    have := Nat.mul_le_mul_left P (show 1 ≤ y by omega)
    omega
  refine ⟨Nat.le_trans hV (Nat.le_mul_of_pos_right _ hs0), ?_, hV⟩
  have h3 : nv B b < P * (y + 1) := by rw [Nat.mul_add]; omega
  have h4 := (Nat.mul_lt_mul_right hs0).2 h3
  rw [hpow]
  refine Nat.lt_of_lt_of_le h4 ?_
  rw [Nat.mul_assoc]
  exact Nat.mul_le_mul_left P hs
/-- the rest at the loop's begin -/
theorem kn_begin {A V la n s : Nat} (hn : n ≤ la) (h1 : 1 ≤ n) (hA : A < B ^ la) (hV : B ^ (n - 1) ≤ V) : A * 2 ^ s / B ^ (la + 1 - n) < V * 2 ^ s := by
  refine (Nat.div_lt_iff_lt_mul (Nat.pow_pos (by decide))).2 ?_
  have h2 := (Nat.mul_lt_mul_right (Nat.two_pow_pos s)).2 hA
  refine Nat.lt_of_lt_of_le h2 ?_
  rw [Nat.mul_right_comm]
  refine Nat.mul_le_mul_right _ ?_
  have := Nat.mul_le_mul_right (B ^ (la + 1 - n)) hV
  rw [← Nat.pow_add, show n - 1 + (la + 1 - n) = la from by omega] at this
  exact this
theorem ms_def {A V w P : Nat} (hA : A < P) : A + P * msC A V w P - V * w < P ∧ A + P * msC A V w P - V * w + V * w = A + P * msC A V w P := by
  have hP : 0 < P := by omega
  have e := Nat.div_add_mod (V * w + (P - 1 - A)) P
  have hm := Nat.mod_lt (V * w + (P - 1 - A)) hP
  unfold msC
  generalize (V * w + (P - 1 - A)) % P = r at *
  generalize P * ((V * w + (P - 1 - A)) / P) = z at *
  generalize V * w = y at *
  omega
def uL (As Vs m n i : Nat) : List Nat := fl B i As ++ (fl B n (As / B ^ i % Vs) ++ List.replicate (m + 1 - i - n) 0)
def qL (As Vs Q i : Nat) : List Nat := List.replicate i 0 ++ fl B (Q - i) (As / B ^ i / Vs)
theorem uL_top {As Vs m n : Nat} (hn : n ≤ m + 1) (h : As / B ^ (m + 1 - n) < Vs) : fl B (m + 1) As = uL As Vs m n (m + 1 - n) := by
  unfold uL
  rw [Nat.mod_eq_of_lt h, show m + 1 - (m + 1 - n) - n = 0 from by omega, List.replicate_zero, List.append_nil, ← fl_add, show m + 1 - n + n = m + 1 from by omega]
theorem win_fl {x R n : Nat} (hx : x < B) : x :: fl B n R = fl B n (R * B + x) ++ [(R * B + x) / B ^ n % B] := by
  have h1 : (R * B + x) % B = x := by rw [Nat.mul_comm, Nat.mul_add_mod, Nat.mod_eq_of_lt hx]
  have h2 : (R * B + x) / B = R := by rw [Nat.mul_comm, Nat.mul_add_div (by decide : 0 < B), Nat.div_eq_of_lt hx, Nat.add_zero]
  rw [← fl_succ, fl, h1, h2]
theorem uL_win {As Vs m n j : Nat} : uL As Vs m n (j + 1) = fl B j As ++ (fl B n (As / B ^ (j + 1) % Vs * B + As / B ^ j % B) ++ ((As / B ^ (j + 1) % Vs * B + As / B ^ j % B) / B ^ n % B) :: List.replicate (m + 1 - (j + 1) - n) 0) := by
  have e := win_fl (R := As / B ^ (j + 1) % Vs) (n := n) (Nat.mod_lt (As / B ^ j) (by decide : 0 < B))
  unfold uL
  generalize List.replicate (m + 1 - (j + 1) - n) 0 = Z
  rw [fl_succ, List.append_assoc, List.singleton_append, ← List.cons_append, e, List.append_assoc, List.singleton_append]
theorem uL_low {As Vs m n j : Nat} (h : j + 1 + n ≤ m + 1) (R : Nat) (hR : As / B ^ j % Vs = R) : fl B j As ++ (fl B n R ++ 0 :: List.replicate (m + 1 - (j + 1) - n) 0) = uL As Vs m n j := by
  unfold uL
  rw [hR, show m + 1 - j - n = (m + 1 - (j + 1) - n) + 1 from by omega, List.replicate_succ]
theorem qL_len {As Vs Q i : Nat} (h : i ≤ Q) : (qL As Vs Q i).length = Q := by unfold qL; rw [List.length_append, List.length_replicate, fl_len]; omega
theorem qL_set {As Vs Q j d : Nat} (h : j + 1 ≤ Q) (h1 : As / B ^ j / Vs % B = d) (h2 : As / B ^ j / Vs / B = As / B ^ (j + 1) / Vs) : (qL As Vs Q (j + 1)).set j d = qL As Vs Q j := by
  unfold qL
  rw [show Q - j = (Q - (j + 1)) + 1 from by omega, fl, h1, h2, List.replicate_succ', List.append_assoc, List.set_append_right _ _ (by rw [List.length_replicate]; exact Nat.le_refl _), List.length_replicate, Nat.sub_self]
  rfl
theorem fl_get {b : Nat} : ∀ (n v k : Nat), k < n → (fl b n v).getD k 0 = v / b ^ k % b
  | 0, v, k, h => by omega
  | n + 1, v, 0, h => by simp [fl]
  | n + 1, v, k + 1, h => by
    show (fl b n (v / b)).getD k 0 = _
    rw [fl_get n (v / b) k (by omega), Nat.div_div_eq_div_mul, Nat.pow_succ, Nat.mul_comm]
end Go.Proofs.YtjcmhoiabakclaaDoor
