/-
  Words: how many bits; two words by one.
-/
import Derived.Test.YtngohbpgdeiodaaM1
import Derived.Test.YtngohbpgdeiodaaNM4
namespace Go.Proofs.Ytngohbpgdeiodaa
open Go Go.RowKit Ab
set_option linter.unusedSimpArgs false
set_option linter.unusedVariables false
set_option maxHeartbeats 10000000

/-- how many bits a byte has -/
def bt : List UInt8 := (List.range 256).map fun i => UInt8.ofNat (bl i)
theorem bt_eq : ([0, 1, 2, 2, 3, 3, 3, 3, 4, 4, 4, 4, 4, 4, 4, 4, 5, 5, 5, 5, 5, 5, 5, 5, 5, 5, 5, 5, 5, 5, 5, 5, 6, 6, 6, 6, 6, 6, 6, 6, 6, 6, 6, 6, 6, 6, 6, 6, 6, 6, 6, 6, 6, 6, 6, 6, 6, 6, 6, 6, 6, 6, 6, 6, 7, 7, 7, 7, 7, 7, 7, 7, 7, 7, 7, 7, 7, 7, 7, 7, 7, 7, 7, 7, 7, 7, 7, 7, 7, 7, 7, 7, 7, 7, 7, 7, 7, 7, 7, 7, 7, 7, 7, 7, 7, 7, 7, 7, 7, 7, 7, 7, 7, 7, 7, 7, 7, 7, 7, 7, 7, 7, 7, 7, 7, 7, 7, 7, 8, 8, 8, 8, 8, 8, 8, 8, 8, 8, 8, 8, 8, 8, 8, 8, 8, 8, 8, 8, 8, 8, 8, 8, 8, 8, 8, 8, 8, 8, 8, 8, 8, 8, 8, 8, 8, 8, 8, 8, 8, 8, 8, 8, 8, 8, 8, 8, 8, 8, 8, 8, 8, 8, 8, 8, 8, 8, 8, 8, 8, 8, 8, 8, 8, 8, 8, 8, 8, 8, 8, 8, 8, 8, 8, 8, 8, 8, 8, 8, 8, 8, 8, 8, 8, 8, 8, 8, 8, 8, 8, 8, 8, 8, 8, 8, 8, 8, 8, 8, 8, 8, 8, 8, 8, 8, 8, 8, 8, 8, 8, 8, 8, 8, 8, 8, 8, 8, 8, 8, 8, 8, 8, 8, 8, 8, 8, 8] : List UInt8) = bt := by decide +kernel
theorem bt_len : bt.length = 256 := by decide +kernel
theorem bt_all : ∀ i, i < 256 → (bt.getD i 0).toNat = bl i := by decide +kernel
theorem bt_get (x : Nat) (h : x < 256) : (((bt.getD x 0).toNat : Nat) : Int) = ((bl x : Nat) : Int) := by rw [bt_all x h]
theorem shr16 (a : Nat) : (a : Int).fdiv (2 ^ (min (16 : Int).toNat IntKind.u64.bits)) = ((a / 65536 : Nat) : Int) := shr64 a 16 (by decide)
theorem shr8 (a : Nat) : (a : Int).fdiv (2 ^ (min (8 : Int).toNat IntKind.u64.bits)) = ((a / 256 : Nat) : Int) := shr64 a 8 (by decide)
theorem w8 (a : Nat) (h : a < 256) : IntKind.u8.wrap (a : Int) = (a : Int) := by rw [IntKind.wrap_u8]; omega
theorem bl32 {x : Nat} (h : 4294967296 ≤ x) : bl x = 32 + bl (x / 4294967296) := bl_div (n := 32) h
theorem bl16 {x : Nat} (h : 65536 ≤ x) : bl x = 16 + bl (x / 65536) := bl_div (n := 16) h
theorem bl8 {x : Nat} (h : 256 ≤ x) : bl x = 8 + bl (x / 256) := bl_div (n := 8) h

-- math/bits.Len64
def a90 : AC := .seq (.reg [⟨some 2, none, .mv (.k (.i .i64 0))⟩])
  (.seq (.seq (.reg [⟨some 3, none, .mv (.t 0)⟩, 
        ⟨some 4, none, .bin .geq (.t 3) (.k (.i .u64 4294967296))⟩])
    (.cond (.t 4)
    (.seq (.reg [⟨some 5, none, .mv (.t 0)⟩, 
          ⟨some 6, none, .bin .shr (.t 5) (.k (.i .u64 32))⟩, 
          ⟨some 0, none, .mv (.t 6)⟩])
      (.reg [⟨some 2, none, .mv (.k (.i .i64 32))⟩]))
    (.skip)))
  (.seq (.seq (.reg [⟨some 7, none, .mv (.t 0)⟩, 
        ⟨some 8, none, .bin .geq (.t 7) (.k (.i .u64 65536))⟩])
    (.cond (.t 8)
    (.seq (.reg [⟨some 9, none, .mv (.t 0)⟩, 
          ⟨some 10, none, .bin .shr (.t 9) (.k (.i .u64 16))⟩, 
          ⟨some 0, none, .mv (.t 10)⟩])
      (.reg [⟨some 11, none, .mv (.t 2)⟩, 
        ⟨some 12, none, .bin .add (.t 11) (.k (.i .i64 16))⟩, 
        ⟨some 2, none, .mv (.t 12)⟩]))
    (.skip)))
  (.seq (.seq (.reg [⟨some 13, none, .mv (.t 0)⟩, 
        ⟨some 14, none, .bin .geq (.t 13) (.k (.i .u64 256))⟩])
    (.cond (.t 14)
    (.seq (.reg [⟨some 15, none, .mv (.t 0)⟩, 
          ⟨some 16, none, .bin .shr (.t 15) (.k (.i .u64 8))⟩, 
          ⟨some 0, none, .mv (.t 16)⟩])
      (.reg [⟨some 17, none, .mv (.t 2)⟩, 
        ⟨some 18, none, .bin .add (.t 17) (.k (.i .i64 8))⟩, 
        ⟨some 2, none, .mv (.t 18)⟩]))
    (.skip)))
  (.seq (.reg [⟨some 19, none, .mv (.t 2)⟩, 
      ⟨some 20, none, .mv (.t 0)⟩, 
      ⟨some 21, none, .cvt .u8 (.t 20)⟩, 
      ⟨some 22, none, .six (.k (.s [0, 1, 2, 2, 3, 3, 3, 3, 4, 4, 4, 4, 4, 4, 4, 4, 5, 5, 5, 5, 5, 5, 5, 5, 5, 5, 5, 5, 5, 5, 5, 5, 6, 6, 6, 6, 6, 6, 6, 6, 6, 6, 6, 6, 6, 6, 6, 6, 6, 6, 6, 6, 6, 6, 6, 6, 6, 6, 6, 6, 6, 6, 6, 6, 7, 7, 7, 7, 7, 7, 7, 7, 7, 7, 7, 7, 7, 7, 7, 7, 7, 7, 7, 7, 7, 7, 7, 7, 7, 7, 7, 7, 7, 7, 7, 7, 7, 7, 7, 7, 7, 7, 7, 7, 7, 7, 7, 7, 7, 7, 7, 7, 7, 7, 7, 7, 7, 7, 7, 7, 7, 7, 7, 7, 7, 7, 7, 7, 8, 8, 8, 8, 8, 8, 8, 8, 8, 8, 8, 8, 8, 8, 8, 8, 8, 8, 8, 8, 8, 8, 8, 8, 8, 8, 8, 8, 8, 8, 8, 8, 8, 8, 8, 8, 8, 8, 8, 8, 8, 8, 8, 8, 8, 8, 8, 8, 8, 8, 8, 8, 8, 8, 8, 8, 8, 8, 8, 8, 8, 8, 8, 8, 8, 8, 8, 8, 8, 8, 8, 8, 8, 8, 8, 8, 8, 8, 8, 8, 8, 8, 8, 8, 8, 8, 8, 8, 8, 8, 8, 8, 8, 8, 8, 8, 8, 8, 8, 8, 8, 8, 8, 8, 8, 8, 8, 8, 8, 8, 8, 8, 8, 8, 8, 8, 8, 8, 8, 8, 8, 8, 8, 8, 8, 8, 8, 8])) (.t 21)⟩, 
      ⟨some 23, none, .cvt .i64 (.t 22)⟩, 
      ⟨some 24, none, .bin .add (.t 19) (.t 23)⟩, 
      ⟨some 2, none, .mv (.t 24)⟩])
  (.ret)))))
set_option maxRecDepth 10000 in
theorem len64_spec (x : Nat) (hx : x < 18446744073709551616) : AFun Try.prog J0 90 [.i .u64 (x : Int)] (.i .i64 ((bl x : Nat) : Int)) := by
  refine AFun.mk fol J0s Try.func90 rfl (ac := a90) (by kernel_rfl) rfl rfl ?_
  apply vm_start
  unfold a90
  simp only [init_eq, initE]
  by_cases h32 : (4294967296 : Int) ≤ (x : Int)
  · have e32 := bl32 (x := x) (by omega)
    by_cases h16 : (65536 : Int) ≤ ((x / 4294967296 : Nat) : Int)
    · have e16 := bl16 (x := x / 4294967296) (by omega)
      by_cases h8 : (256 : Int) ≤ ((x / 4294967296 / 65536 : Nat) : Int)
      · have e8 := bl8 (x := x / 4294967296 / 65536) (by omega)
        have hb := bl_64 (x := x / 4294967296 / 65536) (by omega)
        repeat first | (refine hK _ ?_; clear hK K) | simp only [Sv, ↓reduceIte, Nat.reduceEqDiff] | ((first | refine vm_reg (fun K hK => ?_) | refine vm_dreg (fun K hK => ?_)); simp (disch := (first | omega | assumption)) only [S1, ↓reduceIte, Nat.reduceEqDiff, Nat.reduceAdd, Nat.reduceMul, Nat.reduceDiv, AOp.sb, AOp.mut, ↓Bool.false_eq_true, beq_self_eq_true, ite_self, Nat.reduceLeDiff, Int.reduceEq, Int.reduceSub, Int.reduceAdd, Int.reduceNeg, Int.reduceLT, Int.reduceLE, Nat.reduceLT, wi, tn_nat, Nat.div_one, Nat.mul_one, h32, h16, h8, shr32, shr16, shr8, w8, ↓bt_eq, bt_len, bt_get])
        simp (disch := (first | omega | assumption)) only [retOk, retN, ret1, retF, ret1F, V.okArg, and_true, true_and, S1, ↓reduceIte, Nat.reduceEqDiff, Nat.reduceAdd, Nat.reduceMul, Nat.reduceDiv, AOp.sb, AOp.mut, ↓Bool.false_eq_true, beq_self_eq_true, ite_self, Nat.reduceLeDiff, Int.reduceEq, Int.reduceSub, Int.reduceAdd, Int.reduceNeg, Int.reduceLT, Int.reduceLE, Nat.reduceLT, wi, tn_nat, Nat.div_one, Nat.mul_one, h32, h16, h8, shr32, shr16, shr8, w8, ↓bt_eq, bt_len, bt_get]
        try (congr 1; omega)
      · have hb := bl_64 (x := x / 4294967296 / 65536) (by omega)
        repeat first | (refine hK _ ?_; clear hK K) | simp only [Sv, ↓reduceIte, Nat.reduceEqDiff] | ((first | refine vm_reg (fun K hK => ?_) | refine vm_dreg (fun K hK => ?_)); simp (disch := (first | omega | assumption)) only [S1, ↓reduceIte, Nat.reduceEqDiff, Nat.reduceAdd, Nat.reduceMul, Nat.reduceDiv, AOp.sb, AOp.mut, ↓Bool.false_eq_true, beq_self_eq_true, ite_self, Nat.reduceLeDiff, Int.reduceEq, Int.reduceSub, Int.reduceAdd, Int.reduceNeg, Int.reduceLT, Int.reduceLE, Nat.reduceLT, wi, tn_nat, Nat.div_one, Nat.mul_one, h32, h16, h8, shr32, shr16, shr8, w8, ↓bt_eq, bt_len, bt_get])
        simp (disch := (first | omega | assumption)) only [retOk, retN, ret1, retF, ret1F, V.okArg, and_true, true_and, S1, ↓reduceIte, Nat.reduceEqDiff, Nat.reduceAdd, Nat.reduceMul, Nat.reduceDiv, AOp.sb, AOp.mut, ↓Bool.false_eq_true, beq_self_eq_true, ite_self, Nat.reduceLeDiff, Int.reduceEq, Int.reduceSub, Int.reduceAdd, Int.reduceNeg, Int.reduceLT, Int.reduceLE, Nat.reduceLT, wi, tn_nat, Nat.div_one, Nat.mul_one, h32, h16, h8, shr32, shr16, shr8, w8, ↓bt_eq, bt_len, bt_get]
        try (congr 1; omega)
    · by_cases h8 : (256 : Int) ≤ ((x / 4294967296 : Nat) : Int)
      · have e8 := bl8 (x := x / 4294967296) (by omega)
        have hb := bl_64 (x := x / 4294967296) (by omega)
        repeat first | (refine hK _ ?_; clear hK K) | simp only [Sv, ↓reduceIte, Nat.reduceEqDiff] | ((first | refine vm_reg (fun K hK => ?_) | refine vm_dreg (fun K hK => ?_)); simp (disch := (first | omega | assumption)) only [S1, ↓reduceIte, Nat.reduceEqDiff, Nat.reduceAdd, Nat.reduceMul, Nat.reduceDiv, AOp.sb, AOp.mut, ↓Bool.false_eq_true, beq_self_eq_true, ite_self, Nat.reduceLeDiff, Int.reduceEq, Int.reduceSub, Int.reduceAdd, Int.reduceNeg, Int.reduceLT, Int.reduceLE, Nat.reduceLT, wi, tn_nat, Nat.div_one, Nat.mul_one, h32, h16, h8, shr32, shr16, shr8, w8, ↓bt_eq, bt_len, bt_get])
        simp (disch := (first | omega | assumption)) only [retOk, retN, ret1, retF, ret1F, V.okArg, and_true, true_and, S1, ↓reduceIte, Nat.reduceEqDiff, Nat.reduceAdd, Nat.reduceMul, Nat.reduceDiv, AOp.sb, AOp.mut, ↓Bool.false_eq_true, beq_self_eq_true, ite_self, Nat.reduceLeDiff, Int.reduceEq, Int.reduceSub, Int.reduceAdd, Int.reduceNeg, Int.reduceLT, Int.reduceLE, Nat.reduceLT, wi, tn_nat, Nat.div_one, Nat.mul_one, h32, h16, h8, shr32, shr16, shr8, w8, ↓bt_eq, bt_len, bt_get]
        try (congr 1; omega)
      · have hb := bl_64 (x := x / 4294967296) (by omega)
        repeat first | (refine hK _ ?_; clear hK K) | simp only [Sv, ↓reduceIte, Nat.reduceEqDiff] | ((first | refine vm_reg (fun K hK => ?_) | refine vm_dreg (fun K hK => ?_)); simp (disch := (first | omega | assumption)) only [S1, ↓reduceIte, Nat.reduceEqDiff, Nat.reduceAdd, Nat.reduceMul, Nat.reduceDiv, AOp.sb, AOp.mut, ↓Bool.false_eq_true, beq_self_eq_true, ite_self, Nat.reduceLeDiff, Int.reduceEq, Int.reduceSub, Int.reduceAdd, Int.reduceNeg, Int.reduceLT, Int.reduceLE, Nat.reduceLT, wi, tn_nat, Nat.div_one, Nat.mul_one, h32, h16, h8, shr32, shr16, shr8, w8, ↓bt_eq, bt_len, bt_get])
        simp (disch := (first | omega | assumption)) only [retOk, retN, ret1, retF, ret1F, V.okArg, and_true, true_and, S1, ↓reduceIte, Nat.reduceEqDiff, Nat.reduceAdd, Nat.reduceMul, Nat.reduceDiv, AOp.sb, AOp.mut, ↓Bool.false_eq_true, beq_self_eq_true, ite_self, Nat.reduceLeDiff, Int.reduceEq, Int.reduceSub, Int.reduceAdd, Int.reduceNeg, Int.reduceLT, Int.reduceLE, Nat.reduceLT, wi, tn_nat, Nat.div_one, Nat.mul_one, h32, h16, h8, shr32, shr16, shr8, w8, ↓bt_eq, bt_len, bt_get]
        try (congr 1; omega)
  · by_cases h16 : (65536 : Int) ≤ (x : Int)
    · have e16 := bl16 (x := x) (by omega)
      by_cases h8 : (256 : Int) ≤ ((x / 65536 : Nat) : Int)
      · have e8 := bl8 (x := x / 65536) (by omega)
        have hb := bl_64 (x := x / 65536) (by omega)
        repeat first | (refine hK _ ?_; clear hK K) | simp only [Sv, ↓reduceIte, Nat.reduceEqDiff] | ((first | refine vm_reg (fun K hK => ?_) | refine vm_dreg (fun K hK => ?_)); simp (disch := (first | omega | assumption)) only [S1, ↓reduceIte, Nat.reduceEqDiff, Nat.reduceAdd, Nat.reduceMul, Nat.reduceDiv, AOp.sb, AOp.mut, ↓Bool.false_eq_true, beq_self_eq_true, ite_self, Nat.reduceLeDiff, Int.reduceEq, Int.reduceSub, Int.reduceAdd, Int.reduceNeg, Int.reduceLT, Int.reduceLE, Nat.reduceLT, wi, tn_nat, Nat.div_one, Nat.mul_one, h32, h16, h8, shr32, shr16, shr8, w8, ↓bt_eq, bt_len, bt_get])
        simp (disch := (first | omega | assumption)) only [retOk, retN, ret1, retF, ret1F, V.okArg, and_true, true_and, S1, ↓reduceIte, Nat.reduceEqDiff, Nat.reduceAdd, Nat.reduceMul, Nat.reduceDiv, AOp.sb, AOp.mut, ↓Bool.false_eq_true, beq_self_eq_true, ite_self, Nat.reduceLeDiff, Int.reduceEq, Int.reduceSub, Int.reduceAdd, Int.reduceNeg, Int.reduceLT, Int.reduceLE, Nat.reduceLT, wi, tn_nat, Nat.div_one, Nat.mul_one, h32, h16, h8, shr32, shr16, shr8, w8, ↓bt_eq, bt_len, bt_get]
        try (congr 1; omega)
      · have hb := bl_64 (x := x / 65536) (by omega)
        repeat first | (refine hK _ ?_; clear hK K) | simp only [Sv, ↓reduceIte, Nat.reduceEqDiff] | ((first | refine vm_reg (fun K hK => ?_) | refine vm_dreg (fun K hK => ?_)); simp (disch := (first | omega | assumption)) only [S1, ↓reduceIte, Nat.reduceEqDiff, Nat.reduceAdd, Nat.reduceMul, Nat.reduceDiv, AOp.sb, AOp.mut, ↓Bool.false_eq_true, beq_self_eq_true, ite_self, Nat.reduceLeDiff, Int.reduceEq, Int.reduceSub, Int.reduceAdd, Int.reduceNeg, Int.reduceLT, Int.reduceLE, Nat.reduceLT, wi, tn_nat, Nat.div_one, Nat.mul_one, h32, h16, h8, shr32, shr16, shr8, w8, ↓bt_eq, bt_len, bt_get])
        simp (disch := (first | omega | assumption)) only [retOk, retN, ret1, retF, ret1F, V.okArg, and_true, true_and, S1, ↓reduceIte, Nat.reduceEqDiff, Nat.reduceAdd, Nat.reduceMul, Nat.reduceDiv, AOp.sb, AOp.mut, ↓Bool.false_eq_true, beq_self_eq_true, ite_self, Nat.reduceLeDiff, Int.reduceEq, Int.reduceSub, Int.reduceAdd, Int.reduceNeg, Int.reduceLT, Int.reduceLE, Nat.reduceLT, wi, tn_nat, Nat.div_one, Nat.mul_one, h32, h16, h8, shr32, shr16, shr8, w8, ↓bt_eq, bt_len, bt_get]
        try (congr 1; omega)
    · by_cases h8 : (256 : Int) ≤ ((x : Nat) : Int)
      · have e8 := bl8 (x := x) (by omega)
        have hb := bl_64 (x := x) (by omega)
        repeat first | (refine hK _ ?_; clear hK K) | simp only [Sv, ↓reduceIte, Nat.reduceEqDiff] | ((first | refine vm_reg (fun K hK => ?_) | refine vm_dreg (fun K hK => ?_)); simp (disch := (first | omega | assumption)) only [S1, ↓reduceIte, Nat.reduceEqDiff, Nat.reduceAdd, Nat.reduceMul, Nat.reduceDiv, AOp.sb, AOp.mut, ↓Bool.false_eq_true, beq_self_eq_true, ite_self, Nat.reduceLeDiff, Int.reduceEq, Int.reduceSub, Int.reduceAdd, Int.reduceNeg, Int.reduceLT, Int.reduceLE, Nat.reduceLT, wi, tn_nat, Nat.div_one, Nat.mul_one, h32, h16, h8, shr32, shr16, shr8, w8, ↓bt_eq, bt_len, bt_get])
        simp (disch := (first | omega | assumption)) only [retOk, retN, ret1, retF, ret1F, V.okArg, and_true, true_and, S1, ↓reduceIte, Nat.reduceEqDiff, Nat.reduceAdd, Nat.reduceMul, Nat.reduceDiv, AOp.sb, AOp.mut, ↓Bool.false_eq_true, beq_self_eq_true, ite_self, Nat.reduceLeDiff, Int.reduceEq, Int.reduceSub, Int.reduceAdd, Int.reduceNeg, Int.reduceLT, Int.reduceLE, Nat.reduceLT, wi, tn_nat, Nat.div_one, Nat.mul_one, h32, h16, h8, shr32, shr16, shr8, w8, ↓bt_eq, bt_len, bt_get]
        try (congr 1; omega)
      · have hb := bl_64 (x := x) (by omega)
        repeat first | (refine hK _ ?_; clear hK K) | simp only [Sv, ↓reduceIte, Nat.reduceEqDiff] | ((first | refine vm_reg (fun K hK => ?_) | refine vm_dreg (fun K hK => ?_)); simp (disch := (first | omega | assumption)) only [S1, ↓reduceIte, Nat.reduceEqDiff, Nat.reduceAdd, Nat.reduceMul, Nat.reduceDiv, AOp.sb, AOp.mut, ↓Bool.false_eq_true, beq_self_eq_true, ite_self, Nat.reduceLeDiff, Int.reduceEq, Int.reduceSub, Int.reduceAdd, Int.reduceNeg, Int.reduceLT, Int.reduceLE, Nat.reduceLT, wi, tn_nat, Nat.div_one, Nat.mul_one, h32, h16, h8, shr32, shr16, shr8, w8, ↓bt_eq, bt_len, bt_get])
        simp (disch := (first | omega | assumption)) only [retOk, retN, ret1, retF, ret1F, V.okArg, and_true, true_and, S1, ↓reduceIte, Nat.reduceEqDiff, Nat.reduceAdd, Nat.reduceMul, Nat.reduceDiv, AOp.sb, AOp.mut, ↓Bool.false_eq_true, beq_self_eq_true, ite_self, Nat.reduceLeDiff, Int.reduceEq, Int.reduceSub, Int.reduceAdd, Int.reduceNeg, Int.reduceLT, Int.reduceLE, Nat.reduceLT, wi, tn_nat, Nat.div_one, Nat.mul_one, h32, h16, h8, shr32, shr16, shr8, w8, ↓bt_eq, bt_len, bt_get]
        try (congr 1; omega)

-- math/bits.LeadingZeros64
def a77 : AC := .seq (.reg [⟨some 2, none, .mv (.k (.i .i64 0))⟩])
  (.seq (.reg [⟨some 3, none, .mv (.t 0)⟩, 
      ⟨some 4, none, .call 90 [(1, (.t 3))]⟩, 
      ⟨some 5, none, .bin .sub (.k (.i .i64 64)) (.t 4)⟩, 
      ⟨some 2, none, .mv (.t 5)⟩])
  (.ret))
theorem lz64_spec (x : Nat) (hx : x < 18446744073709551616) : AFun Try.prog J0 77 [.i .u64 (x : Int)] (.i .i64 ((64 - bl x : Nat) : Int)) := by
  have hb := bl_64 hx
  refine AFun.mk fol J0s Try.func77 rfl (ac := a77) (by kernel_rfl) rfl rfl ?_
  apply vm_start
  unfold a77
  simp only [init_eq, initE]
  have zc1 := len64_spec x hx
  repeat first | (refine hK _ ?_; clear hK K) | simp only [Sv, ↓reduceIte, Nat.reduceEqDiff] | ((first | refine vm_reg (fun K hK => ?_) | refine vm_dreg (fun K hK => ?_) | refine clp_q ?_ | refine clq_mk (by assumption) ?_); simp (disch := (first | omega | assumption)) only [S1, ↓reduceIte, Nat.reduceEqDiff, Nat.reduceAdd, Nat.reduceMul, Nat.reduceDiv, AOp.sb, AOp.mut, ↓Bool.false_eq_true, beq_self_eq_true, ite_self, Nat.reduceLeDiff, Int.reduceEq, Int.reduceSub, Int.reduceAdd, Int.reduceNeg, Int.reduceLT, Int.reduceLE, Nat.reduceLT, wi, tn_nat, Nat.div_one, Nat.mul_one])
  simp (disch := (first | omega | assumption)) only [retOk, retN, ret1, retF, ret1F, V.okArg, and_true, true_and, S1, ↓reduceIte, Nat.reduceEqDiff, Nat.reduceAdd, Nat.reduceMul, Nat.reduceDiv, AOp.sb, AOp.mut, ↓Bool.false_eq_true, beq_self_eq_true, ite_self, Nat.reduceLeDiff, Int.reduceEq, Int.reduceSub, Int.reduceAdd, Int.reduceNeg, Int.reduceLT, Int.reduceLE, Nat.reduceLT, wi, tn_nat, Nat.div_one, Nat.mul_one]
  try (congr 1; omega)
end Go.Proofs.Ytngohbpgdeiodaa
