/-
  NatForms: the law's walk.
-/
import Derived.Test.YtjcmhoiabakclaaDoorNB
import Derived.Test.YtjcmhoiabakclaaDoorGG
import Derived.Test.YtjcmhoiabakclaaDoorGH
namespace Go.Proofs.YtjcmhoiabakclaaDoor
open Go Go.RowKit Ab
set_option linter.unusedSimpArgs false
set_option linter.unusedVariables false
set_option maxHeartbeats 10000000
theorem bz_LNF : type_of% (And.intro @wi (And.intro @tn_nat (And.intro @Nat.div_one (And.intro @Nat.mul_one (And.intro @W_len (And.intro @W_nf (And.intro @W_cell (And.intro @W_nil (@W_get))))))))) := And.intro @wi (And.intro @tn_nat (And.intro @Nat.div_one (And.intro @Nat.mul_one (And.intro @W_len (And.intro @W_nf (And.intro @W_cell (And.intro @W_nil (@W_get))))))))

theorem Wd2' {x y : Nat} (h : x < 18446744073709551616) (k : y < 18446744073709551616) : Wd [x, y] := fun z hz => by
  rcases List.mem_cons.1 hz with h1 | h1
  · rw [h1]; exact h
  · rw [List.mem_singleton.1 h1]; exact k
-- surd/surdlaw02.known
def a5 : AC := .seq (.reg [⟨some 0, none, .mv (.k (.b false))⟩])
  (.seq (.reg [⟨some 1, none, .bsl 24 1 1 [(.i .u64 0)] [(0, (.k (.i .u64 18446744073709551615)))]⟩, 
      ⟨some 2, none, .bsl 24 1 1 [(.i .u64 0)] [(0, (.k (.i .u64 1)))]⟩, 
      ⟨some 3, none, .call 23 [(1, (.t 1)), (1, (.t 2))]⟩, 
      ⟨some 4, none, .bsl 24 1 2 [(.i .u64 0), (.i .u64 0)] [(0, (.k (.i .u64 0))), (1, (.k (.i .u64 1)))]⟩, 
      ⟨some 5, none, .call 10 [(1, (.t 3)), (1, (.t 4))]⟩, 
      ⟨some 6, none, .mv (.t 5)⟩, 
      ⟨some 7, some (6, true), .bsl 24 1 2 [(.i .u64 0), (.i .u64 0)] [(0, (.k (.i .u64 2))), (1, (.k (.i .u64 0)))]⟩, 
      ⟨some 8, some (6, true), .bsl 24 1 1 [(.i .u64 0)] [(0, (.k (.i .u64 1)))]⟩, 
      ⟨some 9, some (6, true), .call 26 [(1, (.t 7)), (1, (.t 8))]⟩, 
      ⟨some 10, some (6, true), .bin .eql (.t 9) (.k (.i .i64 1))⟩, 
      ⟨some 11, none, .pick (.t 6) (.t 10) (.k (.b false))⟩, 
      ⟨some 0, none, .mv (.t 11)⟩])
  (.ret))
theorem nknown_spec : AFun Tryd.prog J0 5 [] (.b true) := by
  have h1 := add_spec [18446744073709551615] [1] (Wd1 (by decide)) (Wd1 (by decide)) (by decide) (by decide)
  rw [show dg B (nv B [18446744073709551615] + nv B [1]) = [0, 1] from by rw [show nv B [18446744073709551615] + nv B [1] = nv B [0, 1] from rfl, ← tz_dg B2 (Wd2' (by decide) (by decide))]; rfl] at h1
  have h2 := same_spec [0, 1] [0, 1] (by decide) (by decide)
  have h3 := cmp_spec [2, 0] [1] (Wd2' (by decide) (by decide)) (Wd1 (by decide)) (by decide) (by decide)
  rw [show sg (nv B [2, 0]) (nv B [1]) = 1 from by decide] at h3
  refine AFun.mk fol J0s Tryd.func5 rfl (ac := a5) (by kernel_rfl) rfl rfl ?_
  apply vm_start
  unfold a5
  simp only [init_eq, initE]
  have zc1 := h1
  have zc2 := h2
  have zc3 := h3
  repeat first | (refine hK _ ?_; clear hK K) | simp only [Sv, ↓reduceIte, Nat.reduceEqDiff] | ((first | refine vm_reg (fun K hK => ?_) | refine vm_dreg (fun K hK => ?_) | refine vm_dregx (fun K hK => ?_) | refine clp_q ?_ | refine clq_mk (by assumption) ?_); simp (disch := (first | omega | assumption)) only [S1, ↓reduceIte, Nat.reduceEqDiff, Nat.reduceAdd, Nat.reduceMul, Nat.reduceDiv, AOp.sb, AOp.mut, ↓Bool.false_eq_true, beq_self_eq_true, ite_self, Nat.reduceLeDiff, Int.reduceEq, Int.reduceSub, Int.reduceAdd, Int.reduceNeg, Int.reduceLT, Int.reduceLE, Nat.reduceLT, bz_LNF, List.length_nil, List.length_cons])
  simp (disch := (first | omega | assumption)) only [retOk, retN, ret1, retF, ret1F, V.okArg, and_true, true_and, S1, ↓reduceIte, Nat.reduceEqDiff, Nat.reduceAdd, Nat.reduceMul, Nat.reduceDiv, AOp.sb, AOp.mut, ↓Bool.false_eq_true, beq_self_eq_true, ite_self, Nat.reduceLeDiff, Int.reduceEq, Int.reduceSub, Int.reduceAdd, Int.reduceNeg, Int.reduceLT, Int.reduceLE, Nat.reduceLT, bz_LNF, List.length_nil, List.length_cons]
-- surd/surdlaw02.NatForms
def a3 : AC := .seq (.reg [⟨some 6, none, .mv (.k (.b false))⟩])
  (.seq (.seq (.reg [⟨some 15, none, .call 5 []⟩, 
        ⟨some 16, none, .un .not (.t 15)⟩])
    (.cond (.t 16)
    (.seq (.reg [⟨some 6, none, .mv (.k (.b false))⟩])
      (.ret))
    (.skip)))
  (.seq (.reg [⟨some 18, none, .mv (.t 0)⟩, 
      ⟨some 19, none, .call 6 [(1, (.t 18))]⟩, 
      ⟨some 17, none, .mv (.t 19)⟩, 
      ⟨some 20, none, .ext (.t 17) 0⟩, 
      ⟨some 21, none, .ext (.t 17) 1⟩, 
      ⟨some 7, none, .mv (.t 20)⟩, 
      ⟨some 8, none, .mv (.t 21)⟩])
  (.seq (.reg [⟨some 23, none, .mv (.t 0)⟩, 
      ⟨some 24, none, .call 7 [(1, (.t 23))]⟩, 
      ⟨some 22, none, .mv (.t 24)⟩, 
      ⟨some 25, none, .ext (.t 22) 0⟩, 
      ⟨some 26, none, .ext (.t 22) 1⟩, 
      ⟨some 9, none, .mv (.t 25)⟩, 
      ⟨some 10, none, .mv (.t 26)⟩])
  (.seq (.reg [⟨some 28, none, .mv (.t 0)⟩, 
      ⟨some 29, none, .call 8 [(1, (.t 28))]⟩, 
      ⟨some 27, none, .mv (.t 29)⟩, 
      ⟨some 30, none, .ext (.t 27) 0⟩, 
      ⟨some 31, none, .ext (.t 27) 1⟩, 
      ⟨some 11, none, .mv (.t 30)⟩, 
      ⟨some 12, none, .mv (.t 31)⟩])
  (.seq (.reg [⟨some 33, none, .mv (.t 0)⟩, 
      ⟨some 34, none, .call 9 [(1, (.t 33))]⟩, 
      ⟨some 32, none, .mv (.t 34)⟩, 
      ⟨some 35, none, .ext (.t 32) 0⟩, 
      ⟨some 36, none, .ext (.t 32) 1⟩, 
      ⟨some 13, none, .mv (.t 35)⟩, 
      ⟨some 14, none, .mv (.t 36)⟩])
  (.seq (.seq (.reg [⟨some 37, none, .mv (.t 7)⟩, 
        ⟨some 38, none, .mv (.t 9)⟩, 
        ⟨some 39, none, .bin .neq (.t 37) (.t 38)⟩, 
        ⟨some 40, none, .mv (.t 39)⟩, 
        ⟨some 41, some (40, false), .mv (.t 8)⟩, 
        ⟨some 42, some (40, false), .mv (.t 10)⟩, 
        ⟨some 43, some (40, false), .bin .neq (.t 41) (.t 42)⟩, 
        ⟨some 44, none, .pick (.t 40) (.k (.b true)) (.t 43)⟩, 
        ⟨some 45, none, .mv (.t 44)⟩, 
        ⟨some 46, some (45, false), .mv (.t 11)⟩, 
        ⟨some 47, some (45, false), .mv (.t 13)⟩, 
        ⟨some 48, some (45, false), .bin .neq (.t 46) (.t 47)⟩, 
        ⟨some 49, none, .pick (.t 45) (.k (.b true)) (.t 48)⟩, 
        ⟨some 50, none, .mv (.t 49)⟩, 
        ⟨some 51, some (50, false), .mv (.t 12)⟩, 
        ⟨some 52, some (50, false), .mv (.t 14)⟩, 
        ⟨some 53, some (50, false), .bin .neq (.t 51) (.t 52)⟩, 
        ⟨some 54, none, .pick (.t 50) (.k (.b true)) (.t 53)⟩, 
        ⟨some 55, none, .mv (.t 54)⟩, 
        ⟨some 56, some (55, false), .mv (.t 2)⟩, 
        ⟨some 57, some (55, false), .call 11 [(1, (.t 56))]⟩, 
        ⟨some 58, some (55, false), .mv (.t 2)⟩, 
        ⟨some 59, some (55, false), .bsl 24 1 1 [(.i .u64 0)] [(0, (.t 58))]⟩, 
        ⟨some 60, some (55, false), .call 12 [(1, (.t 59))]⟩, 
        ⟨some 61, some (55, false), .call 10 [(1, (.t 57)), (1, (.t 60))]⟩, 
        ⟨some 62, some (55, false), .un .not (.t 61)⟩, 
        ⟨some 63, none, .pick (.t 55) (.k (.b true)) (.t 62)⟩])
    (.cond (.t 63)
    (.seq (.reg [⟨some 6, none, .mv (.k (.b false))⟩])
      (.ret))
    (.skip)))
  (.seq (.reg [⟨some 64, none, .mv (.t 0)⟩, 
      ⟨some 65, none, .call 13 [(1, (.t 64))]⟩, 
      ⟨some 66, none, .mv (.t 0)⟩, 
      ⟨some 67, none, .call 12 [(1, (.t 66))]⟩, 
      ⟨some 68, none, .call 10 [(1, (.t 65)), (1, (.t 67))]⟩, 
      ⟨some 69, none, .mv (.t 68)⟩, 
      ⟨some 70, some (69, true), .mv (.t 0)⟩, 
      ⟨some 71, some (69, true), .call 14 [(1, (.t 70))]⟩, 
      ⟨some 72, some (69, true), .mv (.t 0)⟩, 
      ⟨some 73, some (69, true), .call 15 [(1, (.t 72))]⟩, 
      ⟨some 74, some (69, true), .eqb false (.t 71) (.t 73)⟩, 
      ⟨some 75, none, .pick (.t 69) (.t 74) (.k (.b false))⟩, 
      ⟨some 76, none, .mv (.t 75)⟩, 
      ⟨some 77, some (76, true), .mv (.t 0)⟩, 
      ⟨some 78, some (76, true), .call 16 [(1, (.t 77))]⟩, 
      ⟨some 79, some (76, true), .mv (.t 0)⟩, 
      ⟨some 80, some (76, true), .call 17 [(1, (.t 79))]⟩, 
      ⟨some 81, some (76, true), .bin .eql (.t 78) (.t 80)⟩, 
      ⟨some 82, none, .pick (.t 76) (.t 81) (.k (.b false))⟩, 
      ⟨some 83, none, .mv (.t 82)⟩, 
      ⟨some 84, some (83, true), .mv (.t 0)⟩, 
      ⟨some 85, some (83, true), .mv (.t 1)⟩, 
      ⟨some 86, some (83, true), .call 18 [(1, (.t 84)), (1, (.t 85))]⟩, 
      ⟨some 87, some (83, true), .mv (.t 0)⟩, 
      ⟨some 88, some (83, true), .mv (.t 1)⟩, 
      ⟨some 89, some (83, true), .call 19 [(1, (.t 87)), (1, (.t 88))]⟩, 
      ⟨some 90, some (83, true), .eqb false (.t 86) (.t 89)⟩, 
      ⟨some 91, none, .pick (.t 83) (.t 90) (.k (.b false))⟩, 
      ⟨some 92, none, .mv (.t 91)⟩, 
      ⟨some 93, some (92, true), .mv (.t 0)⟩, 
      ⟨some 94, some (92, true), .call 20 [(1, (.t 93))]⟩, 
      ⟨some 95, some (92, true), .mv (.t 0)⟩, 
      ⟨some 96, some (92, true), .call 21 [(1, (.t 95))]⟩, 
      ⟨some 97, some (92, true), .bin .eql (.t 94) (.t 96)⟩, 
      ⟨some 98, none, .pick (.t 92) (.t 97) (.k (.b false))⟩, 
      ⟨some 6, none, .mv (.t 98)⟩])
  (.ret))))))))
theorem natForms_spec (a : List Nat) (i : Int) (w : Nat) (ha : Wd a) (hi : i < 9223372036854775808) (hw : w < 18446744073709551616) (la : a.length ≤ 100000000) : AFun Tryd.prog J0 3 [.l 1 (W a), .i .i64 i, .i .u64 (w : Int)] (.b true) := by
  have p1 := rword_spec a ha (by omega)
  have p2 := nword_spec a ha (by omega)
  have p3 := rsmall_spec a ha (by omega)
  have p4 := nsmall_spec a ha (by omega)
  have p5 := natOf_spec w hw
  have p6 := rnorm_spec [w] (Wd1 hw) (by simp)
  rw [show nv B [w] = w from by simp [nv]] at p6
  have lw := dlen (show w < B ^ 1 by rw [Nat.pow_one]; exact hw)
  have ll := dlen (nv_lt ha)
  have p7 := same_spec (dg B w) (dg B w) (by omega) (by omega)
  have p8 := norm_dg a ha (by omega)
  have p9 := rnorm_spec a ha (by omega)
  have p10 := same_spec (dg B (nv B a)) (dg B (nv B a)) (by omega) (by omega)
  have p11 := isNorm_spec a (by omega)
  have p12 := risNorm_spec a (by omega)
  have p13 := natBits_spec a ha (by omega)
  have p14 := rbits_spec a ha (by omega)
  rw [bl_dg2] at p14
  have p15 := natBit_spec a i ha hi
  have p16 := rbit_spec a i ha (by omega)
  have p17 := twos_spec a ha (by omega)
  have p18 := rtwos_spec a ha (by omega)
  generalize decide (tz a = a) = t at *
  generalize decide (bitV (nv B a) i = 1) = u at *
  generalize wdW (nv B a) = v1 at *
  generalize wdE (nv B a) = v2 at *
  generalize nsV (nv B a) = v3 at *
  generalize nsE (nv B a) = v4 at *
  generalize dg B (nv B a) = v5 at *
  generalize dg B w = v6 at *
  generalize bl (nv B a) = v7 at *
  generalize ct (nv B a) = v8 at *
  refine AFun.mk fol J0s Tryd.func3 rfl (ac := a3) (by kernel_rfl) rfl rfl ?_
  apply vm_start
  unfold a3
  simp only [init_eq, initE]
  have zc4 := nknown_spec
  have zc5 := p1
  have zc6 := p2
  have zc7 := p3
  have zc8 := p4
  have zc9 := p5
  have zc10 := p6
  have zc11 := p7
  have zc12 := p8
  have zc13 := p9
  have zc14 := p10
  have zc15 := p11
  have zc16 := p12
  have zc17 := p13
  have zc18 := p14
  have zc19 := p15
  have zc20 := p16
  have zc21 := p17
  have zc22 := p18
  repeat first | (refine hK _ ?_; clear hK K) | simp only [Sv, ↓reduceIte, Nat.reduceEqDiff] | ((first | refine vm_reg (fun K hK => ?_) | refine vm_dreg (fun K hK => ?_) | refine vm_dregx (fun K hK => ?_) | refine clp_q ?_ | refine clq_mk (by assumption) ?_); simp (disch := (first | omega | assumption)) only [S1, ↓reduceIte, Nat.reduceEqDiff, Nat.reduceAdd, Nat.reduceMul, Nat.reduceDiv, AOp.sb, AOp.mut, ↓Bool.false_eq_true, beq_self_eq_true, ite_self, Nat.reduceLeDiff, Int.reduceEq, Int.reduceSub, Int.reduceAdd, Int.reduceNeg, Int.reduceLT, Int.reduceLE, Nat.reduceLT, bz_LNF, List.length_nil, List.length_cons, W1])
  simp (disch := (first | omega | assumption)) only [retOk, retN, ret1, retF, ret1F, V.okArg, and_true, true_and, S1, ↓reduceIte, Nat.reduceEqDiff, Nat.reduceAdd, Nat.reduceMul, Nat.reduceDiv, AOp.sb, AOp.mut, ↓Bool.false_eq_true, beq_self_eq_true, ite_self, Nat.reduceLeDiff, Int.reduceEq, Int.reduceSub, Int.reduceAdd, Int.reduceNeg, Int.reduceLT, Int.reduceLE, Nat.reduceLT, bz_LNF, List.length_nil, List.length_cons, W1]
end Go.Proofs.YtjcmhoiabakclaaDoor
