/-
  zz: integers: signs, sums, products.
-/
import Derived.Test.YteaiegppmbcibaaGD
import Derived.Lib.Mul64
import Derived.WalkKit
import Derived.Lib.Walk
import Derived.Lib.SliceRun
import Derived.Lib.AppendZerosOnto
import Derived.Test.YteaiegppmbcibaaNM8
import Derived.Test.YteaiegppmbcibaaGG
import Derived.Test.YteaiegppmbcibaaGC
import Derived.Test.YteaiegppmbcibaaRc
namespace Go.Proofs.Yteaiegppmbcibaa
open Go Go.RowKit Ab
set_option linter.unusedSimpArgs false
set_option linter.unusedVariables false
set_option maxHeartbeats 10000000
theorem bz_Z1 : type_of% (And.intro @Bool.false_and (And.intro @wi (And.intro @tn_nat (And.intro @Nat.div_one (And.intro @Nat.mul_one (And.intro @W_len (And.intro @W_nf (And.intro @W_cell (And.intro @W_nil (And.intro @W_get (@nf_g))))))))))) := And.intro @Bool.false_and (And.intro @wi (And.intro @tn_nat (And.intro @Nat.div_one (And.intro @Nat.mul_one (And.intro @W_len (And.intro @W_nf (And.intro @W_cell (And.intro @W_nil (And.intro @W_get (@nf_g))))))))))
def zI (s : Bool) (n : Nat) : Int := if s then -(n : Int) else (n : Int)
abbrev zL (s : Bool) (a : List Nat) : V := .g [.b s, .l 1 (W a)]
abbrev zN (z : Int) : V := .g [.b (decide (z < 0)), .l 1 (W (dg B z.natAbs))]
def zv (s : Bool) (a : List Nat) : Int := zI s (nv B a)
theorem zI_abs (s : Bool) (n : Nat) : (zI s n).natAbs = n := by unfold zI; split <;> omega
theorem zv_abs (s : Bool) (a : List Nat) : (zv s a).natAbs = nv B a := zI_abs s _
theorem zI_neg (s : Bool) (n : Nat) : decide (zI s n < 0) = (s && decide (0 < n)) := by
  unfold zI; cases s
  · simp
  · simp
theorem zN_I (s : Bool) (n : Nat) : zN (zI s n) = .g [.b (s && decide (0 < n)), .l 1 (W (dg B n))] := by
  show V.g [.b (decide (zI s n < 0)), .l 1 (W (dg B (zI s n).natAbs))] = _
  rw [zI_abs, zI_neg]
theorem zv_N (z : Int) : zv (decide (z < 0)) (dg B z.natAbs) = z := by
  unfold zv zI; rw [nv_dgB]
  by_cases h : z < 0
  · simp [h]; omega
  · simp [h]; omega
theorem zI_self (z : Int) : zI (decide (z < 0)) z.natAbs = z := by
  unfold zI
  by_cases h : z < 0
  · simp [h]; omega
  · simp [h]; omega
theorem dg_pos {n : Nat} : ((0 : Int) < (((dg B n).length : Nat) : Int)) = (0 < n) := by
  have h := dg_nil (b := B) B2 (v := n)
  refine propext ⟨fun h1 => ?_, fun h1 => ?_⟩
  · rcases Nat.eq_zero_or_pos n with h2 | h2
    · rw [h.2 h2] at h1; simp at h1
    · exact h2
  · rcases Nat.eq_zero_or_pos (dg B n).length with h2 | h2
    · have := h.1 (List.eq_nil_of_length_eq_zero h2); omega
    · omega
def sgz (z : Int) : Int := if z < 0 then -1 else if 0 < z then 1 else 0
def a65 : AC := .seq (.reg [qr 4 (.al 58 [(.b false), (.l 1 [])])])
 (.seq (.reg [qm 5 0,
 qm 6 5,
 ⟨some 7, some (6, true), .mv (.t 1)⟩,
 ⟨some 8, some (6, true), .len (.t 7)⟩,
 ⟨some 9, some (6, true), .bin .gtr (.t 8) (.k (.i .i64 0))⟩,
 qr 10 (.pick (.t 6) (.t 9) (.k (.b false))),
 qm 11 1,
 qr 12 (.bld [(.b false), (.l 1 [])] [(0, 1, (.t 10)), (1, 1, (.t 11))]),
 qn (.st 2 (.t 4) (.t 12))])
 (.ret))
theorem zof_spec (s : Bool) (n : Nat) : AFun Try.prog J0 65 [.b s, .l 1 (W (dg B n))] (zN (zI s n)) := by
  rw [zN_I]
  refine mkcQ fol J0s Try.func65 a65 [.c 4 true 2] ?_
  unfold a65
  simp only [init_eq, initE, qm, qr, qn]
  cases s
  · refine spQ (ai @lnilA @bz_Z1) ?_
    exact rcQ (ai @lnilA @bz_Z1)
  · by_cases h : 0 < n
    · have e : decide (0 < n) = true := decide_eq_true h
      rw [e]
      refine spQ (ai @h (ai @dg_pos (ai @lnilA @bz_Z1))) ?_
      exact rcQ (ai @lnilA @bz_Z1)
    · have e : decide (0 < n) = false := decide_eq_false h
      rw [e]
      refine spQ (ai @h (ai @dg_pos (ai @lnilA @bz_Z1))) ?_
      exact rcQ (ai @lnilA @bz_Z1)
def a53 : AC := .seq (.reg [qr 1 (.bx 58 (.t 0)),
 qr 2 (.al 58 [(.b false), (.l 1 [])])])
 (.seq (.dreg [qr 3 (.fad 0 (.t 1)),
 qr 4 (.ld false 1 (.t 3)),
 qr 5 (.fad 1 (.t 1)),
 qr 6 (.ld false 1 (.t 5)),
 qr 7 (.call 66 [(1, (.t 6))]),
 qr 8 (.call 65 [(1, (.t 4)), (1, (.t 7))]),
 qn (.st 2 (.t 2) (.t 8))])
 (.ret))
theorem znorm_spec (s : Bool) (a : List Nat) (ha : Wd a) (la : a.length ≤ 1000000000) : AFun Try.prog J0 53 [zL s a] (zN (zv s a)) := by
  have h1 := (norm_dg a ha (by omega)).frozen
  have h2 := zof_spec s (nv B a)
  refine mkcQ fol J0s Try.func53 a53 [.c 2 true 2] ?_
  unfold a53
  simp only [init_eq, initE, qm, qr, qn]
  repeat first | (refine hK _ ?_; clear hK K) | simp only [Sv, ↓reduceIte, Nat.reduceEqDiff] | ((first | refine vm_reg (fun K hK => ?_) | refine vm_dreg (fun K hK => ?_) | refine vm_dregx (fun K hK => ?_) | refine clp_q ?_ | refine clq_mk (by assumption) ?_ | refine mcq_q ?_ | (apply mcr_mk; assumption) | (apply ocr_mk; assumption)); simp (disch := (first | omega | assumption)) only [S1, ↓reduceIte, Nat.reduceEqDiff, Nat.reduceAdd, Nat.reduceMul, Nat.reduceDiv, AOp.sb, AOp.mut, frzf, ↓Bool.false_eq_true, beq_self_eq_true, ite_self, Nat.reduceLeDiff, Int.reduceEq, Int.reduceSub, Int.reduceAdd, Int.reduceNeg, Int.reduceLT, Int.reduceLE, Nat.reduceLT, bz_Z1, List.length_nil, zv])
  simp (disch := (first | omega | assumption)) only [retC, rsVs_nil, rsVs_cons, rsV_t, rsV_c, rsp_pt, rsq_t, rsq_f, ocons_ss, retV_1, retV_2, retNV_nil, retNV_cons, retOk, retN, ret1, retF, ret1F, V.okArg, and_true, true_and, S1, ↓reduceIte, Nat.reduceEqDiff, Nat.reduceAdd, Nat.reduceMul, Nat.reduceDiv, AOp.sb, AOp.mut, frzf, ↓Bool.false_eq_true, beq_self_eq_true, ite_self, Nat.reduceLeDiff, Int.reduceEq, Int.reduceSub, Int.reduceAdd, Int.reduceNeg, Int.reduceLT, Int.reduceLE, Nat.reduceLT, bz_Z1, List.length_nil, zv]
def a64 : AC := .seq (.reg [qr 1 (.bx 58 (.t 0)),
 qr 2 (.mv (.k (.i .i64 0)))])
 (.seq (.seq (.reg [qr 4 (.ld true 2 (.t 1)),
 qr 5 (.call 53 [(1, (.t 4))]),
 qr 3 (.al 58 [(.b false), (.l 1 [])]),
 qn (.st 2 (.t 3) (.t 5))])
 (.blk 0
 (.seq (.reg [qr 7 (.fad 0 (.t 3)),
 qr 8 (.ld false 1 (.t 7)),
 qm 6 8])
 (.cond (.t 6)
 (.seq (.reg [qr 2 (.mv (.k (.i .i64 (-1))))])
 (.ret))
 (.seq (.reg [qr 10 (.fad 1 (.t 3)),
 qr 11 (.ld false 1 (.t 10)),
 qr 12 (.len (.t 11)),
 qr 13 (.bin .gtr (.t 12) (.k (.i .i64 0))),
 qm 9 13])
 (.cond (.t 9)
 (.seq (.reg [qr 2 (.mv (.k (.i .i64 1)))])
 (.ret))
 (.skip)))))))
 (.seq (.reg [qr 2 (.mv (.k (.i .i64 0)))])
 (.ret)))
theorem zsign_spec (s : Bool) (a : List Nat) (ha : Wd a) (la : a.length ≤ 1000000000) : AFun Try.prog J0 64 [zL s a] (.i .i64 (sgz (zv s a))) := by
  have h1 := znorm_spec s a ha la
  have hp := dg_pos (n := (zv s a).natAbs)
  generalize zv s a = z at *
  refine mkQ fol J0s Try.func64 a64 ?_
  unfold a64
  simp only [init_eq, initE, qm, qr, qn]
  by_cases h : z < 0
  · rw [show sgz z = -1 from if_pos h]
    exact wdQ (ai @h (ai @lnilA @bz_Z1))
  · by_cases h0 : 0 < z
    · have e : 0 < z.natAbs := by omega
      rw [show sgz z = 1 from (if_neg h).trans (if_pos h0)]
      exact wdQ (ai @e (ai @hp (ai @h (ai @lnilA @bz_Z1))))
    · have e : ¬ 0 < z.natAbs := by omega
      rw [show sgz z = 0 from (if_neg h).trans (if_neg h0)]
      exact wdQ (ai @e (ai @hp (ai @h (ai @lnilA @bz_Z1))))
theorem zadd_eq (s t : Bool) (u v : Nat) : (s = t → zI s (u + v) = zI s u + zI t v) ∧ (s ≠ t → zI (!(s == decide (u < v))) (if u < v then v - u else u - v) = zI s u + zI t v) := by
  unfold zI
  refine ⟨fun h => ?_, fun h => ?_⟩
  · subst h; cases s <;> simp <;> omega
  · by_cases h2 : u < v
    · cases s <;> cases t <;> simp [h2] at h ⊢ <;> omega
    · cases s <;> cases t <;> simp [h2] at h ⊢ <;> omega
theorem zmul_eq (s t : Bool) (u v : Nat) : zI (!(s == t)) (u * v) = zI s u * zI t v := by
  unfold zI; cases s <;> cases t <;> simp [Int.natCast_mul, Int.neg_mul, Int.mul_neg]
end Go.Proofs.Yteaiegppmbcibaa
