/-
  The texts R1, R2, R3.
-/
import Derived.Test.YtnjjeephbeoakaaDoorGG
import Derived.Test.YtnjjeephbeoakaaDoorGE
import Derived.Test.YtnjjeephbeoakaaDoorGC
/- R1 -/
namespace Go.Proofs.YtnjjeephbeoakaaDoor
open Go Go.RowKit Ab
set_option linter.unusedSimpArgs false
set_option linter.unusedVariables false
set_option maxHeartbeats 10000000
theorem bz_R1 : type_of% (And.intro @W_len (And.intro @D_len (And.intro @Bl_len (And.intro @Nat.div_one (And.intro @Nat.mul_one (And.intro @tn_nat (And.intro @W_nf (And.intro @D_nf (And.intro @Bl_nf (And.intro @W_nil (And.intro @D_nil (And.intro @Bl_nil (@wi))))))))))))) := And.intro @W_len (And.intro @D_len (And.intro @Bl_len (And.intro @Nat.div_one (And.intro @Nat.mul_one (And.intro @tn_nat (And.intro @W_nf (And.intro @D_nf (And.intro @Bl_nf (And.intro @W_nil (And.intro @D_nil (And.intro @Bl_nil (@wi))))))))))))

theorem D_set (a : List Nat) (i x : Nat) : (D a).set i (.i .i64 (x : Int)) = D (a.set i x) := by simp [D]
theorem Bl_setT (a : List Nat) (i : Nat) : (Bl a).set i (.b true) = Bl (a.set i 1) := by simp [Bl]
theorem mk_Bl (n : Nat) : (List.replicate n [V.b false]).flatten = Bl (List.replicate n 0) := by
  induction n with
  | zero => rfl
  | succ n ih => rw [List.replicate_succ, List.flatten_cons, ih, List.replicate_succ]; rfl
theorem mk_D (n : Nat) : (List.replicate n [V.i .i64 0]).flatten = D (List.replicate n 0) := by
  induction n with
  | zero => rfl
  | succ n ih => rw [List.replicate_succ, List.flatten_cons, ih, List.replicate_succ]; rfl
theorem dg2_len {a : List Nat} (ha : Wd a) : (dg 2 (nv B a)).length ≤ 64 * a.length := dg_len (by decide) (by
  have := nv_lt ha
  rwa [B64, ← Nat.pow_mul] at this)

-- surd/surdref02.Bits
def a6 : AC := .seq (.reg [⟨some 2, none, .mv (.k (.i .i64 0))⟩])
  (.seq (.reg [⟨some 3, none, .mv (.t 0)⟩, 
      ⟨some 4, none, .call 28 [(1, (.t 3))]⟩, 
      ⟨some 5, none, .len (.t 4)⟩, 
      ⟨some 2, none, .mv (.t 5)⟩])
  (.ret))
theorem rbits_spec (a : List Nat) (ha : Wd a) (la : a.length ≤ 10000000000) : AFun Tryd.prog J0 6 [.l 1 (W a)] (.i .i64 (((dg 2 (nv B a)).length : Nat) : Int)) := by
  refine AFun.mk fol J0s Tryd.func6 rfl (ac := a6) (by kernel_rfl) rfl rfl ?_
  apply vm_start
  unfold a6
  simp only [init_eq, initE]
  have zc1 := row_spec a ha la
  repeat first | (refine hK _ ?_; clear hK K) | simp only [Sv, ↓reduceIte, Nat.reduceEqDiff] | ((first | refine vm_reg (fun K hK => ?_) | refine vm_dreg (fun K hK => ?_) | refine vm_dregx (fun K hK => ?_) | refine clp_q ?_ | refine clq_mk (by assumption) ?_); simp (disch := (first | omega | assumption)) only [S1, ↓reduceIte, Nat.reduceEqDiff, Nat.reduceAdd, Nat.reduceMul, Nat.reduceDiv, AOp.sb, AOp.mut, ↓Bool.false_eq_true, beq_self_eq_true, ite_self, Nat.reduceLeDiff, Int.reduceEq, Int.reduceSub, Int.reduceAdd, Int.reduceNeg, Int.reduceLT, Int.reduceLE, Nat.reduceLT, bz_R1])
  simp (disch := (first | omega | assumption)) only [retOk, retN, ret1, retF, ret1F, V.okArg, and_true, true_and, S1, ↓reduceIte, Nat.reduceEqDiff, Nat.reduceAdd, Nat.reduceMul, Nat.reduceDiv, AOp.sb, AOp.mut, ↓Bool.false_eq_true, beq_self_eq_true, ite_self, Nat.reduceLeDiff, Int.reduceEq, Int.reduceSub, Int.reduceAdd, Int.reduceNeg, Int.reduceLT, Int.reduceLE, Nat.reduceLT, bz_R1]
end Go.Proofs.YtnjjeephbeoakaaDoor

/- R2 -/
namespace Go.Proofs.YtnjjeephbeoakaaDoor
open Go Go.RowKit Ab
set_option linter.unusedSimpArgs false
set_option linter.unusedVariables false
set_option maxHeartbeats 10000000
theorem bz_R2 : type_of% (And.intro @wi (And.intro @tn_nat (And.intro @Nat.div_one (And.intro @Nat.mul_one (And.intro @W_len (And.intro @W_nf (And.intro @W_cell (And.intro @W_nil (@W_get))))))))) := And.intro @wi (And.intro @tn_nat (And.intro @Nat.div_one (And.intro @Nat.mul_one (And.intro @W_len (And.intro @W_nf (And.intro @W_cell (And.intro @W_nil (@W_get))))))))

theorem Wd1 {x : Nat} (h : x < 18446744073709551616) : Wd [x] := fun y hy => by rw [List.mem_singleton] at hy; rw [hy]; exact h
/-- the number as a word -/
def wdW (u : Nat) : Nat := if u < 18446744073709551616 then u else 0
def wdE (u : Nat) : Int := if u < 18446744073709551616 then 0 else 13
theorem dg_big {u : Nat} (h : ¬ u < 18446744073709551616) : 1 < (dg B u).length := by
  rcases Nat.lt_or_ge 1 (dg B u).length with h1 | h1
  · exact h1
  · have h2 := nv_lt (Wd_dg u)
    rw [nv_dgB] at h2
    have : B ^ (dg B u).length ≤ B ^ 1 := Nat.pow_le_pow_right (by decide) h1
    rw [Nat.pow_one] at this
    exact absurd (Nat.lt_of_lt_of_le h2 this) h
end Go.Proofs.YtnjjeephbeoakaaDoor

/- R3 -/
namespace Go.Proofs.YtnjjeephbeoakaaDoor
open Go Go.RowKit Ab
set_option linter.unusedSimpArgs false
set_option linter.unusedVariables false
set_option maxHeartbeats 10000000
theorem bz_R3 : type_of% (And.intro @wi (And.intro @tn_nat (And.intro @Nat.div_one (And.intro @Nat.mul_one (And.intro @W_len (And.intro @W_nf (And.intro @W_cell (And.intro @W_nil (@W_get))))))))) := And.intro @wi (And.intro @tn_nat (And.intro @Nat.div_one (And.intro @Nat.mul_one (And.intro @W_len (And.intro @W_nf (And.intro @W_cell (And.intro @W_nil (@W_get))))))))

end Go.Proofs.YtnjjeephbeoakaaDoor
