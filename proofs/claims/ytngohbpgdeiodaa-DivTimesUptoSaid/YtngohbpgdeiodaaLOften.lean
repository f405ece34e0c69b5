/-
  DivOften: the law's walk.
-/
import Derived.Test.YtngohbpgdeiodaaGH
import Derived.Test.YtngohbpgdeiodaaLKn
namespace Go.Proofs.Ytngohbpgdeiodaa
open Go Go.RowKit Ab
set_option linter.unusedSimpArgs false
set_option linter.unusedVariables false
set_option maxHeartbeats 10000000

theorem ofL_len {u v m : Nat} (h : u < B ^ m) : (ofL u v).length ≤ m := by
  unfold ofL
  split
  · exact Nat.zero_le _
  · rename_i h1
    refine dlen (Nat.lt_of_le_of_lt ?_ h)
    have key : ∀ f x, (oft v f x).2 ≤ x := by
      intro f
      induction f with
      | zero => intro x; exact Nat.le_refl _
      | succ f ih =>
        intro x
        simp only [oft]
        split
        · exact Nat.le_trans (ih (x / v)) (Nat.div_le_self _ _)
        · exact Nat.le_refl _
    exact key u u
-- surd/surdlaw04.DivOften
def a3 : AC := .seq (.reg [⟨some 4, none, .mv (.k (.b false))⟩])
  (.seq (.seq (.reg [⟨some 11, none, .call 11 []⟩, 
        ⟨some 12, none, .un .not (.t 11)⟩])
    (.cond (.t 12)
    (.seq (.reg [⟨some 4, none, .mv (.k (.b false))⟩])
      (.ret))
    (.skip)))
  (.seq (.reg [⟨some 14, none, .mv (.t 0)⟩, 
      ⟨some 15, none, .mv (.t 1)⟩, 
      ⟨some 16, none, .call 12 [(1, (.t 14)), (1, (.t 15))]⟩, 
      ⟨some 13, none, .mv (.t 16)⟩, 
      ⟨some 17, none, .ext (.t 13) 0⟩, 
      ⟨some 18, none, .ext (.t 13) 1⟩, 
      ⟨some 19, none, .ext (.t 13) 2⟩, 
      ⟨some 5, none, .mv (.t 17)⟩, 
      ⟨some 6, none, .mv (.t 18)⟩, 
      ⟨some 7, none, .mv (.t 19)⟩])
  (.seq (.reg [⟨some 21, none, .mv (.t 0)⟩, 
      ⟨some 22, none, .mv (.t 1)⟩, 
      ⟨some 23, none, .call 13 [(1, (.t 21)), (1, (.t 22))]⟩, 
      ⟨some 20, none, .mv (.t 23)⟩, 
      ⟨some 24, none, .ext (.t 20) 0⟩, 
      ⟨some 25, none, .ext (.t 20) 1⟩, 
      ⟨some 26, none, .ext (.t 20) 2⟩, 
      ⟨some 8, none, .mv (.t 24)⟩, 
      ⟨some 9, none, .mv (.t 25)⟩, 
      ⟨some 10, none, .mv (.t 26)⟩])
  (.seq (.reg [⟨some 27, none, .mv (.t 5)⟩, 
      ⟨some 28, none, .mv (.t 8)⟩, 
      ⟨some 29, none, .bin .eql (.t 27) (.t 28)⟩, 
      ⟨some 30, none, .mv (.t 29)⟩, 
      ⟨some 31, some (30, true), .mv (.t 6)⟩, 
      ⟨some 32, some (30, true), .mv (.t 9)⟩, 
      ⟨some 33, some (30, true), .call 14 [(1, (.t 31)), (1, (.t 32))]⟩, 
      ⟨some 34, none, .pick (.t 30) (.t 33) (.k (.b false))⟩, 
      ⟨some 35, none, .mv (.t 34)⟩, 
      ⟨some 36, some (35, true), .mv (.t 7)⟩, 
      ⟨some 37, some (35, true), .mv (.t 10)⟩, 
      ⟨some 38, some (35, true), .bin .eql (.t 36) (.t 37)⟩, 
      ⟨some 39, none, .pick (.t 35) (.t 38) (.k (.b false))⟩, 
      ⟨some 4, none, .mv (.t 39)⟩])
  (.ret)))))
theorem divOften_spec (a b : List Nat) (ha : Wd a) (hb : Wd b) (la : a.length ≤ 100000000) (lb : b.length ≤ 100000000) : AFun Try.prog J0 3 [.l 1 (W a), .l 1 (W b)] (.b true) := by
  have hl := ofL_len (v := nv B b) (nvlt ha la)
  have h1 := roften_spec a b ha hb la lb
  have h2 := often_spec a b ha hb la lb
  have h3 := same_true (rfl : ofL (nv B a) (nv B b) = ofL (nv B a) (nv B b)) (by omega)
  generalize ofL (nv B a) (nv B b) = x at *
  generalize ofE (nv B a) (nv B b) = y at *
  generalize ofN (nv B a) (nv B b) = z at *
  refine AFun.mk fol J0s Try.func3 rfl (ac := a3) (by kernel_rfl) rfl rfl ?_
  apply vm_start
  unfold a3
  simp only [init_eq, initE]
  have zc1 := known_spec
  have zc2 := h1
  have zc3 := h2
  have zc4 := h3
  repeat first | (refine hK _ ?_; clear hK K) | simp only [Sv, ↓reduceIte, Nat.reduceEqDiff] | ((first | refine vm_reg (fun K hK => ?_) | refine vm_dreg (fun K hK => ?_) | refine clp_q ?_ | refine clq_mk (by assumption) ?_); simp (disch := (first | omega | assumption)) only [S1, ↓reduceIte, Nat.reduceEqDiff, Nat.reduceAdd, Nat.reduceMul, Nat.reduceDiv, AOp.sb, AOp.mut, ↓Bool.false_eq_true, beq_self_eq_true, ite_self, Nat.reduceLeDiff, Int.reduceEq, Int.reduceSub, Int.reduceAdd, Int.reduceNeg, Int.reduceLT, Int.reduceLE, Nat.reduceLT, wi, tn_nat, Nat.div_one, Nat.mul_one, W_len, W_nf, W_cell, W_nil, W_get, List.length_nil, List.length_cons])
  simp (disch := (first | omega | assumption)) only [retOk, retN, ret1, retF, ret1F, V.okArg, and_true, true_and, S1, ↓reduceIte, Nat.reduceEqDiff, Nat.reduceAdd, Nat.reduceMul, Nat.reduceDiv, AOp.sb, AOp.mut, ↓Bool.false_eq_true, beq_self_eq_true, ite_self, Nat.reduceLeDiff, Int.reduceEq, Int.reduceSub, Int.reduceAdd, Int.reduceNeg, Int.reduceLT, Int.reduceLE, Nat.reduceLT, wi, tn_nat, Nat.div_one, Nat.mul_one, W_len, W_nf, W_cell, W_nil, W_get, List.length_nil, List.length_cons]
end Go.Proofs.Ytngohbpgdeiodaa
