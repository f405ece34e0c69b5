/-
  zz: quotients, shifts.
-/
import Derived.Test.YtihcbbkiifglmaaZ1
namespace Go.Proofs.Ytihcbbkiifglmaa
open Go Go.RowKit Ab
set_option linter.unusedSimpArgs false
set_option linter.unusedVariables false
set_option maxHeartbeats 10000000
theorem bz_Z2 : type_of% (And.intro @Bool.false_and (And.intro @wi (And.intro @tn_nat (And.intro @Nat.div_one (And.intro @Nat.mul_one (And.intro @W_len (And.intro @W_nf (And.intro @W_cell (And.intro @W_nil (And.intro @W_get (@nf_g))))))))))) := And.intro @Bool.false_and (And.intro @wi (And.intro @tn_nat (And.intro @Nat.div_one (And.intro @Nat.mul_one (And.intro @W_len (And.intro @W_nf (And.intro @W_cell (And.intro @W_nil (And.intro @W_get (@nf_g))))))))))

theorem zN_0 : zN 0 = .g [.b false, .l 1 []] := rfl
theorem tdiv_eq (s t : Bool) (u v : Nat) : zI (!(s == t)) (u / v) = (zI s u).tdiv (zI t v) := by
  unfold zI; cases s <;> cases t <;> simp [Int.neg_tdiv, Int.tdiv_neg] <;> rfl
theorem tmod_eq (s t : Bool) (u v : Nat) : zI s (u % v) = (zI s u).tmod (zI t v) := by
  unfold zI; cases s <;> cases t <;> simp [Int.neg_tmod, Int.tmod_neg] <;> rfl
theorem zv_z {s : Bool} {a : List Nat} : zv s a = 0 ↔ nv B a = 0 := by unfold zv zI; cases s <;> simp
/-- quotient, remainder, the code -/
def zq (x y : Int) : Int := x.tdiv y
def zr (x y : Int) : Int := if y = 0 then 0 else x.tmod y
def ze (y : Int) : Int := if y = 0 then 1 else 0
theorem zr_0 (x : Int) : zr x 0 = 0 := if_pos rfl
theorem zq_0 (x : Int) : zq x 0 = 0 := Int.tdiv_zero x
theorem zr_p {x y : Int} (h : y ≠ 0) : zr x y = x.tmod y := if_neg h
theorem ze_p {y : Int} (h : y ≠ 0) : ze y = 0 := if_neg h

-- surd/zz.Exact
def a42 : AC := .seq (.reg [⟨some 2, none, .bx 33 (.t 0)⟩, 
      ⟨some 3, none, .bx 33 (.t 1)⟩, 
      ⟨some 4, none, .al 33 [(.b false), (.l 1 [])]⟩, 
      ⟨some 5, none, .mv (.k (.i .i64 0))⟩])
  (.seq (.reg [⟨some 9, none, .fad 1 (.t 2)⟩, 
      ⟨some 10, none, .ld false 1 (.t 9)⟩, 
      ⟨some 11, none, .fad 1 (.t 3)⟩, 
      ⟨some 12, none, .ld false 1 (.t 11)⟩, 
      ⟨some 13, none, .call 49 [(1, (.t 10)), (1, (.t 12))]⟩, 
      ⟨some 8, none, .mv (.t 13)⟩, 
      ⟨some 14, none, .ext (.t 8) 0⟩, 
      ⟨some 15, none, .ext (.t 8) 1⟩, 
      ⟨some 6, none, .mv (.t 14)⟩, 
      ⟨some 7, none, .mv (.t 15)⟩])
  (.seq (.seq (.reg [⟨some 16, none, .mv (.t 7)⟩, 
        ⟨some 17, none, .bin .neq (.t 16) (.k (.i .i64 0))⟩])
    (.cond (.t 17)
    (.seq (.reg [⟨some 18, none, .bld [(.b false), (.l 1 [])] []⟩, 
          ⟨some 19, none, .mv (.t 7)⟩, 
          ⟨none, none, .st 2 (.t 4) (.t 18)⟩, 
          ⟨some 5, none, .mv (.t 19)⟩])
      (.ret))
    (.skip)))
  (.seq (.reg [⟨some 20, none, .fad 0 (.t 2)⟩, 
      ⟨some 21, none, .ld false 1 (.t 20)⟩, 
      ⟨some 22, none, .fad 0 (.t 3)⟩, 
      ⟨some 23, none, .ld false 1 (.t 22)⟩, 
      ⟨some 24, none, .eqb true (.t 21) (.t 23)⟩, 
      ⟨some 25, none, .mv (.t 6)⟩, 
      ⟨some 26, none, .call 34 [(1, (.t 24)), (1, (.t 25))]⟩, 
      ⟨none, none, .st 2 (.t 4) (.t 26)⟩, 
      ⟨some 5, none, .mv (.k (.i .i64 0))⟩])
  (.ret))))
/-- where nothing is left -/
def zxQ (x y : Int) : Int := if x.tmod y = 0 then x.tdiv y else 0
def zxE (x y : Int) : Int := if y = 0 then 1 else if x.tmod y = 0 then 0 else 4
theorem tmod_z (s t : Bool) (u v : Nat) : (zI s u).tmod (zI t v) = 0 ↔ u % v = 0 := by
  rw [← tmod_eq]; unfold zI; cases s <;> simp <;> omega
theorem zexact_spec (s t : Bool) (a b : List Nat) (ha : Wd a) (hb : Wd b) (la : a.length ≤ 1000000000) (lb : b.length ≤ 1000000000) :
    AFun Try.prog J0 42 [zL s a, zL t b] (.t [zN (zxQ (zv s a) (zv t b)), .i .i64 (zxE (zv s a) (zv t b))]) := by
  have hq := exact_spec a b ha hb la lb
  by_cases h0 : nv B b = 0
  · have hz := (zv_z (s := t)).2 h0
    have e : zxQ (zv s a) 0 = 0 := by unfold zxQ; split <;> first | rfl | exact Int.tdiv_zero _
    rw [hz, e, show zxE (zv s a) 0 = 1 from rfl]
    rw [h0, show exQ (nv B a) 0 = [] from rfl, show exE (nv B a) 0 = 1 from rfl] at hq
    refine AFun.mkc fol J0s Try.func42 rfl (ac := a42) (by kernel_rfl) (rs := [.c 4 true 2, .t 5]) (by kernel_rfl) rfl rfl ?_
    apply vm_start
    unfold a42
    simp only [init_eq, initE]
    have zc1 := hq
    repeat first | (refine hK _ ?_; clear hK K) | simp only [Sv, ↓reduceIte, Nat.reduceEqDiff] | ((first | refine vm_reg (fun K hK => ?_) | refine vm_dreg (fun K hK => ?_) | refine vm_dregx (fun K hK => ?_) | refine clp_q ?_ | refine clq_mk (by assumption) ?_ | refine mcq_q ?_ | (apply mcr_mk; assumption)); simp (disch := (first | omega | assumption)) only [S1, ↓reduceIte, Nat.reduceEqDiff, Nat.reduceAdd, Nat.reduceMul, Nat.reduceDiv, AOp.sb, AOp.mut, ↓Bool.false_eq_true, beq_self_eq_true, ite_self, Nat.reduceLeDiff, Int.reduceEq, Int.reduceSub, Int.reduceAdd, Int.reduceNeg, Int.reduceLT, Int.reduceLE, Nat.reduceLT, bz_Z2, List.length_nil, zN_0])
    simp (disch := (first | omega | assumption)) only [retC, rsVs_nil, rsVs_cons, rsV_t, rsV_c, rsp_pt, rsq_t, rsq_f, ocons_ss, retV_1, retV_2, retNV_nil, retNV_cons, retOk, retN, ret1, retF, ret1F, V.okArg, and_true, true_and, S1, ↓reduceIte, Nat.reduceEqDiff, Nat.reduceAdd, Nat.reduceMul, Nat.reduceDiv, AOp.sb, AOp.mut, ↓Bool.false_eq_true, beq_self_eq_true, ite_self, Nat.reduceLeDiff, Int.reduceEq, Int.reduceSub, Int.reduceAdd, Int.reduceNeg, Int.reduceLT, Int.reduceLE, Nat.reduceLT, bz_Z2, List.length_nil, zN_0]
  · have hz : zv t b ≠ 0 := fun h => h0 (zv_z.1 h)
    have ht := tmod_z s t (nv B a) (nv B b)
    by_cases h1 : nv B a % nv B b = 0
    · rw [show exQ (nv B a) (nv B b) = dg B (nv B a / nv B b) from (if_neg h0).trans (if_pos h1), show exE (nv B a) (nv B b) = 0 from (if_neg h0).trans (if_pos h1)] at hq
      rw [show zxQ (zv s a) (zv t b) = (zv s a).tdiv (zv t b) from if_pos (ht.2 h1), show zxE (zv s a) (zv t b) = 0 from (if_neg hz).trans (if_pos (ht.2 h1))]
      have h2 := zof_spec (!(s == t)) (nv B a / nv B b)
      rw [tdiv_eq] at h2
      refine AFun.mkc fol J0s Try.func42 rfl (ac := a42) (by kernel_rfl) (rs := [.c 4 true 2, .t 5]) (by kernel_rfl) rfl rfl ?_
      apply vm_start
      unfold a42
      simp only [init_eq, initE]
      have zc2 := hq
      have zc3 := h2
      repeat first | (refine hK _ ?_; clear hK K) | simp only [Sv, ↓reduceIte, Nat.reduceEqDiff] | ((first | refine vm_reg (fun K hK => ?_) | refine vm_dreg (fun K hK => ?_) | refine vm_dregx (fun K hK => ?_) | refine clp_q ?_ | refine clq_mk (by assumption) ?_ | refine mcq_q ?_ | (apply mcr_mk; assumption)); simp (disch := (first | omega | assumption)) only [S1, ↓reduceIte, Nat.reduceEqDiff, Nat.reduceAdd, Nat.reduceMul, Nat.reduceDiv, AOp.sb, AOp.mut, ↓Bool.false_eq_true, beq_self_eq_true, ite_self, Nat.reduceLeDiff, Int.reduceEq, Int.reduceSub, Int.reduceAdd, Int.reduceNeg, Int.reduceLT, Int.reduceLE, Nat.reduceLT, bz_Z2, List.length_nil, zv])
      simp (disch := (first | omega | assumption)) only [retC, rsVs_nil, rsVs_cons, rsV_t, rsV_c, rsp_pt, rsq_t, rsq_f, ocons_ss, retV_1, retV_2, retNV_nil, retNV_cons, retOk, retN, ret1, retF, ret1F, V.okArg, and_true, true_and, S1, ↓reduceIte, Nat.reduceEqDiff, Nat.reduceAdd, Nat.reduceMul, Nat.reduceDiv, AOp.sb, AOp.mut, ↓Bool.false_eq_true, beq_self_eq_true, ite_self, Nat.reduceLeDiff, Int.reduceEq, Int.reduceSub, Int.reduceAdd, Int.reduceNeg, Int.reduceLT, Int.reduceLE, Nat.reduceLT, bz_Z2, List.length_nil, zv]
    · rw [show exQ (nv B a) (nv B b) = [] from (if_neg h0).trans (if_neg h1), show exE (nv B a) (nv B b) = 4 from (if_neg h0).trans (if_neg h1)] at hq
      rw [show zxQ (zv s a) (zv t b) = 0 from if_neg (fun h => h1 (ht.1 h)), show zxE (zv s a) (zv t b) = 4 from (if_neg hz).trans (if_neg (fun h => h1 (ht.1 h)))]
      refine AFun.mkc fol J0s Try.func42 rfl (ac := a42) (by kernel_rfl) (rs := [.c 4 true 2, .t 5]) (by kernel_rfl) rfl rfl ?_
      apply vm_start
      unfold a42
      simp only [init_eq, initE]
      have zc4 := hq
      repeat first | (refine hK _ ?_; clear hK K) | simp only [Sv, ↓reduceIte, Nat.reduceEqDiff] | ((first | refine vm_reg (fun K hK => ?_) | refine vm_dreg (fun K hK => ?_) | refine vm_dregx (fun K hK => ?_) | refine clp_q ?_ | refine clq_mk (by assumption) ?_ | refine mcq_q ?_ | (apply mcr_mk; assumption)); simp (disch := (first | omega | assumption)) only [S1, ↓reduceIte, Nat.reduceEqDiff, Nat.reduceAdd, Nat.reduceMul, Nat.reduceDiv, AOp.sb, AOp.mut, ↓Bool.false_eq_true, beq_self_eq_true, ite_self, Nat.reduceLeDiff, Int.reduceEq, Int.reduceSub, Int.reduceAdd, Int.reduceNeg, Int.reduceLT, Int.reduceLE, Nat.reduceLT, bz_Z2, List.length_nil, zN_0])
      simp (disch := (first | omega | assumption)) only [retC, rsVs_nil, rsVs_cons, rsV_t, rsV_c, rsp_pt, rsq_t, rsq_f, ocons_ss, retV_1, retV_2, retNV_nil, retNV_cons, retOk, retN, ret1, retF, ret1F, V.okArg, and_true, true_and, S1, ↓reduceIte, Nat.reduceEqDiff, Nat.reduceAdd, Nat.reduceMul, Nat.reduceDiv, AOp.sb, AOp.mut, ↓Bool.false_eq_true, beq_self_eq_true, ite_self, Nat.reduceLeDiff, Int.reduceEq, Int.reduceSub, Int.reduceAdd, Int.reduceNeg, Int.reduceLT, Int.reduceLE, Nat.reduceLT, bz_Z2, List.length_nil, zN_0]

/-- a size's bound, in words -/
theorem zq_abs (x y : Int) : (zq x y).natAbs ≤ x.natAbs := Int.natAbs_tdiv_le_natAbs x y
theorem zr_abs (x y : Int) : (zr x y).natAbs ≤ x.natAbs := by
  unfold zr; split
  · exact Nat.zero_le _
  · rw [Int.natAbs_tmod]; exact Nat.mod_le _ _
theorem zv_lt {s : Bool} {a : List Nat} {m : Nat} (ha : Wd a) (la : a.length ≤ m) : (zv s a).natAbs < B ^ m := by rw [zv_abs]; exact nvlt ha la
theorem sgzN (z : Int) : sgz (zv (decide (z < 0)) (dg B z.natAbs)) = sgz z := by rw [zv_N]
theorem zsignN {z : Int} {m : Nat} (hz : z.natAbs < B ^ m) (hm : m ≤ 1000000000) : AFun Try.prog J0 28 [zN z] (.i .i64 (sgz z)) := by
  have := zsign_spec (decide (z < 0)) (dg B z.natAbs) (Wd_dg _) (Nat.le_trans (dlen hz) hm)
  rwa [zv_N] at this
theorem zabs1 {x : Int} {m : Nat} (h : x.natAbs < B ^ m) : x.natAbs < B ^ (m + 1) := pup h (Nat.le_succ m)
theorem one_lt (m : Nat) : (1 : Int).natAbs < B ^ (m + 1) := by
  have := Nat.pow_le_pow_right (by decide : 0 < B) (Nat.succ_le_succ (Nat.zero_le m))
  rw [Nat.pow_one] at this
  exact Nat.lt_of_lt_of_le (by decide) this

end Go.Proofs.Ytihcbbkiifglmaa
