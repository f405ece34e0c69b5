/-
  zz: quotients, shifts.
-/
import Derived.Test.YtgejbndgakgfnaaGreatDoorZ1
namespace Go.Proofs.YtgejbndgakgfnaaGreatDoor
open Go Go.RowKit Ab
set_option linter.unusedSimpArgs false
set_option linter.unusedVariables false
set_option maxHeartbeats 10000000
theorem bz_Z2 : type_of% (And.intro @Bool.false_and (And.intro @wi (And.intro @tn_nat (And.intro @Nat.div_one (And.intro @Nat.mul_one (And.intro @W_len (And.intro @W_nf (And.intro @W_cell (And.intro @W_nil (And.intro @W_get (@nf_g))))))))))) := And.intro @Bool.false_and (And.intro @wi (And.intro @tn_nat (And.intro @Nat.div_one (And.intro @Nat.mul_one (And.intro @W_len (And.intro @W_nf (And.intro @W_cell (And.intro @W_nil (And.intro @W_get (@nf_g))))))))))
theorem zN_0 : zN 0 = .g [.b false, .l 1 []] := rfl
theorem tdiv_eq (s t : Bool) (u v : Nat) : zI (!(s == t)) (u / v) = (zI s u).tdiv (zI t v) := by
  unfold zI; cases s <;> cases t <;> simp [Int.neg_tdiv, Int.tdiv_neg] <;> rfl
theorem tmod_eq (s t : Bool) (u v : Nat) : zI s (u % v) = (zI s u).tmod (zI t v) := by
  unfold zI; cases s <;> cases t <;> simp [Int.neg_tmod, Int.tmod_neg] <;> rfl
theorem zv_z {s : Bool} {a : List Nat} : zv s a = 0 ↔ nv B a = 0 := by unfold zv zI; cases s <;> simp
def zq (x y : Int) : Int := x.tdiv y
def zr (x y : Int) : Int := if y = 0 then 0 else x.tmod y
def ze (y : Int) : Int := if y = 0 then 1 else 0
theorem zr_0 (x : Int) : zr x 0 = 0 := if_pos rfl
theorem zq_0 (x : Int) : zq x 0 = 0 := Int.tdiv_zero x
theorem zr_p {x y : Int} (h : y ≠ 0) : zr x y = x.tmod y := if_neg h
theorem ze_p {y : Int} (h : y ≠ 0) : ze y = 0 := if_neg h
def a117 : AC := .seq (.reg [qr 2 (.bx 25 (.t 0)),
 qr 3 (.bx 25 (.t 1)),
 qr 4 (.al 25 [(.b false), (.l 1 [])]),
 qr 5 (.al 25 [(.b false), (.l 1 [])]),
 qr 6 (.mv (.k (.i .i64 0)))])
 (.seq (.reg [qr 11 (.fad 1 (.t 2)),
 qr 12 (.ld false 1 (.t 11)),
 qr 13 (.fad 1 (.t 3)),
 qr 14 (.ld false 1 (.t 13)),
 qr 15 (.call 62 [(1, (.t 12)), (1, (.t 14))]),
 qm 10 15,
 qr 16 (.ext (.t 10) 0),
 qr 17 (.ext (.t 10) 1),
 qr 18 (.ext (.t 10) 2),
 qm 7 16,
 qm 8 17,
 qm 9 18])
 (.seq (.seq (.reg [qm 19 9,
 qr 20 (.bin .neq (.t 19) (.k (.i .i64 0)))])
 (.cond (.t 20)
 (.seq (.reg [qr 21 (.bld [(.b false), (.l 1 [])] []),
 qr 22 (.bld [(.b false), (.l 1 [])] []),
 qm 23 9,
 qn (.st 2 (.t 4) (.t 21)),
 qn (.st 2 (.t 5) (.t 22)),
 qm 6 23])
 (.ret))
 (.skip)))
 (.seq (.dreg [qr 24 (.fad 0 (.t 2)),
 qr 25 (.ld false 1 (.t 24)),
 qr 26 (.fad 0 (.t 3)),
 qr 27 (.ld false 1 (.t 26)),
 qr 28 (.eqb true (.t 25) (.t 27)),
 qm 29 7,
 qr 30 (.call 39 [(1, (.t 28)), (1, (.t 29))]),
 qr 31 (.fad 0 (.t 2)),
 qr 32 (.ld false 1 (.t 31)),
 qm 33 8,
 qr 34 (.call 39 [(1, (.t 32)), (1, (.t 33))]),
 qn (.st 2 (.t 4) (.t 30)),
 qn (.st 2 (.t 5) (.t 34)),
 qr 6 (.mv (.k (.i .i64 0)))])
 (.ret))))
theorem zquo_spec (s t : Bool) (a b : List Nat) (ha : Wd a) (hb : Wd b) (la : a.length ≤ 1000000000) (lb : b.length ≤ 1000000000) :
    AFun Tryz.prog J0 117 [zL s a, zL t b] (.t [zN (zq (zv s a) (zv t b)), zN (zr (zv s a) (zv t b)), .i .i64 (ze (zv t b))]) := by
  have hq := quo_spec a b ha hb la lb
  by_cases h0 : nv B b = 0
  · have hz := (zv_z (s := t)).2 h0
    rw [hz, zq_0, zr_0, show ze 0 = 1 from rfl]
    rw [h0, qQ_0, qR_0, qE_0] at hq
    refine mkcQ fol J0s Tryz.func117 a117 [.c 4 true 2, .c 5 true 2, .t 6] ?_
    unfold a117
    simp only [init_eq, initE, qm, qr, qn]
    exact wcQ (ai @zN_0 (ai @lnilA @bz_Z2))
  · have hz : zv t b ≠ 0 := fun h => h0 (zv_z.1 h)
    have hp : 0 < nv B b := by omega
    rw [zr_p hz, ze_p hz]
    rw [qE_p hp, qR_p hp, qQ] at hq
    have h1 := zof_spec (!(s == t)) (nv B a / nv B b)
    have h2 := zof_spec s (nv B a % nv B b)
    rw [tdiv_eq] at h1
    rw [tmod_eq s t] at h2
    refine mkcQ fol J0s Tryz.func117 a117 [.c 4 true 2, .c 5 true 2, .t 6] ?_
    unfold a117
    simp only [init_eq, initE, qm, qr, qn]
    repeat first | (refine hK _ ?_; clear hK K) | simp only [Sv, ↓reduceIte, Nat.reduceEqDiff] | ((first | refine vm_reg (fun K hK => ?_) | refine vm_dreg (fun K hK => ?_) | refine vm_dregx (fun K hK => ?_) | refine clp_q ?_ | refine clq_mk (by assumption) ?_ | refine mcq_q ?_ | (apply mcr_mk; assumption)); simp (disch := (first | omega | assumption)) only [S1, ↓reduceIte, Nat.reduceEqDiff, Nat.reduceAdd, Nat.reduceMul, Nat.reduceDiv, AOp.sb, AOp.mut, frzf, ↓Bool.false_eq_true, beq_self_eq_true, ite_self, Nat.reduceLeDiff, Int.reduceEq, Int.reduceSub, Int.reduceAdd, Int.reduceNeg, Int.reduceLT, Int.reduceLE, Nat.reduceLT, bz_Z2, List.length_nil, zv, zq])
    simp (disch := (first | omega | assumption)) only [retC, rsVs_nil, rsVs_cons, rsV_t, rsV_c, rsp_pt, rsq_t, rsq_f, ocons_ss, retV_1, retV_2, retNV_nil, retNV_cons, retOk, retN, ret1, retF, ret1F, V.okArg, and_true, true_and, S1, ↓reduceIte, Nat.reduceEqDiff, Nat.reduceAdd, Nat.reduceMul, Nat.reduceDiv, AOp.sb, AOp.mut, frzf, ↓Bool.false_eq_true, beq_self_eq_true, ite_self, Nat.reduceLeDiff, Int.reduceEq, Int.reduceSub, Int.reduceAdd, Int.reduceNeg, Int.reduceLT, Int.reduceLE, Nat.reduceLT, bz_Z2, List.length_nil, zv, zq]
theorem zq_abs (x y : Int) : (zq x y).natAbs ≤ x.natAbs := Int.natAbs_tdiv_le_natAbs x y
theorem zr_abs (x y : Int) : (zr x y).natAbs ≤ x.natAbs := by
  unfold zr; split
  · exact Nat.zero_le _
  · rw [Int.natAbs_tmod]; exact Nat.mod_le _ _
theorem zv_lt {s : Bool} {a : List Nat} {m : Nat} (ha : Wd a) (la : a.length ≤ m) : (zv s a).natAbs < B ^ m := by rw [zv_abs]; exact nvlt ha la
theorem zsignN {z : Int} {m : Nat} (hz : z.natAbs < B ^ m) (hm : m ≤ 1000000000) : AFun Tryz.prog J0 37 [zN z] (.i .i64 (sgz z)) := by
  have := zsign_spec (decide (z < 0)) (dg B z.natAbs) (Wd_dg _) (Nat.le_trans (dlen hz) hm)
  rwa [zv_N] at this
theorem zsubN {x y : Int} {m : Nat} (hx : x.natAbs < B ^ m) (hy : y.natAbs < B ^ m) (hm : m ≤ 1000000000) : AFun Tryz.prog J0 118 [zN x, zN y] (zN (x - y)) := by
  have := zsub_spec (decide (x < 0)) (decide (y < 0)) (dg B x.natAbs) (dg B y.natAbs) (Wd_dg _) (Wd_dg _) (Nat.le_trans (dlen hx) hm) (Nat.le_trans (dlen hy) hm)
  rwa [zv_N, zv_N] at this
theorem zabs1 {x : Int} {m : Nat} (h : x.natAbs < B ^ m) : x.natAbs < B ^ (m + 1) := pup h (Nat.le_succ m)
theorem one_lt (m : Nat) : (1 : Int).natAbs < B ^ (m + 1) := by
  have := Nat.pow_le_pow_right (by decide : 0 < B) (Nat.succ_le_succ (Nat.zero_le m))
  rw [Nat.pow_one] at this
  exact Nat.lt_of_lt_of_le (by decide) this
def a97 : AC := .seq (.reg [qr 2 (.bx 25 (.t 0)),
 qr 3 (.bx 25 (.t 1)),
 qr 4 (.al 25 [(.b false), (.l 1 [])]),
 qr 5 (.mv (.k (.i .i64 0)))])
 (.seq (.reg [qr 10 (.ld true 2 (.t 2)),
 qr 11 (.ld true 2 (.t 3)),
 qr 12 (.call 117 [(1, (.t 10)), (1, (.t 11))]),
 qm 9 12,
 qr 13 (.ext (.t 9) 0),
 qr 14 (.ext (.t 9) 1),
 qr 15 (.ext (.t 9) 2),
 qr 6 (.al 25 [(.b false), (.l 1 [])]),
 qr 7 (.al 25 [(.b false), (.l 1 [])]),
 qn (.st 2 (.t 6) (.t 13)),
 qn (.st 2 (.t 7) (.t 14)),
 qm 8 15])
 (.seq (.seq (.reg [qm 16 8,
 qr 17 (.bin .neq (.t 16) (.k (.i .i64 0)))])
 (.cond (.t 17)
 (.seq (.reg [qr 18 (.bld [(.b false), (.l 1 [])] []),
 qm 19 8,
 qn (.st 2 (.t 4) (.t 18)),
 qm 5 19])
 (.ret))
 (.skip)))
 (.seq (.seq (.dreg [qr 20 (.ld true 2 (.t 7)),
 qr 21 (.call 37 [(1, (.t 20))]),
 qr 22 (.bin .neq (.t 21) (.k (.i .i64 0))),
 qm 23 22,
 ⟨some 24, some (23, true), .ld true 2 (.t 2)⟩,
 ⟨some 25, some (23, true), .call 37 [(1, (.t 24))]⟩,
 ⟨some 26, some (23, true), .ld true 2 (.t 3)⟩,
 ⟨some 27, some (23, true), .call 37 [(1, (.t 26))]⟩,
 ⟨some 28, some (23, true), .bin .neq (.t 25) (.t 27)⟩,
 qr 29 (.pick (.t 23) (.t 28) (.k (.b false)))])
 (.cond (.t 29)
 (.dreg [qr 30 (.ld true 2 (.t 6)),
 qr 31 (.call 16 [(1, (.k (.i .i64 1)))]),
 qr 32 (.call 118 [(1, (.t 30)), (1, (.t 31))]),
 qn (.st 2 (.t 6) (.t 32))])
 (.skip)))
 (.seq (.reg [qr 33 (.ld true 2 (.t 6)),
 qn (.st 2 (.t 4) (.t 33)),
 qr 5 (.mv (.k (.i .i64 0)))])
 (.ret)))))
theorem fdiv_eq (x y : Int) (h : y ≠ 0) : x.fdiv y = if x.tmod y ≠ 0 ∧ sgz x ≠ sgz y then x.tdiv y - 1 else x.tdiv y := by
  rw [Int.fdiv_eq_tdiv]
  by_cases hd : y ∣ x
  · rw [if_pos hd, if_neg (fun h => h.1 (Int.tmod_eq_zero_of_dvd hd)), Int.sub_zero]
  · have ht : x.tmod y ≠ 0 := fun h => hd (Int.dvd_of_tmod_eq_zero h)
    have hx0 : x ≠ 0 := fun h0 => hd (h0 ▸ Int.dvd_zero y)
    rw [if_neg hd]
    have e : (x.tmod y ≠ 0 ∧ sgz x ≠ sgz y) = (sgz x ≠ sgz y) := propext ⟨And.right, fun h => ⟨ht, h⟩⟩
    simp only [e]
    generalize x.tdiv y = q
    have sn : ∀ z : Int, z < 0 → sgz z = -1 := fun z h => if_pos h
    have sp : ∀ z : Int, 0 < z → sgz z = 1 := fun z h => (if_neg (by omega)).trans (if_pos h)
    rcases Int.lt_or_gt_of_ne h with hy | hy
    · rw [Int.sign_eq_neg_one_of_neg hy, sn y hy]
      rcases Int.lt_or_gt_of_ne hx0 with h1 | h1
      · rw [sn x h1, if_neg (by omega), if_neg (by omega), if_neg (by decide)]; omega
      · rw [sp x h1, if_pos (by omega), if_neg (by omega), if_pos (by decide)]
    · rw [Int.sign_eq_one_of_pos hy, sp y hy]
      rcases Int.lt_or_gt_of_ne hx0 with h1 | h1
      · rw [sn x h1, if_neg (by omega), if_pos (by omega), if_pos (by decide)]
      · rw [sp x h1, if_pos (by omega), if_pos (by omega), if_neg (by decide)]; omega
theorem zfloor_spec (s t : Bool) (a b : List Nat) (ha : Wd a) (hb : Wd b) (la : a.length ≤ 100000000) (lb : b.length ≤ 100000000) :
    AFun Tryz.prog J0 97 [zL s a, zL t b] (.t [zN ((zv s a).fdiv (zv t b)), .i .i64 (ze (zv t b))]) := by
  have hq := zquo_spec s t a b ha hb (by omega) (by omega)
  have hl := zv_lt (s := s) ha la
  have hl1 := Nat.lt_of_le_of_lt (zq_abs (zv s a) (zv t b)) hl
  have hl2 := Nat.lt_of_le_of_lt (zr_abs (zv s a) (zv t b)) hl
  have hsr := zsignN hl2 (by decide)
  have hsa := zsign_spec s a ha (by omega)
  have hsb := zsign_spec t b hb (by omega)
  have hone := zofn_spec 1 (by decide) (by decide)
  have hsu := zsubN (zabs1 hl1) (one_lt 100000000) (by decide)
  generalize zv s a = x at *
  generalize zv t b = y at *
  by_cases h0 : y = 0
  · subst h0
    rw [zq_0, zr_0, show ze 0 = 1 from rfl] at hq
    rw [Int.fdiv_zero, show ze 0 = 1 from rfl]
    refine mkcQ fol J0s Tryz.func97 a97 [.c 4 true 2, .t 5] ?_
    unfold a97
    simp only [init_eq, initE, qm, qr, qn]
    exact wcQ (ai @zN_0 (ai @lnilA @bz_Z2))
  · rw [fdiv_eq x y h0, ze_p h0]
    rw [ze_p h0] at hq
    have hr : sgz (zr x y) = 0 ↔ x.tmod y = 0 := by
      rw [zr_p h0]; unfold sgz; generalize x.tmod y = z; split
      · omega
      · split <;> omega
    by_cases h1 : x.tmod y = 0
    · have e1 := hr.2 h1
      rw [if_neg (by intro h; exact h.1 h1)]
      rw [e1] at hsr
      refine mkcQ fol J0s Tryz.func97 a97 [.c 4 true 2, .t 5] ?_
      unfold a97
      simp only [init_eq, initE, qm, qr, qn]
      repeat first | (refine hK _ ?_; clear hK K) | simp only [Sv, ↓reduceIte, Nat.reduceEqDiff] | ((first | refine vm_reg (fun K hK => ?_) | refine vm_dreg (fun K hK => ?_) | refine vm_dregx (fun K hK => ?_) | refine clp_q ?_ | refine clq_mk (by assumption) ?_ | refine mcq_q ?_ | (apply mcr_mk; assumption)); simp (disch := (first | omega | assumption)) only [S1, ↓reduceIte, Nat.reduceEqDiff, Nat.reduceAdd, Nat.reduceMul, Nat.reduceDiv, AOp.sb, AOp.mut, frzf, ↓Bool.false_eq_true, beq_self_eq_true, ite_self, Nat.reduceLeDiff, Int.reduceEq, Int.reduceSub, Int.reduceAdd, Int.reduceNeg, Int.reduceLT, Int.reduceLE, Nat.reduceLT, bz_Z2, List.length_nil, zq])
      simp (disch := (first | omega | assumption)) only [retC, rsVs_nil, rsVs_cons, rsV_t, rsV_c, rsp_pt, rsq_t, rsq_f, ocons_ss, retV_1, retV_2, retNV_nil, retNV_cons, retOk, retN, ret1, retF, ret1F, V.okArg, and_true, true_and, S1, ↓reduceIte, Nat.reduceEqDiff, Nat.reduceAdd, Nat.reduceMul, Nat.reduceDiv, AOp.sb, AOp.mut, frzf, ↓Bool.false_eq_true, beq_self_eq_true, ite_self, Nat.reduceLeDiff, Int.reduceEq, Int.reduceSub, Int.reduceAdd, Int.reduceNeg, Int.reduceLT, Int.reduceLE, Nat.reduceLT, bz_Z2, List.length_nil, zq]
    · have e1 : ¬ sgz (zr x y) = 0 := fun h => h1 (hr.1 h)
      by_cases h2 : sgz x = sgz y
      · rw [if_neg (by intro h; exact h.2 h2)]
        rw [← h2] at hsb
        refine mkcQ fol J0s Tryz.func97 a97 [.c 4 true 2, .t 5] ?_
        unfold a97
        simp only [init_eq, initE, qm, qr, qn]
        repeat first | (refine hK _ ?_; clear hK K) | simp only [Sv, ↓reduceIte, Nat.reduceEqDiff] | ((first | refine vm_reg (fun K hK => ?_) | refine vm_dreg (fun K hK => ?_) | refine vm_dregx (fun K hK => ?_) | refine clp_q ?_ | refine clq_mk (by assumption) ?_ | refine mcq_q ?_ | (apply mcr_mk; assumption)); simp (disch := (first | omega | assumption)) only [S1, ↓reduceIte, Nat.reduceEqDiff, Nat.reduceAdd, Nat.reduceMul, Nat.reduceDiv, AOp.sb, AOp.mut, frzf, ↓Bool.false_eq_true, beq_self_eq_true, ite_self, Nat.reduceLeDiff, Int.reduceEq, Int.reduceSub, Int.reduceAdd, Int.reduceNeg, Int.reduceLT, Int.reduceLE, Nat.reduceLT, bz_Z2, List.length_nil, e1, zq])
        simp (disch := (first | omega | assumption)) only [retC, rsVs_nil, rsVs_cons, rsV_t, rsV_c, rsp_pt, rsq_t, rsq_f, ocons_ss, retV_1, retV_2, retNV_nil, retNV_cons, retOk, retN, ret1, retF, ret1F, V.okArg, and_true, true_and, S1, ↓reduceIte, Nat.reduceEqDiff, Nat.reduceAdd, Nat.reduceMul, Nat.reduceDiv, AOp.sb, AOp.mut, frzf, ↓Bool.false_eq_true, beq_self_eq_true, ite_self, Nat.reduceLeDiff, Int.reduceEq, Int.reduceSub, Int.reduceAdd, Int.reduceNeg, Int.reduceLT, Int.reduceLE, Nat.reduceLT, bz_Z2, List.length_nil, e1, zq]
      · rw [if_pos ⟨h1, h2⟩]
        refine mkcQ fol J0s Tryz.func97 a97 [.c 4 true 2, .t 5] ?_
        unfold a97
        simp only [init_eq, initE, qm, qr, qn]
        repeat first | (refine hK _ ?_; clear hK K) | simp only [Sv, ↓reduceIte, Nat.reduceEqDiff] | ((first | refine vm_reg (fun K hK => ?_) | refine vm_dreg (fun K hK => ?_) | refine vm_dregx (fun K hK => ?_) | refine clp_q ?_ | refine clq_mk (by assumption) ?_ | refine mcq_q ?_ | (apply mcr_mk; assumption)); simp (disch := (first | omega | assumption)) only [S1, ↓reduceIte, Nat.reduceEqDiff, Nat.reduceAdd, Nat.reduceMul, Nat.reduceDiv, AOp.sb, AOp.mut, frzf, ↓Bool.false_eq_true, beq_self_eq_true, ite_self, Nat.reduceLeDiff, Int.reduceEq, Int.reduceSub, Int.reduceAdd, Int.reduceNeg, Int.reduceLT, Int.reduceLE, Nat.reduceLT, bz_Z2, List.length_nil, e1, h2, zq])
        simp (disch := (first | omega | assumption)) only [retC, rsVs_nil, rsVs_cons, rsV_t, rsV_c, rsp_pt, rsq_t, rsq_f, ocons_ss, retV_1, retV_2, retNV_nil, retNV_cons, retOk, retN, ret1, retF, ret1F, V.okArg, and_true, true_and, S1, ↓reduceIte, Nat.reduceEqDiff, Nat.reduceAdd, Nat.reduceMul, Nat.reduceDiv, AOp.sb, AOp.mut, frzf, ↓Bool.false_eq_true, beq_self_eq_true, ite_self, Nat.reduceLeDiff, Int.reduceEq, Int.reduceSub, Int.reduceAdd, Int.reduceNeg, Int.reduceLT, Int.reduceLE, Nat.reduceLT, bz_Z2, List.length_nil, e1, h2, zq]
end Go.Proofs.YtgejbndgakgfnaaGreatDoor
