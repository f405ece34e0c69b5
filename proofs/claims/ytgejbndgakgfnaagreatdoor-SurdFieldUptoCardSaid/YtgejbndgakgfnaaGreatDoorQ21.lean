/-
  Rows by a word, all of them; half way between; the least power of two that is finer.
-/
import Derived.Test.YtgejbndgakgfnaaGreatDoorQ20
import Derived.Test.YtgejbndgakgfnaaGreatDoorMA
namespace Go.Proofs.YtgejbndgakgfnaaGreatDoor
open Go Go.RowKit Ab
set_option linter.unusedSimpArgs false
set_option linter.unusedVariables false
set_option maxHeartbeats 10000000
theorem bz_Q21 : type_of% (And.intro @W_len (And.intro @D_len (And.intro @Nat.div_one (And.intro @Nat.mul_one (And.intro @tn_nat (And.intro @W_nf (And.intro @D_nf (And.intro @W_nil (And.intro @D_nil (And.intro @wi (And.intro @nf_g (And.intro @Bool.false_and (@W_cell))))))))))))) := And.intro @W_len (And.intro @D_len (And.intro @Nat.div_one (And.intro @Nat.mul_one (And.intro @tn_nat (And.intro @W_nf (And.intro @D_nf (And.intro @W_nil (And.intro @D_nil (And.intro @wi (And.intro @nf_g (And.intro @Bool.false_and (@W_cell))))))))))))
def a56 : AC := .seq (.reg [qr 4 (.mv (.k .nl))])
 (.seq (.reg [qm 8 0,
 qm 9 1,
 qr 10 (.call 73 [(1, (.t 8)), (1, (.t 9)), (1, (.k (.i .u64 0)))]),
 qm 7 10,
 qr 11 (.ext (.t 7) 0),
 qr 12 (.ext (.t 7) 1),
 qm 5 11,
 qm 6 12])
 (.seq (.reg [qm 13 5,
 qm 14 6,
 qr 15 (.bsl 33 1 1 [(.i .u64 0)] [(0, (.t 14))]),
 qr 16 (.app 33 1 8 (.t 13) (.t 15)),
 qr 17 (.call 58 [(1, (.t 16))]),
 qm 4 17])
 (.ret)))
theorem mtimes_spec (a : List Nat) (w : Nat) (ha : Wd a) (hw : w < 18446744073709551616) (la : a.length ≤ 1000000000) : AFun Tryz.prog J0 56 [.l 1 (W a), .i .u64 (w : Int)] (.o 33 1 (W (dg B (nv B a * w)))) := by
  have h1 := mulAdd_spec a w 0 ha hw (by decide) (by omega)
  rw [Nat.add_zero] at h1
  have hlt : nv B a * w / B ^ a.length < B := by
    have := ma_lt ha hw (show 0 < B by decide) a.length
    rwa [List.take_length, Nat.add_zero] at this
  have hb : nv B a * w < B ^ (a.length + 1) := by
    rw [Nat.pow_succ, Nat.mul_comm _ B]
    exact (Nat.div_lt_iff_lt_mul (Nat.pow_pos B0)).1 hlt
  have h2 := trim_spec (fl B (a.length + 1) (nv B a * w)) (by rw [fl_len]; omega)
  rw [dg_fl B2 hb] at h2
  have e : fl B (a.length + 1) (nv B a * w) = fl B a.length (nv B a * w) ++ [nv B a * w / B ^ a.length] := by rw [fl_succ, Nat.mod_eq_of_lt hlt]
  have lf := fl_len (b := B) a.length (nv B a * w)
  rw [e] at h2
  generalize nv B a * w / B ^ a.length = top at *
  generalize nv B a * w = v at *
  generalize fl B a.length v = f at *
  refine mkQ fol J0s Tryz.func56 a56 ?_
  unfold a56
  simp only [init_eq, initE, qm, qr, qn]
  repeat first | (refine hK _ ?_; clear hK K) | simp only [Sv, ↓reduceIte, Nat.reduceEqDiff] | ((first | refine vm_reg (fun K hK => ?_) | refine vm_dreg (fun K hK => ?_) | refine vm_dregx (fun K hK => ?_) | refine clp_q ?_ | refine clq_mk (by assumption) ?_ | refine mcq_q ?_ | (apply mcr_mk; assumption)); simp (disch := (first | omega | assumption)) only [S1, ↓reduceIte, Nat.reduceEqDiff, Nat.reduceAdd, Nat.reduceMul, Nat.reduceDiv, AOp.sb, AOp.mut, frzf, ↓Bool.false_eq_true, beq_self_eq_true, ite_self, Nat.reduceLeDiff, Int.reduceEq, Int.reduceSub, Int.reduceAdd, Int.reduceNeg, Int.reduceLT, Int.reduceLE, Nat.reduceLT, bz_Q21, lf, W_app1])
  simp (disch := (first | omega | assumption)) only [retOk, retN, ret1, retF, ret1F, V.okArg, and_true, true_and, S1, ↓reduceIte, Nat.reduceEqDiff, Nat.reduceAdd, Nat.reduceMul, Nat.reduceDiv, AOp.sb, AOp.mut, frzf, ↓Bool.false_eq_true, beq_self_eq_true, ite_self, Nat.reduceLeDiff, Int.reduceEq, Int.reduceSub, Int.reduceAdd, Int.reduceNeg, Int.reduceLT, Int.reduceLE, Nat.reduceLT, bz_Q21, lf, W_app1]
def a35 : AC := .seq (.reg [qr 2 (.bx 27 (.t 0)),
 qr 3 (.bx 27 (.t 1)),
 qr 4 (.al 27 [(.b false), (.l 1 []), (.l 1 [])]),
 qr 5 (.mv (.k (.i .i64 0)))])
 (.seq (.reg [qr 9 (.ld true 3 (.t 2)),
 qr 10 (.ld true 3 (.t 3)),
 qr 11 (.call 11 [(1, (.t 9)), (1, (.t 10))]),
 qm 8 11,
 qr 12 (.ext (.t 8) 0),
 qr 13 (.ext (.t 8) 1),
 qr 6 (.al 27 [(.b false), (.l 1 []), (.l 1 [])]),
 qn (.st 3 (.t 6) (.t 12)),
 qm 7 13])
 (.seq (.seq (.reg [qm 14 7,
 qr 15 (.bin .neq (.t 14) (.k (.i .i64 0)))])
 (.cond (.t 15)
 (.seq (.reg [qr 16 (.bld [(.b false), (.l 1 []), (.l 1 [])] []),
 qm 17 7,
 qn (.st 3 (.t 4) (.t 16)),
 qm 5 17])
 (.ret))
 (.skip)))
 (.seq (.dreg [qr 18 (.fad 0 (.t 6)),
 qr 19 (.ld true 2 (.t 18)),
 qr 20 (.fad 2 (.t 6)),
 qr 21 (.ld false 1 (.t 20)),
 qr 22 (.call 56 [(1, (.t 21)), (1, (.k (.i .u64 2)))]),
 qr 23 (.call 24 [(1, (.t 19)), (1, (.t 22))]),
 qn (.st 3 (.t 4) (.t 23)),
 qr 5 (.mv (.k (.i .i64 0)))])
 (.ret))))
theorem qmid_spec (s t : Bool) (a b d e : List Nat) (m : Nat) (hm : m ≤ 10000000) (ha : Wd a) (hb : Wd b) (hd : Wd d) (he : Wd e) (la : a.length ≤ m) (lb : b.length ≤ m) (ld : d.length ≤ m) (le : e.length ≤ m) :
    AFun Tryz.prog J0 35 [rL s a d, rL t b e] (.t [rv (zv s a * (nv B e : Int) + zv t b * (nv B d : Int)) (nv B d * nv B e * 2), .i .i64 (re (nv B d * nv B e * 2))]) := by
  have h1 := qadd_spec s t a b d e m hm ha hb hd he la lb ld le
  have bS : (zv s a * (nv B e : Int) + zv t b * (nv B d : Int)).natAbs < B ^ (m + m + 1) := Nat.lt_of_le_of_lt (Int.natAbs_add_le _ _) (padd (mul_lt (zv_lt ha la) (nvlt he le)) (mul_lt (zv_lt hb lb) (nvlt hd ld)))
  have bD : nv B d * nv B e < B ^ (m + m) := mulN_lt (nvlt hd ld) (nvlt he le)
  generalize zv s a * (nv B e : Int) + zv t b * (nv B d : Int) = S at *
  generalize nv B d * nv B e = D0 at *
  by_cases h0 : D0 = 0
  · subst h0
    rw [rv_0, re_0] at h1
    rw [Nat.zero_mul, rv_0, re_0]
    refine mkcQ fol J0s Tryz.func35 a35 [.c 4 true 3, .t 5] ?_
    unfold a35
    simp only [init_eq, initE, qm, qr, qn]
    exact wcQ @bz_Q21
  · rw [rv_p _ h0, re_p h0] at h1
    have h02 : D0 * 2 ≠ 0 := by omega
    rw [rv_p _ h02, re_p h02]
    have bx : (rz S D0).natAbs < B ^ (m + m + 1) := Nat.lt_of_le_of_lt (rz_le' _ _) bS
    have by' : rden S D0 < B ^ (m + m) := Nat.lt_of_le_of_lt (rden_le _ _) bD
    have b2 : rden S D0 * 2 < B ^ (m + m + 1) := by rw [Nat.mul_two]; exact padd by' by'
    have t1 := (mtimes_spec (dg B (rden S D0)) 2 (Wd_dg _) (by decide) (Nat.le_trans (dlen by') (by omega))).frozen
    rw [nv_dgB] at t1
    have r1 := qred_spec (decide (rz S D0 < 0)) (dg B (rz S D0).natAbs) (dg B (rden S D0 * 2)) (m + m + 1) (by omega) (Wd_dg _) (Wd_dg _) (dlen bx) (dlen b2) (by rw [nv_dgB]; have := rden_pos (z := S) h0; omega)
    have e1 : rz (rz S D0) (rden S D0 * 2) = rz S (D0 * 2) ∧ rden (rz S D0) (rden S D0 * 2) = rden S (D0 * 2) := by
      have g0 := rG_pos (z := S) h0
      have k1 := rz_scale (z := rz S D0) (d := rden S D0 * 2) g0
      have k2 := rden_scale (z := rz S D0) (d := rden S D0 * 2) g0
      rw [rz_back, Nat.mul_right_comm, rden_back] at k1 k2
      exact ⟨k1.symm, k2.symm⟩
    rw [zv_N, nv_dgB, e1.1, e1.2] at r1
    generalize rz S (D0 * 2) = x2 at *
    generalize rden S (D0 * 2) = y2 at *
    generalize dg B (rden S D0 * 2) = t2 at *
    generalize rz S D0 = x at *
    generalize rden S D0 = y at *
    refine mkcQ fol J0s Tryz.func35 a35 [.c 4 true 3, .t 5] ?_
    unfold a35
    simp only [init_eq, initE, qm, qr, qn]
    exact wcQ @bz_Q21
end Go.Proofs.YtgejbndgakgfnaaGreatDoor
