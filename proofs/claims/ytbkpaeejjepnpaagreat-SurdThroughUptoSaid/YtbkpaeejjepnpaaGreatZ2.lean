/-
  zz: quotients, shifts.
-/
import Derived.Test.YtbkpaeejjepnpaaGreatZ1
namespace Go.Proofs.YtbkpaeejjepnpaaGreat
open Go Go.RowKit Ab
set_option linter.unusedSimpArgs false
set_option linter.unusedVariables false
set_option maxHeartbeats 10000000
theorem bz_Z2 : type_of% (And.intro @Bool.false_and (And.intro @wi (And.intro @tn_nat (And.intro @Nat.div_one (And.intro @Nat.mul_one (And.intro @W_len (And.intro @W_nf (And.intro @W_cell (And.intro @W_nil (And.intro @W_get (@nf_g))))))))))) := And.intro @Bool.false_and (And.intro @wi (And.intro @tn_nat (And.intro @Nat.div_one (And.intro @Nat.mul_one (And.intro @W_len (And.intro @W_nf (And.intro @W_cell (And.intro @W_nil (And.intro @W_get (@nf_g))))))))))
theorem zN_0 : zN 0 = .g [.b false, .l 1 []] := rfl
theorem tdiv_eq (s t : Bool) (u v : Nat) : zI (!(s == t)) (u / v) = (zI s u).tdiv (zI t v) := by
  unfold zI; cases s <;> cases t <;> simp [Int.neg_tdiv, Int.tdiv_neg] <;> rfl
theorem tmod_eq (s t : Bool) (u v : Nat) : zI s (u % v) = (zI s u).tmod (zI t v) := by
  unfold zI; cases s <;> cases t <;> simp [Int.neg_tmod, Int.tmod_neg] <;> rfl
theorem zv_z {s : Bool} {a : List Nat} : zv s a = 0 ↔ nv B a = 0 := by unfold zv zI; cases s <;> simp
def zr (x y : Int) : Int := if y = 0 then 0 else x.tmod y
def a32 : AC := .seq (.reg [qr 2 (.bx 27 (.t 0)),
 qr 3 (.bx 27 (.t 1)),
 qr 4 (.al 27 [(.b false), (.l 1 [])]),
 qr 5 (.mv (.k (.i .i64 0)))])
 (.seq (.reg [qr 9 (.fad 1 (.t 2)),
 qr 10 (.ld false 1 (.t 9)),
 qr 11 (.fad 1 (.t 3)),
 qr 12 (.ld false 1 (.t 11)),
 qr 13 (.call 63 [(1, (.t 10)), (1, (.t 12))]),
 qm 8 13,
 qr 14 (.ext (.t 8) 0),
 qr 15 (.ext (.t 8) 1),
 qm 6 14,
 qm 7 15])
 (.seq (.seq (.reg [qm 16 7,
 qr 17 (.bin .neq (.t 16) (.k (.i .i64 0)))])
 (.cond (.t 17)
 (.seq (.reg [qr 18 (.bld [(.b false), (.l 1 [])] []),
 qm 19 7,
 qn (.st 2 (.t 4) (.t 18)),
 qm 5 19])
 (.ret))
 (.skip)))
 (.seq (.reg [qr 20 (.fad 0 (.t 2)),
 qr 21 (.ld false 1 (.t 20)),
 qr 22 (.fad 0 (.t 3)),
 qr 23 (.ld false 1 (.t 22)),
 qr 24 (.eqb true (.t 21) (.t 23)),
 qm 25 6,
 qr 26 (.call 64 [(1, (.t 24)), (1, (.t 25))]),
 qn (.st 2 (.t 4) (.t 26)),
 qr 5 (.mv (.k (.i .i64 0)))])
 (.ret))))
def zxQ (x y : Int) : Int := if x.tmod y = 0 then x.tdiv y else 0
def zxE (x y : Int) : Int := if y = 0 then 1 else if x.tmod y = 0 then 0 else 4
theorem tmod_z (s t : Bool) (u v : Nat) : (zI s u).tmod (zI t v) = 0 ↔ u % v = 0 := by
  rw [← tmod_eq]; unfold zI; cases s <;> simp <;> omega
theorem zexact_spec (s t : Bool) (a b : List Nat) (ha : Wd a) (hb : Wd b) (la : a.length ≤ 1000000000) (lb : b.length ≤ 1000000000) :
    AFun Tryz.prog J0 32 [zL s a, zL t b] (.t [zN (zxQ (zv s a) (zv t b)), .i .i64 (zxE (zv s a) (zv t b))]) := by
  have hq := exact_spec a b ha hb la lb
  by_cases h0 : nv B b = 0
  · have hz := (zv_z (s := t)).2 h0
    have e : zxQ (zv s a) 0 = 0 := by unfold zxQ; split <;> first | rfl | exact Int.tdiv_zero _
    rw [hz, e, show zxE (zv s a) 0 = 1 from rfl]
    rw [h0, show exQ (nv B a) 0 = [] from rfl, show exE (nv B a) 0 = 1 from rfl] at hq
    refine mkcQ fol J0s Tryz.func32 a32 [.c 4 true 2, .t 5] ?_
    unfold a32
    simp only [init_eq, initE, qm, qr, qn]
    exact wcQ (ai @zN_0 (ai @lnilA @bz_Z2))
  · have hz : zv t b ≠ 0 := fun h => h0 (zv_z.1 h)
    have ht := tmod_z s t (nv B a) (nv B b)
    by_cases h1 : nv B a % nv B b = 0
    · rw [show exQ (nv B a) (nv B b) = dg B (nv B a / nv B b) from (if_neg h0).trans (if_pos h1), show exE (nv B a) (nv B b) = 0 from (if_neg h0).trans (if_pos h1)] at hq
      rw [show zxQ (zv s a) (zv t b) = (zv s a).tdiv (zv t b) from if_pos (ht.2 h1), show zxE (zv s a) (zv t b) = 0 from (if_neg hz).trans (if_pos (ht.2 h1))]
      have h2 := zof_spec (!(s == t)) (nv B a / nv B b)
      rw [tdiv_eq] at h2
      refine mkcQ fol J0s Tryz.func32 a32 [.c 4 true 2, .t 5] ?_
      unfold a32
      simp only [init_eq, initE, qm, qr, qn]
      repeat first | (refine hK _ ?_; clear hK K) | simp only [Sv, ↓reduceIte, Nat.reduceEqDiff] | ((first | refine vm_reg (fun K hK => ?_) | refine vm_dreg (fun K hK => ?_) | refine vm_dregx (fun K hK => ?_) | refine clp_q ?_ | refine clq_mk (by assumption) ?_ | refine mcq_q ?_ | (apply mcr_mk; assumption) | (apply ocr_mk; assumption)); simp (disch := (first | omega | assumption)) only [S1, ↓reduceIte, Nat.reduceEqDiff, Nat.reduceAdd, Nat.reduceMul, Nat.reduceDiv, AOp.sb, AOp.mut, frzf, ↓Bool.false_eq_true, beq_self_eq_true, ite_self, Nat.reduceLeDiff, Int.reduceEq, Int.reduceSub, Int.reduceAdd, Int.reduceNeg, Int.reduceLT, Int.reduceLE, Nat.reduceLT, bz_Z2, List.length_nil, zv])
      simp (disch := (first | omega | assumption)) only [retC, rsVs_nil, rsVs_cons, rsV_t, rsV_c, rsp_pt, rsq_t, rsq_f, ocons_ss, retV_1, retV_2, retNV_nil, retNV_cons, retOk, retN, ret1, retF, ret1F, V.okArg, and_true, true_and, S1, ↓reduceIte, Nat.reduceEqDiff, Nat.reduceAdd, Nat.reduceMul, Nat.reduceDiv, AOp.sb, AOp.mut, frzf, ↓Bool.false_eq_true, beq_self_eq_true, ite_self, Nat.reduceLeDiff, Int.reduceEq, Int.reduceSub, Int.reduceAdd, Int.reduceNeg, Int.reduceLT, Int.reduceLE, Nat.reduceLT, bz_Z2, List.length_nil, zv]
    · rw [show exQ (nv B a) (nv B b) = [] from (if_neg h0).trans (if_neg h1), show exE (nv B a) (nv B b) = 4 from (if_neg h0).trans (if_neg h1)] at hq
      rw [show zxQ (zv s a) (zv t b) = 0 from if_neg (fun h => h1 (ht.1 h)), show zxE (zv s a) (zv t b) = 4 from (if_neg hz).trans (if_neg (fun h => h1 (ht.1 h)))]
      refine mkcQ fol J0s Tryz.func32 a32 [.c 4 true 2, .t 5] ?_
      unfold a32
      simp only [init_eq, initE, qm, qr, qn]
      exact wcQ (ai @zN_0 (ai @lnilA @bz_Z2))
theorem zv_lt {s : Bool} {a : List Nat} {m : Nat} (ha : Wd a) (la : a.length ≤ m) : (zv s a).natAbs < B ^ m := by rw [zv_abs]; exact nvlt ha la
end Go.Proofs.YtbkpaeejjepnpaaGreat
