/-
  evals: the polynomial through points, out of roots.
-/
import Derived.Test.YtbkpaeejjepnpaaGreatVP2
namespace Go.Proofs.YtbkpaeejjepnpaaGreat
open Go Go.RowKit Ab
set_option linter.unusedSimpArgs false
set_option linter.unusedVariables false
set_option maxHeartbeats 10000000
theorem bz_VP3 : type_of% (And.intro @W_len (And.intro @D_len (And.intro @Nat.div_one (And.intro @Nat.mul_one (And.intro @tn_nat (And.intro @W_nf (And.intro @D_nf (And.intro @W_nil (And.intro @D_nil (And.intro @wi (And.intro @nf_g (And.intro @Bool.false_and (And.intro @W_cell (@RC_nf)))))))))))))) := And.intro @W_len (And.intro @D_len (And.intro @Nat.div_one (And.intro @Nat.mul_one (And.intro @tn_nat (And.intro @W_nf (And.intro @D_nf (And.intro @W_nil (And.intro @D_nil (And.intro @wi (And.intro @nf_g (And.intro @Bool.false_and (And.intro @W_cell (@RC_nf)))))))))))))
theorem Fq_one {d : Nat} (h : d ≠ 0) : Fq 1 d d := ⟨(d : Int), by
  have := ratE h
  rw [Rat.intCast_natCast]; grind, by simp⟩
theorem Fq_neg {x : Rat} {E M : Nat} (h : Fq x E M) : Fq (-x) E M := by
  obtain ⟨N, h1, h2⟩ := h
  exact ⟨-N, by rw [h1, Rat.intCast_neg]; simp only [Rat.div_def]; grind, by rw [Int.natAbs_neg]; exact h2⟩
theorem pmul_line {B' : List Rat} {P M d X m : Nat} {x : Rat} (hx : Sx' x d X) (tB : tzq B' = B') (lB : B'.length ≤ 900) (hB : PB B' P M) (hm : m ≤ 48000000) (h1 : P < B ^ m) (h2 : M < B ^ m) (h3 : X < B ^ m) (hcR : Cq (linr x 0 B') 49000000) :
    AFun Tryz.prog J0 13 [.l 3 (RC (nfq B')), .l 3 (RC (nfq [-x, 1]))] (.t [.l 3 (RC (nfq (nwB B' x))), .i .i64 0]) := by
  have hL : PB [-x, 1] d X := ⟨hx.d0, fun i => by
    match i with
    | 0 => exact Fq_neg hx.hx
    | 1 => exact Fq_le (Fq_one hx.d0) hx.dX
    | i + 2 => simp; exact Fq_zero⟩
  have tL : tzq [-x, 1] = [-x, 1] := by
    have h : (1 : Rat) ≠ 0 := by decide
    have h2 : tzq [(1 : Rat)] = [1] := by decide +kernel
    show (if -x = 0 ∧ tzq [(1 : Rat)] = [] then [] else -x :: tzq [(1 : Rat)]) = _
    rw [h2]; simp
  have hd : d < B ^ m := Nat.lt_of_le_of_lt hx.dX h3
  have bo := pboth_spec (nfq B') (nfq [-x, 1]) m hm (by rw [nfq_len]; omega) (by rw [nfq_len]; simp) (Qk_nfq (PB_Cq hB h1 h2)) (Qk_nfq (PB_Cq hL hd h3))
  rw [qcs_nfq, qcs_nfq, tB, tL] at bo
  exact pmul_spec (nfq B') (nfq [-x, 1]) B' [-x, 1] (linr x 0 B') P M d X m hm tB tL (by omega) (by simp) hB hL h1 h2 hd h3 hcR (fun i => by
    rw [linr_cf, cvq_two (fun u hu => by
      match u, hu with
      | u + 2, _ => simp)]
    show (if i = 0 then 0 else B'.getD (i - 1) 0) - x * B'.getD i 0 = (if i = 0 then 0 else B'.getD (i - 1) 0 * 1) + B'.getD i 0 * -x
    split <;> grind) bo
theorem rq2 : nwB [1] 2 = [-2, 1] := by decide +kernel
theorem s2 : Sx' (2 : Rat) 1 2 := ⟨by decide, by decide, 2, by decide +kernel, by decide⟩
def a24 : AC := .seq (.reg [qr 2 (.mv (.k .nl)),
 qr 3 (.mv (.k (.i .i64 0)))])
 (.seq (.seq (.reg [qm 7 0,
 qr 8 (.call 53 [(3, (.t 7))]),
 qr 9 (.un .not (.t 8))])
 (.cond (.t 9)
 (.seq (.reg [qr 2 (.mv (.k .nl)),
 qr 3 (.mv (.k (.i .i64 1)))])
 (.ret))
 (.skip)))
 (.seq (.reg [qr 10 (.call 54 [(1, (.k (.i .i64 1)))]),
 qr 11 (.bsl 31 3 1 [(.b false), (.l 1 []), (.l 1 [])] [(0, (.t 10))]),
 qm 4 11])
 (.seq (.seq (.reg [qm 12 0,
 qr 13 (.len (.t 12)),
 qr 14 (.mv (.k (.i .i64 0)))])
 (.blk 0
 (.loop
 (.seq (.reg [qr 15 (.bin .lss (.t 14) (.t 13))])
 (.seq (.cond (.t 15)
 (.skip)
 (.exit 0))
 (.seq (.blk 1
 (.seq (.reg [qr 16 (.idx 3 (.t 12) (.t 14)),
 qr 17 (.ld true 3 (.t 16)),
 qr 6 (.al 31 [(.b false), (.l 1 []), (.l 1 [])]),
 qn (.st 3 (.t 6) (.t 17))])
 (.reg [qm 19 4,
 qr 20 (.ld true 3 (.t 6)),
 qr 21 (.call 55 [(1, (.t 20))]),
 qr 22 (.call 13 [(3, (.t 19)), (3, (.t 21))]),
 qm 18 22,
 qr 23 (.ext (.t 18) 0),
 qr 24 (.ext (.t 18) 1),
 qm 4 23])))
 (.reg [qr 25 (.bin .add (.t 14) (.k (.i .i64 1))),
 qm 14 25])))))))
 (.seq (.reg [qm 26 4,
 qm 2 26,
 qr 3 (.mv (.k (.i .i64 0)))])
 (.ret)))))
theorem froots2 : AFun Tryz.prog J0 24 [.l 3 (RC (nfq [2]))] (.t [.l 3 (RC (nfq [-2, 1])), .i .i64 0]) := by
  have c2' : Cq [(2 : Rat)] 1 := fun i => by
    match i with
    | 0 => exact ⟨by decide +kernel, by decide +kernel⟩
    | i + 1 => exact ⟨by simp; decide, by simp; decide⟩
  have g := egood_spec (nfq [2]) 1 (by decide) (by decide) (Qk_nfq c2')
  have w1 := ewhole_spec 1 (by decide) (by decide)
  rw [rat_1] at w1
  have one : PB [(1 : Rat)] 1 1 := ⟨by decide, fun i => by
    match i with
    | 0 => exact Fq_one (by decide)
    | i + 1 => simp; exact Fq_zero⟩
  have mu := pmul_line s2 (show tzq [(1 : Rat)] = [1] by decide +kernel) (by decide) one (m := 1) (by decide) (by decide) (by decide) (by decide) (Cq_up (m := 1) (fun i => by
    rw [show linr 2 0 [(1 : Rat)] = [-2, 1] from by decide +kernel]
    match i with
    | 0 => exact ⟨by decide +kernel, by decide +kernel⟩
    | 1 => exact ⟨by decide +kernel, by decide +kernel⟩
    | i + 2 => exact ⟨by simp; decide, by simp; decide⟩) (by omega))
  rw [rq2] at mu
  have li := line_spec (nqp 2).1 (nqp 2).2.1 (nqp 2).2.2 1 (by decide) (Wd_dg _) (Wd_dg _) (by decide +kernel) (by decide +kernel) (by decide +kernel)
  rw [show mkRat (zv (nqp 2).1 (nqp 2).2.1) (nv B (nqp 2).2.2) = 2 from qvp_nqp 2] at li
  have r0 : RC (nfq [(1 : Rat)]) = [.b (decide ((1 : Rat).num < 0)), .l 1 (W (dg B (1 : Rat).num.natAbs)), .l 1 (W (dg B (1 : Rat).den))] := rfl
  have r2 : RC (nfq [(2 : Rat)]) = [.b (nqp 2).1, .l 1 (W (nqp 2).2.1), .l 1 (W (nqp 2).2.2)] := rfl
  rw [rN_b] at w1
  generalize RC (nfq [(-2 : Rat), 1]) = T at *
  generalize nqp 2 = y2 at *
  generalize RC (nfq [-(2 : Rat), 1]) = T2 at *
  rw [r2] at g ⊢
  rw [r0] at mu
  generalize (1 : Rat) = one1 at *
  refine mkQ fol J0s Tryz.func24 a24 ?_
  unfold a24
  simp only [init_eq, initE, qm, qr, qn]
  refine wkQ @bz_VP3 ?_
  refine vm_loopA [] Bool (fun b => match b with
      | false => ⟨[(4, .ow 3 0 1), (12, .l 3 [.b y2.1, .l 1 (W y2.2.1), .l 1 (W y2.2.2)]), (13, .i .i64 1), (14, .i .i64 0)], [(0, some ⟨31, 3, [.b (decide (one1.num < 0)), .l 1 (W (dg B one1.num.natAbs)), .l 1 (W (dg B one1.den))], true, false⟩)], 1⟩
      | true => ⟨[(4, .l 3 T), (12, .l 3 [.b y2.1, .l 1 (W y2.2.1), .l 1 (W y2.2.2)]), (13, .i .i64 1), (14, .i .i64 1)], [], 0⟩)
    (fun _ => True) (fun b => match b with | false => 1 | true => 0) false trivial (by exact leQ) (by
    simp (disch := (first | omega | assumption)) only [Sl, Sa, Sw, ↓reduceIte, Nat.reduceEqDiff, Nat.reduceLT, List.all_nil, List.all_cons, Nat.reduceBneDiff, Nat.reduceAdd, bne_iff_ne, ne_eq, reduceCtorEq, not_false_eq_true, not_true_eq_false, Bool.and_true, Bool.true_and, and_true, true_and, and_self, i_eq]
    all_goals rfl) ?_
  intro b _ Q' hQ he hr
  cases b
  · simp only
    have hrow : List.take 3 (List.drop (Int.toNat 0 * 3) [V.b y2.1, .l 1 (W y2.2.1), .l 1 (W y2.2.2)]) = [V.b y2.1, .l 1 (W y2.2.1), .l 1 (W y2.2.2)] := rfl
    refine wkQ (ai @hrow @bz_VP3) ?_
    refine hQ _ true trivial (by decide) ?_
    simp only
    simp (disch := (first | omega | assumption)) only [Sl, Sa, Sw, ↓reduceIte, Nat.reduceEqDiff, Nat.reduceLT, List.all_nil, List.all_cons, Nat.reduceBneDiff, Nat.reduceAdd, bne_iff_ne, ne_eq, reduceCtorEq, not_false_eq_true, not_true_eq_false, Bool.and_true, Bool.true_and, and_true, true_and, and_self, i_eq]
    all_goals rfl
  · simp only
    refine spQ @bz_VP3 ?_
    refine he _ _ ?_
    refine spQ @bz_VP3 ?_
    exact rtQ @bz_VP3
end Go.Proofs.YtbkpaeejjepnpaaGreat
