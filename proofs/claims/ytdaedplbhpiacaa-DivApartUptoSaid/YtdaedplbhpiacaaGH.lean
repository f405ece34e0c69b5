/-
  The texts R1, R2, R3.
-/
import Derived.Test.YtdaedplbhpiacaaGG
import Derived.Test.YtdaedplbhpiacaaGE
import Derived.Test.YtdaedplbhpiacaaGC
namespace Go.Proofs.Ytdaedplbhpiacaa
open Go Go.RowKit Ab
set_option linter.unusedSimpArgs false
set_option linter.unusedVariables false
set_option maxHeartbeats 10000000
theorem bz_R1 : type_of% (And.intro @W_len (And.intro @D_len (And.intro @Bl_len (And.intro @Nat.div_one (And.intro @Nat.mul_one (And.intro @tn_nat (And.intro @W_nf (And.intro @D_nf (And.intro @Bl_nf (And.intro @W_nil (And.intro @D_nil (And.intro @Bl_nil (@wi))))))))))))) := And.intro @W_len (And.intro @D_len (And.intro @Bl_len (And.intro @Nat.div_one (And.intro @Nat.mul_one (And.intro @tn_nat (And.intro @W_nf (And.intro @D_nf (And.intro @Bl_nf (And.intro @W_nil (And.intro @D_nil (And.intro @Bl_nil (@wi))))))))))))
theorem D_set (a : List Nat) (i x : Nat) : (D a).set i (.i .i64 (x : Int)) = D (a.set i x) := by simp [D]
theorem Bl_setT (a : List Nat) (i : Nat) : (Bl a).set i (.b true) = Bl (a.set i 1) := by simp [Bl]
theorem mk_Bl (n : Nat) : (List.replicate n [V.b false]).flatten = Bl (List.replicate n 0) := by
  induction n with
  | zero => rfl
  | succ n ih => rw [List.replicate_succ, List.flatten_cons, ih, List.replicate_succ]; rfl
theorem mk_D (n : Nat) : (List.replicate n [V.i .i64 0]).flatten = D (List.replicate n 0) := by
  induction n with
  | zero => rfl
  | succ n ih => rw [List.replicate_succ, List.flatten_cons, ih, List.replicate_succ]; rfl
theorem dg2_len {a : List Nat} (ha : Wd a) : (dg 2 (nv B a)).length ≤ 64 * a.length := dg_len (by decide) (by
  have := nv_lt ha
  rwa [B64, ← Nat.pow_mul] at this)
def a60 : AC := .seq (.reg [qr 2 (.mv (.k (.i .i64 0)))])
 (.seq (.reg [qm 3 0,
 qr 4 (.call 37 [(1, (.t 3))]),
 qr 5 (.len (.t 4)),
 qm 2 5])
 (.ret))
theorem rbits_spec (a : List Nat) (ha : Wd a) (la : a.length ≤ 10000000000) : AFun Try.prog J0 60 [.l 1 (W a)] (.i .i64 (((dg 2 (nv B a)).length : Nat) : Int)) := by
  refine mkQ fol J0s Try.func60 a60 ?_
  unfold a60
  simp only [init_eq, initE, qm, qr, qn]
  have zc1 := row_spec a ha la
  exact wdQ @bz_R1
def a35 : AC := .seq (.reg [qr 2 (.mv (.k (.b false)))])
 (.seq (.reg [qm 3 0,
 qr 4 (.call 60 [(1, (.t 3))]),
 qr 5 (.bin .eql (.t 4) (.k (.i .i64 0))),
 qm 2 5])
 (.ret))
theorem rzero_spec (a : List Nat) (ha : Wd a) (la : a.length ≤ 10000000000) : AFun Try.prog J0 35 [.l 1 (W a)] (.b (decide (nv B a = 0))) := by
  have e : ((((dg 2 (nv B a)).length : Nat) : Int) = 0) = (nv B a = 0) := by
    refine propext ⟨fun h => (dg_nil (b := 2) (by decide)).1 (List.eq_nil_of_length_eq_zero (by omega)), fun h => by rw [h]; rfl⟩
  refine mkQ fol J0s Try.func35 a35 ?_
  unfold a35
  simp only [init_eq, initE, qm, qr, qn]
  have zc2 := rbits_spec a ha la
  exact wdQ (ai @e @bz_R1)
def a42 : AC := .seq (.reg [qr 0 (.mv (.k .nl))])
 (.seq (.reg [qr 1 (.bsl 24 1 1 [(.i .u64 0)] [(0, (.k (.i .u64 1)))]),
 qm 0 1])
 (.ret))
theorem one_spec : AFun Try.prog J0 42 [] (.l 1 (W [1])) := by
  refine mkQ fol J0s Try.func42 a42 ?_
  unfold a42
  simp only [init_eq, initE, qm, qr, qn]
  exact pdQ (ai @W1 @bz_R1)
def a38 : AC := .seq (.reg [qr 4 (.mv (.k (.b false)))])
 (.seq (.seq (.reg [qm 6 0,
 qr 7 (.len (.t 6)),
 qr 8 (.bin .sub (.t 7) (.k (.i .i64 1))),
 qm 5 8])
 (.blk 0
 (.loop
 (.seq (.seq (.reg [qm 9 5,
 qr 10 (.bin .geq (.t 9) (.k (.i .i64 0)))])
 (.cond (.t 10)
 (.skip)
 (.exit 0)))
 (.seq (.blk 1
 (.seq (.dreg [qm 13 0,
 qm 14 5,
 qr 15 (.idx 1 (.t 13) (.t 14)),
 qr 16 (.ld false 1 (.t 15)),
 qm 17 1,
 qm 18 5,
 qr 19 (.idx 1 (.t 17) (.t 18)),
 qr 20 (.ld false 1 (.t 19)),
 qr 21 (.bin .neq (.t 16) (.t 20))])
 (.cond (.t 21)
 (.seq (.dreg [qm 22 0,
 qm 23 5,
 qr 24 (.idx 1 (.t 22) (.t 23)),
 qr 25 (.ld false 1 (.t 24)),
 qm 26 1,
 qm 27 5,
 qr 28 (.idx 1 (.t 26) (.t 27)),
 qr 29 (.ld false 1 (.t 28)),
 qr 30 (.bin .gtr (.t 25) (.t 29)),
 qm 4 30])
 (.ret))
 (.skip))))
 (.reg [qm 11 5,
 qr 12 (.bin .sub (.t 11) (.k (.i .i64 1))),
 qm 5 12]))))))
 (.seq (.reg [qr 4 (.mv (.k (.b true)))])
 (.ret)))
theorem least_spec (x y : List Nat) (hx : Lt 256 x) (hy : Lt 256 y) (hl : x.length = y.length) (lx : x.length ≤ 1000000000000) :
    AFun Try.prog J0 38 [.l 1 (D x), .l 1 (D y)] (.b (decide (nv 256 y ≤ nv 256 x))) := by
  refine mkQ fol J0s Try.func38 a38 ?_
  unfold a38
  simp only [init_eq, initE, qm, qr, qn]
  refine spQ @bz_R1 ?_
  refine vm_loopA [] Nat (fun i => ⟨[(0, .l 1 (D x)), (1, .l 1 (D y)), (5, .i .i64 ((i : Int) - 1))], [], 0⟩) (fun i => i ≤ x.length ∧ ∀ j, i ≤ j → x.getD j 0 = y.getD j 0) (fun i => i) x.length
    ⟨Nat.le_refl _, fun j hj => by rw [List.getD_eq_getElem?_getD, List.getD_eq_getElem?_getD, List.getElem?_eq_none hj, List.getElem?_eq_none (by omega)]⟩ (by exact leQ) (by
    simp (disch := (first | omega | assumption)) only [Sl, Sa, Sw, ↓reduceIte, Nat.reduceEqDiff, Nat.reduceLT, List.all_nil, List.all_cons, Nat.reduceBneDiff, Nat.reduceAdd, bne_iff_ne, ne_eq, reduceCtorEq, not_false_eq_true, not_true_eq_false, Bool.and_true, Bool.true_and, and_true, true_and, and_self, i_eq]
    try rfl) ?_
  intro i ⟨hi, hj⟩ Q' hQ he hr
  cases i with
  | zero =>
    have e := least_eq hl hj
    subst e
    refine spQ @bz_R1 ?_
    refine he _ _ ?_
    exact pdQ (ai @Nat.le_refl @bz_R1)
  | succ k =>
    have g1 : (0 : Int) ≤ ((k + 1 : Nat) : Int) - 1 := by omega
    have g2 : (((k + 1 : Nat) : Int) - 1).toNat = k := by omega
    by_cases h1 : x.getD k 0 = y.getD k 0
    · have h2 : (((x.getD k 0 : Nat) : Int) = ((y.getD k 0 : Nat) : Int)) = True := eq_true (by rw [h1])
      refine spQ (ai @h2 (ai @D_get (ai @g2 (ai @g1 @bz_R1)))) ?_
      refine hQ _ k ⟨by omega, fun j hk => ?_⟩ (by omega) ?_
      · rcases Nat.lt_or_ge k j with h3 | h3
        · exact hj j h3
        · obtain rfl : j = k := by omega
          exact h1
      · simp (disch := (first | omega | assumption)) only [Sl, Sa, Sw, ↓reduceIte, Nat.reduceEqDiff, Nat.reduceLT, List.all_nil, List.all_cons, Nat.reduceBneDiff, Nat.reduceAdd, bne_iff_ne, ne_eq, reduceCtorEq, not_false_eq_true, not_true_eq_false, Bool.and_true, Bool.true_and, and_true, true_and, and_self, i_eq]
        omega
    · have h2 : (((x.getD k 0 : Nat) : Int) = ((y.getD k 0 : Nat) : Int)) = False := eq_false (fun h => h1 (by omega))
      have e := least_of hx hy k hj h1
      have h3 : (((y.getD k 0 : Nat) : Int) < ((x.getD k 0 : Nat) : Int)) = (nv 256 y ≤ nv 256 x) := by rw [← e]; exact propext (by omega)
      refine spQ (ai @h2 (ai @D_get (ai @g2 (ai @g1 @bz_R1)))) ?_
      refine hr _ ?_
      exact pdQ (ai @h3 @bz_R1)
def a15 : AC := .seq (.reg [qr 4 (.mv (.k .nl)),
 qr 5 (.mv (.k .nl)),
 qr 6 (.mv (.k (.i .i64 0)))])
 (.seq (.seq (.reg [qm 18 1,
 qr 19 (.call 35 [(1, (.t 18))])])
 (.cond (.t 19)
 (.seq (.reg [qr 4 (.mv (.k .nl)),
 qr 5 (.mv (.k .nl)),
 qr 6 (.mv (.k (.i .i64 1)))])
 (.ret))
 (.skip)))
 (.seq (.reg [qr 20 (.bsl 3 1 0 [] []),
 qm 21 1,
 qr 22 (.call 36 [(1, (.t 21))]),
 qr 23 (.app 3 1 8 (.t 20) (.t 22)),
 qr 24 (.bsl 3 1 1 [(.i .i64 0)] [(0, (.k (.i .i64 0)))]),
 qr 25 (.app 3 1 8 (.t 23) (.t 24)),
 qm 7 25])
 (.seq (.reg [qm 26 0,
 qr 27 (.call 37 [(1, (.t 26))]),
 qm 8 27])
 (.seq (.reg [qm 28 8,
 qr 29 (.len (.t 28)),
 qr 30 (.mk 4 1 1 [(.b false)] (.t 29) (.t 29)),
 qm 9 30])
 (.seq (.reg [qm 31 7,
 qr 32 (.len (.t 31)),
 qr 33 (.mk 3 1 8 [(.i .i64 0)] (.t 32) (.t 32)),
 qm 10 33])
 (.seq (.seq (.reg [qm 34 8,
 qr 35 (.len (.t 34)),
 qr 36 (.bin .sub (.t 35) (.k (.i .i64 1))),
 qm 11 36])
 (.blk 0
 (.loop
 (.seq (.seq (.reg [qm 37 11,
 qr 38 (.bin .geq (.t 37) (.k (.i .i64 0)))])
 (.cond (.t 38)
 (.skip)
 (.exit 0)))
 (.seq (.blk 1
 (.seq (.reg [qr 12 (.mv (.k (.i .i64 0)))])
 (.seq (.seq (.reg [qm 41 8,
 qm 42 11,
 qr 43 (.idx 1 (.t 41) (.t 42)),
 qr 44 (.ld false 1 (.t 43))])
 (.cond (.t 44)
 (.reg [qr 12 (.mv (.k (.i .i64 1)))])
 (.skip)))
 (.seq (.seq (.reg [qr 13 (.mv (.k (.i .i64 0)))])
 (.blk 2
 (.loop
 (.seq (.seq (.reg [qm 45 13,
 qm 46 10,
 qr 47 (.len (.t 46)),
 qr 48 (.bin .lss (.t 45) (.t 47))])
 (.cond (.t 48)
 (.skip)
 (.exit 2)))
 (.seq (.blk 3
 (.seq (.reg [qm 51 10,
 qm 52 13,
 qr 53 (.idx 1 (.t 51) (.t 52)),
 qr 54 (.ld false 1 (.t 53)),
 qr 55 (.bin .mul (.k (.i .i64 2)) (.t 54)),
 qm 56 12,
 qr 57 (.bin .add (.t 55) (.t 56)),
 qm 14 57])
 (.seq (.reg [qm 58 10,
 qm 59 13,
 qm 60 14,
 qr 61 (.bin .rem (.t 60) (.k (.i .i64 256))),
 qr 62 (.idx 1 (.t 58) (.t 59)),
 qn (.st 1 (.t 62) (.t 61))])
 (.reg [qm 63 14,
 qr 64 (.bin .quo (.t 63) (.k (.i .i64 256))),
 qm 12 64]))))
 (.reg [qm 49 13,
 qr 50 (.bin .add (.t 49) (.k (.i .i64 1))),
 qm 13 50]))))))
 (.seq (.reg [qm 65 10,
 qm 66 7,
 qr 67 (.call 38 [(1, (.t 65)), (1, (.t 66))])])
 (.cond (.t 67)
 (.seq (.reg [qm 68 9,
 qm 69 11,
 qr 70 (.idx 1 (.t 68) (.t 69)),
 qn (.st 1 (.t 70) (.k (.b true)))])
 (.seq (.reg [qr 15 (.mv (.k (.i .i64 0)))])
 (.seq (.reg [qr 16 (.mv (.k (.i .i64 0)))])
 (.blk 4
 (.loop
 (.seq (.seq (.reg [qm 71 16,
 qm 72 10,
 qr 73 (.len (.t 72)),
 qr 74 (.bin .lss (.t 71) (.t 73))])
 (.cond (.t 74)
 (.skip)
 (.exit 4)))
 (.seq (.blk 5
 (.seq (.dreg [qm 77 10,
 qm 78 16,
 qr 79 (.idx 1 (.t 77) (.t 78)),
 qr 80 (.ld false 1 (.t 79)),
 qm 81 7,
 qm 82 16,
 qr 83 (.idx 1 (.t 81) (.t 82)),
 qr 84 (.ld false 1 (.t 83)),
 qr 85 (.bin .sub (.t 80) (.t 84)),
 qm 86 15,
 qr 87 (.bin .sub (.t 85) (.t 86)),
 qm 17 87])
 (.seq (.reg [qr 15 (.mv (.k (.i .i64 0)))])
 (.seq (.seq (.reg [qm 88 17,
 qr 89 (.bin .lss (.t 88) (.k (.i .i64 0)))])
 (.cond (.t 89)
 (.seq (.reg [qm 90 17,
 qr 91 (.bin .add (.t 90) (.k (.i .i64 256))),
 qm 17 91])
 (.reg [qr 15 (.mv (.k (.i .i64 1)))]))
 (.skip)))
 (.reg [qm 92 10,
 qm 93 16,
 qm 94 17,
 qr 95 (.idx 1 (.t 92) (.t 93)),
 qn (.st 1 (.t 95) (.t 94))])))))
 (.reg [qm 75 16,
 qr 76 (.bin .add (.t 75) (.k (.i .i64 1))),
 qm 16 76]))))))))
 (.skip)))))))
 (.reg [qm 39 11,
 qr 40 (.bin .sub (.t 39) (.k (.i .i64 1))),
 qm 11 40]))))))
 (.seq (.reg [qm 96 9,
 qr 97 (.call 39 [(1, (.t 96))]),
 qm 98 10,
 qr 99 (.call 40 [(1, (.t 98))]),
 qm 4 97,
 qm 5 99,
 qr 6 (.mv (.k (.i .i64 0)))])
 (.ret))))))))
theorem rquo_spec (a b : List Nat) (ha : Wd a) (hb : Wd b) (la : a.length ≤ 1000000000) (lb : b.length ≤ 1000000000) :
    AFun Try.prog J0 15 [.l 1 (W a), .l 1 (W b)] (.t [.l 1 (W (qQ (nv B a) (nv B b))), .l 1 (W (qR (nv B a) (nv B b))), .i .i64 (qE (nv B b))]) := by
  have hz := rzero_spec b hb (by omega)
  have hdl := dg256_len hb
  have hdg := digits_spec b hb (by omega)
  have hrl := dg2_len ha
  have hrow := row_spec a ha (by omega)
  have hrv : ∀ i, (dg 2 (nv B a)).getD i 0 = nv B a / 2 ^ i % 2 := fun i => by
    rw [nv_digit (b := 2) (by decide) (dg_Lt (by decide) _), nv_dg (by decide)]
  have hA : nv B a < 2 ^ (dg 2 (nv B a)).length := by
    have := nv_lt (dg_Lt (b := 2) (by decide) (nv B a)); rwa [nv_dg (by decide)] at this
  have hbv := nv_lt (dg_Lt (b := 256) (by decide) (nv B b))
  rw [nv_dg (by decide)] at hbv
  have hbn : nv 256 (dg 256 (nv B b) ++ [0]) = nv B b := by rw [nv_app, nv_one, nv_dg (by decide)]; omega
  have hbL : Lt 256 (dg 256 (nv B b) ++ [0]) := Lt_app.2 ⟨dg_Lt (by decide) _, fun x hx => by rw [List.mem_singleton] at hx; omega⟩
  have hbl : (dg 256 (nv B b) ++ [0]).length = (dg 256 (nv B b)).length + 1 := by simp
  generalize dg 256 (nv B b) = d at *
  generalize dg 2 (nv B a) = row at *
  generalize nv B a = A at *
  generalize nv B b = b' at *
  refine mkQ fol J0s Try.func15 a15 ?_
  unfold a15
  simp only [init_eq, initE, qm, qr, qn]
  by_cases h0 : b' = 0
  · subst h0
    rw [qQ_0, qR_0, qE_0]
    exact wdQ @bz_R1
  · have hb0 : 0 < b' := by omega
    rw [qE_p hb0, qR_p hb0]
    obtain ⟨n, hn⟩ : ∃ n, n = d.length + 1 := ⟨_, rfl⟩
    obtain ⟨y, hy⟩ : ∃ y, y = d ++ [0] := ⟨_, rfl⟩
    rw [← hy, ← hn] at hbl
    rw [← hy] at hbn hbL
    have hDy : D d ++ [V.i .i64 0] = D y := by rw [hy]; exact D_cat1 d 0
    have hb1 : 2 * b' ≤ 256 ^ n := by rw [hn, Nat.pow_succ]; omega
    have hyg : ∀ k, k < n → y.getD k 0 = b' / 256 ^ k % 256 := fun k _ => by rw [nv_digit (b := 256) (by decide) hbL, hbn]
    have hDl : ((d.length : Int) + 1) = (n : Int) := by omega
    have hn0 : (0 : Int) ≤ n := by omega
    refine wkQ (ai @mk_D (ai @mk_Bl (ai @hbl (ai @hDl (ai @nappA (ai @hDy (ai @D_cell (ai @h0 @bz_R1)))))))) ?_
    obtain ⟨L, hL⟩ : ∃ L, L = row.length := ⟨_, rfl⟩
    rw [← hL] at hA
    have hLl : L ≤ 64 * 1000000000 := by omega
    have fln : ∀ v, (fl 256 n v).length = n := fun v => fl_len _ _
    have hyD : (D y).length = n := by rw [D_len, hbl]
    refine vm_loopA [] Nat (fun i => ⟨[(7, .ow 1 0 n), (8, .l 1 (Bl row)), (9, .ow 1 1 L), (10, .ow 1 2 n), (11, .i .i64 ((i : Int) - 1))],
        [(0, some ⟨3, 1, D y, true, false⟩), (1, some ⟨4, 1, Bl (qbL A b' L i), true, false⟩), (2, some ⟨3, 1, D (fl 256 n (A / 2 ^ i % b')), true, false⟩)], 3⟩)
      (fun i => i ≤ L) (fun i => i) L (Nat.le_refl _) (by exact leQ) (by
      simp (disch := (first | omega | assumption)) only [Sl, Sa, Sw, ↓reduceIte, Nat.reduceEqDiff, Nat.reduceLT, List.all_nil, List.all_cons, Nat.reduceBneDiff, Nat.reduceAdd, bne_iff_ne, ne_eq, reduceCtorEq, not_false_eq_true, not_true_eq_false, Bool.and_true, Bool.true_and, and_true, true_and, and_self, i_eq]
      have z1 : Bl (List.replicate row.length 0) = Bl (qbL A b' L L) := by unfold qbL; rw [Nat.sub_self, fl, List.append_nil, hL]
      have z2 : D (List.replicate n 0) = D (fl 256 n (A / 2 ^ L % b')) := by rw [Nat.div_eq_of_lt hA, Nat.zero_mod, fl_zero]
      repeat' first | rfl | omega | (simp only [List.length_append, List.length_cons, List.length_nil]; done) | apply And.intro
      all_goals first | exact z1 | (rw [Nat.zero_add, ← hn]; exact z2)) ?_
    intro i hi Q' hQ he hr
    cases i with
    | zero =>
      have hq : nv 2 (qbL A b' L 0) = A / b' := by
        unfold qbL
        rw [List.replicate_zero, List.nil_append, nv_fl, Nat.pow_zero, Nat.div_one, Nat.sub_zero, Nat.mod_eq_of_lt (Nat.lt_of_le_of_lt (Nat.div_le_self _ _) hA)]
      have hql : Lt 2 (qbL A b' L 0) := by unfold qbL; rw [List.replicate_zero, List.nil_append]; exact fl_Lt (by decide) _ _
      have hor := ofRow_spec (qbL A b' L 0) hql (by rw [qbL_len (Nat.zero_le _)]; omega)
      rw [hq] at hor
      have hof := of_spec (fl 256 n (A / 2 ^ 0 % b')) (fl_Lt (by decide) _ _) (by rw [fln]; omega)
      have hrn : A % b' % 256 ^ n = A % b' := Nat.mod_eq_of_lt (by have := Nat.mod_lt A hb0; omega)
      rw [nv_fl, Nat.pow_zero, Nat.div_one, hrn] at hof
      rw [Nat.pow_zero, Nat.div_one]
      refine spQ @bz_R1 ?_
      refine he _ _ ?_
      repeat first | (refine hK _ ?_; clear hK K) | simp only [Sv, ↓reduceIte, Nat.reduceEqDiff] | ((first | refine vm_reg (fun K hK => ?_) | refine vm_dreg (fun K hK => ?_) | refine vm_dregx (fun K hK => ?_) | refine clp_q ?_ | refine clq_mk (by assumption) ?_ | refine mcq_q ?_ | (apply mcr_mk; assumption) | (apply ocr_mk; assumption)); simp (disch := (first | omega | assumption)) only [S1, ↓reduceIte, Nat.reduceEqDiff, Nat.reduceAdd, Nat.reduceMul, Nat.reduceDiv, AOp.sb, AOp.mut, frzf, ↓Bool.false_eq_true, beq_self_eq_true, ite_self, Nat.reduceLeDiff, Int.reduceEq, Int.reduceSub, Int.reduceAdd, Int.reduceNeg, Int.reduceLT, Int.reduceLE, Nat.reduceLT, bz_R1, qQ])
      simp (disch := (first | omega | assumption)) only [retOk, retN, ret1, retF, ret1F, V.okArg, and_true, true_and, S1, ↓reduceIte, Nat.reduceEqDiff, Nat.reduceAdd, Nat.reduceMul, Nat.reduceDiv, AOp.sb, AOp.mut, frzf, ↓Bool.false_eq_true, beq_self_eq_true, ite_self, Nat.reduceLeDiff, Int.reduceEq, Int.reduceSub, Int.reduceAdd, Int.reduceNeg, Int.reduceLT, Int.reduceLE, Nat.reduceLT, bz_R1, qQ]
    | succ k =>
      obtain ⟨R, hR⟩ : ∃ R, R = A / 2 ^ (k + 1) % b' := ⟨_, rfl⟩
      rw [← hR]
      have hRb : R < b' := by rw [hR]; exact Nat.mod_lt _ hb0
      have hk : (((k + 1 : Nat) : Int) - 1) = (k : Int) := by omega
      have hk0 : (0 : Int) ≤ (k : Int) := by omega
      have hkr : k < row.length := by omega
      have hsp := bit_split A k
      have hrk := hrv k
      rw [hk]
      by_cases hbit : row.getD k 0 = 1
      · have hbb : decide (row.getD k 0 = 1) = true := decide_eq_true hbit
        obtain ⟨c, hc⟩ : ∃ c : Nat, c = 1 := ⟨_, rfl⟩
        have hcI : (c : Int) = 1 := by omega
        have hc1 : c ≤ 1 := by omega
        rw [hrk, ← hc] at hbit
        obtain ⟨qb1, qb2⟩ := quo_bit (V := A / 2 ^ (k + 1)) (b := b') (c := c) hb0 hc1
        have hsp' : 2 * (A / 2 ^ (k + 1)) + c = A / 2 ^ k := by omega
        rw [hsp', ← hR] at qb1 qb2
        obtain ⟨X, hX⟩ : ∃ X, X = 2 * R + c := ⟨_, rfl⟩
        have hXn : X < 256 ^ n := by omega
        rw [← hX] at qb1 qb2
        have hle := least_spec (fl 256 n X) y (fl_Lt (by decide) _ _) hbL (by rw [fln, hbl]) (by rw [fln]; omega)
        rw [hbn, nv_fl, Nat.mod_eq_of_lt hXn] at hle
        refine spQ (ai @hbb (ai @Bl_get (ai @hk0 @bz_R1))) ?_
        refine vm_loopA [] Nat (fun j => ⟨[(7, .ow 1 0 n), (8, .l 1 (Bl row)), (9, .ow 1 1 L), (10, .ow 1 2 n), (11, .i .i64 (k : Int)), (12, .i .i64 ((dbC R c j : Nat) : Int)), (13, .i .i64 (j : Int))],
            [(0, some ⟨3, 1, D y, true, false⟩), (1, some ⟨4, 1, Bl (qbL A b' L (k + 1)), true, false⟩), (2, some ⟨3, 1, D (dbL n R c j), true, false⟩)], 3⟩)
          (fun j => j ≤ n) (fun j => n - j) 0 (Nat.zero_le _) (by exact leQ) (by
          simp (disch := (first | omega | assumption)) only [Sl, Sa, Sw, ↓reduceIte, Nat.reduceEqDiff, Nat.reduceLT, List.all_nil, List.all_cons, Nat.reduceBneDiff, Nat.reduceAdd, bne_iff_ne, ne_eq, reduceCtorEq, not_false_eq_true, not_true_eq_false, Bool.and_true, Bool.true_and, and_true, true_and, and_self, i_eq]
          rw [dbC_0, dbL_0]
          repeat' first | rfl | omega | (simp only [List.length_append, List.length_cons, List.length_nil]; done) | apply And.intro) ?_
        intro j hj Q'' hQ' he' hr'
        by_cases hjn : (j : Int) < n
        · have hjn' : j < n := by omega
          have g1 := dbL_len (n := n) (R := R) (c := c) (k := j) (by omega)
          have g2 := dbL_get (n := n) (R := R) (c := c) hjn'
          have g3 := dbL_set (n := n) (R := R) (c := c) hjn'
          have g4 := dbC_succ (R := R) (c := c) (k := j)
          have g5 := dbC_lt (R := R) (k := j) hc1
          have g6 : R / 256 ^ j % 256 < 256 := Nat.mod_lt _ (by decide)
          obtain ⟨x, hx⟩ : ∃ x, x = R / 256 ^ j % 256 := ⟨_, rfl⟩
          obtain ⟨s, hs⟩ : ∃ s, s = dbC R c j := ⟨_, rfl⟩
          rw [← hx] at g2 g3 g4 g6
          rw [← hs] at g3 g4 g5 ⊢
          have hsum : (2 : Int) * (x : Int) + (s : Int) = ((2 * x + s : Nat) : Int) := by omega
          obtain ⟨t, ht⟩ : ∃ t, t = 2 * x + s := ⟨_, rfl⟩
          rw [← ht] at g3 g4 hsum
          repeat first
            | (refine hK _ ?_; clear hK K)
            | ((first | refine vm_reg (fun K hK => ?_) | refine vm_dreg (fun K hK => ?_) | refine vm_dregx (fun K hK => ?_)); simp (disch := (first | omega | assumption)) only [S1, ↓reduceIte, Nat.reduceEqDiff, Nat.reduceAdd, Nat.reduceMul, Nat.reduceDiv, AOp.sb, AOp.mut, frzf, ↓Bool.false_eq_true, beq_self_eq_true, ite_self, Nat.reduceLeDiff, Int.reduceEq, Int.reduceSub, Int.reduceAdd, Int.reduceNeg, Int.reduceLT, Int.reduceLE, Nat.reduceLT, bz_R1, hjn, g1, D_get, g2, hsum, tmod_256, tdiv_256, D_set, g3]; refine hK _ ?_; clear hK K)
            | simp only [Sv, ↓reduceIte, Nat.reduceEqDiff]
          refine hQ' _ (j + 1) hjn' (by omega) ?_
          simp (disch := (first | omega | assumption)) only [Sl, Sa, Sw, ↓reduceIte, Nat.reduceEqDiff, Nat.reduceLT, List.all_nil, List.all_cons, Nat.reduceBneDiff, Nat.reduceAdd, bne_iff_ne, ne_eq, reduceCtorEq, not_false_eq_true, not_true_eq_false, Bool.and_true, Bool.true_and, and_true, true_and, and_self, i_eq]
          rw [← g4]
          repeat' first | rfl | omega | (simp only [List.length_append, List.length_cons, List.length_nil]; done) | apply And.intro
        · obtain rfl : j = n := by omega
          rw [dbL_n, ← hX]
          by_cases hbX : b' ≤ X
          · obtain ⟨r1, r2⟩ := qb1 hbX
            have hqs := qbL_succ (A := A) (b := b') (L := L) hi 1 (by rw [r1]; omega) (by rw [r1]; omega)
            have hdb : decide (b' ≤ X) = true := decide_eq_true hbX
            rw [hdb] at hle
            have hql := qbL_len (A := A) (b := b') hi
            refine spQ (ai @hjn @bz_R1) ?_
            refine he' _ _ ?_
            refine wkQ (ai @hqs (ai @Bl_setT (ai @hql @bz_R1))) ?_
            refine vm_loopA [] Nat (fun m => ⟨[(7, .ow 1 0 j), (8, .l 1 (Bl row)), (9, .ow 1 1 L), (10, .ow 1 2 j), (11, .i .i64 (k : Int)), (15, .i .i64 ((sbC X b' m : Nat) : Int)), (16, .i .i64 (m : Int))],
                [(0, some ⟨3, 1, D y, true, false⟩), (1, some ⟨4, 1, Bl (qbL A b' L k), true, false⟩), (2, some ⟨3, 1, D (sbL j X b' m), true, false⟩)], 3⟩)
              (fun m => m ≤ j) (fun m => j - m) 0 (Nat.zero_le _) (by exact leQ) (by
              simp (disch := (first | omega | assumption)) only [Sl, Sa, Sw, ↓reduceIte, Nat.reduceEqDiff, Nat.reduceLT, List.all_nil, List.all_cons, Nat.reduceBneDiff, Nat.reduceAdd, bne_iff_ne, ne_eq, reduceCtorEq, not_false_eq_true, not_true_eq_false, Bool.and_true, Bool.true_and, and_true, true_and, and_self, i_eq]
              rw [sbC_0, sbL_0]
              repeat' first | rfl | omega | (simp only [List.length_append, List.length_cons, List.length_nil]; done) | apply And.intro) ?_
            intro m hm Q3 hQ3 he3 hr3
            by_cases hmn : (m : Int) < j
            · have hmn' : m < j := by omega
              have hb2 : b' < 256 ^ j := by omega
              have g1 := sbL_len (n := j) (R := X) (Y := b') (k := m) (by omega)
              have g2 := sbL_get (n := j) (R := X) (Y := b') hmn'
              have g3 := sbL_set (n := j) (R := X) hb2 hmn'
              have g4 := (sb_step (n := j) (R := X) hb2 hmn').2
              have g5 := sbC_le (R := X) (Y := b') (k := m)
              have g6 : X / 256 ^ m % 256 < 256 := Nat.mod_lt _ (by decide)
              have g7 : b' / 256 ^ m % 256 < 256 := Nat.mod_lt _ (by decide)
              have g8 := hyg m hmn'
              obtain ⟨x, hx⟩ : ∃ x, x = X / 256 ^ m % 256 := ⟨_, rfl⟩
              obtain ⟨z, hz⟩ : ∃ z, z = b' / 256 ^ m % 256 := ⟨_, rfl⟩
              obtain ⟨s, hs⟩ : ∃ s, s = sbC X b' m := ⟨_, rfl⟩
              rw [← hx] at g2 g3 g4 g6
              rw [← hz] at g3 g4 g7 g8
              rw [← hs] at g3 g4 g5 ⊢
              by_cases h2 : (x : Int) - (z : Int) - (s : Int) < 0
              · obtain ⟨d2, hd2⟩ : ∃ d2 : Nat, d2 = x + 256 - (z + s) := ⟨_, rfl⟩
                have hd3 : (x : Int) - (z : Int) - (s : Int) + 256 = (d2 : Int) := by omega
                rw [show (x + 256 - (z + s)) % 256 = d2 from by omega] at g3
                rw [if_pos (by omega)] at g4
                refine spQ (ai @g3 (ai @D_set (ai @hd3 (ai @h2 (ai @g8 (ai @g2 (ai @D_get (ai @hbl (ai @g1 (ai @hmn @bz_R1)))))))))) ?_
                refine hQ3 _ (m + 1) hmn' (by omega) ?_
                simp (disch := (first | omega | assumption)) only [Sl, Sa, Sw, ↓reduceIte, Nat.reduceEqDiff, Nat.reduceLT, List.all_nil, List.all_cons, Nat.reduceBneDiff, Nat.reduceAdd, bne_iff_ne, ne_eq, reduceCtorEq, not_false_eq_true, not_true_eq_false, Bool.and_true, Bool.true_and, and_true, true_and, and_self, i_eq]
                rw [g4]
                repeat' first | rfl | omega | (simp only [List.length_append, List.length_cons, List.length_nil]; done) | apply And.intro
              · obtain ⟨d2, hd2⟩ : ∃ d2 : Nat, d2 = x - (z + s) := ⟨_, rfl⟩
                have hd3 : (x : Int) - (z : Int) - (s : Int) = (d2 : Int) := by omega
                rw [show (x + 256 - (z + s)) % 256 = d2 from by omega] at g3
                rw [if_neg (by omega)] at g4
                rw [hd3] at h2
                refine spQ (ai @g3 (ai @D_set (ai @hd3 (ai @h2 (ai @g8 (ai @g2 (ai @D_get (ai @hbl (ai @g1 (ai @hmn @bz_R1)))))))))) ?_
                refine hQ3 _ (m + 1) hmn' (by omega) ?_
                simp (disch := (first | omega | assumption)) only [Sl, Sa, Sw, ↓reduceIte, Nat.reduceEqDiff, Nat.reduceLT, List.all_nil, List.all_cons, Nat.reduceBneDiff, Nat.reduceAdd, bne_iff_ne, ne_eq, reduceCtorEq, not_false_eq_true, not_true_eq_false, Bool.and_true, Bool.true_and, and_true, true_and, and_self, i_eq]
                rw [g4]
                repeat' first | rfl | omega | (simp only [List.length_append, List.length_cons, List.length_nil]; done) | apply And.intro
            · obtain rfl : m = j := by omega
              rw [sbL_n hbX, ← r2]
              refine spQ (ai @hmn @bz_R1) ?_
              refine he3 _ _ ?_
              refine spQ @bz_R1 ?_
              refine hQ _ k (by omega) (by omega) ?_
              exact ltQ
          · obtain ⟨r1, r2⟩ := qb2 (Nat.lt_of_not_le hbX)
            have hqs := qbL_same (A := A) (b := b') (L := L) hi (by rw [r1]; omega) (by rw [r1]; omega)
            have hdb : decide (b' ≤ X) = false := decide_eq_false hbX
            rw [hdb] at hle
            rw [hqs]
            refine spQ (ai @hjn @bz_R1) ?_
            refine he' _ _ ?_
            refine wkQ @bz_R1 ?_
            refine hQ _ k (by omega) (by omega) ?_
            simp (disch := (first | omega | assumption)) only [Sl, Sa, Sw, ↓reduceIte, Nat.reduceEqDiff, Nat.reduceLT, List.all_nil, List.all_cons, Nat.reduceBneDiff, Nat.reduceAdd, bne_iff_ne, ne_eq, reduceCtorEq, not_false_eq_true, not_true_eq_false, Bool.and_true, Bool.true_and, and_true, true_and, and_self, i_eq]
            rw [r2]
            repeat' first | rfl | omega | (simp only [List.length_append, List.length_cons, List.length_nil]; done) | apply And.intro
      · have hbb : decide (row.getD k 0 = 1) = false := decide_eq_false hbit
        replace hbit : row.getD k 0 = 0 := by have := hrk; omega
        obtain ⟨c, hc⟩ : ∃ c : Nat, c = 0 := ⟨_, rfl⟩
        have hcI : (c : Int) = 0 := by omega
        have hc1 : c ≤ 1 := by omega
        rw [hrk, ← hc] at hbit
        obtain ⟨qb1, qb2⟩ := quo_bit (V := A / 2 ^ (k + 1)) (b := b') (c := c) hb0 hc1
        have hsp' : 2 * (A / 2 ^ (k + 1)) + c = A / 2 ^ k := by omega
        rw [hsp', ← hR] at qb1 qb2
        obtain ⟨X, hX⟩ : ∃ X, X = 2 * R + c := ⟨_, rfl⟩
        have hXn : X < 256 ^ n := by omega
        rw [← hX] at qb1 qb2
        have hle := least_spec (fl 256 n X) y (fl_Lt (by decide) _ _) hbL (by rw [fln, hbl]) (by rw [fln]; omega)
        rw [hbn, nv_fl, Nat.mod_eq_of_lt hXn] at hle
        refine spQ (ai @hbb (ai @Bl_get (ai @hk0 @bz_R1))) ?_
        refine vm_loopA [] Nat (fun j => ⟨[(7, .ow 1 0 n), (8, .l 1 (Bl row)), (9, .ow 1 1 L), (10, .ow 1 2 n), (11, .i .i64 (k : Int)), (12, .i .i64 ((dbC R c j : Nat) : Int)), (13, .i .i64 (j : Int))],
            [(0, some ⟨3, 1, D y, true, false⟩), (1, some ⟨4, 1, Bl (qbL A b' L (k + 1)), true, false⟩), (2, some ⟨3, 1, D (dbL n R c j), true, false⟩)], 3⟩)
          (fun j => j ≤ n) (fun j => n - j) 0 (Nat.zero_le _) (by exact leQ) (by
          simp (disch := (first | omega | assumption)) only [Sl, Sa, Sw, ↓reduceIte, Nat.reduceEqDiff, Nat.reduceLT, List.all_nil, List.all_cons, Nat.reduceBneDiff, Nat.reduceAdd, bne_iff_ne, ne_eq, reduceCtorEq, not_false_eq_true, not_true_eq_false, Bool.and_true, Bool.true_and, and_true, true_and, and_self, i_eq]
          rw [dbC_0, dbL_0]
          repeat' first | rfl | omega | (simp only [List.length_append, List.length_cons, List.length_nil]; done) | apply And.intro) ?_
        intro j hj Q'' hQ' he' hr'
        by_cases hjn : (j : Int) < n
        · have hjn' : j < n := by omega
          have g1 := dbL_len (n := n) (R := R) (c := c) (k := j) (by omega)
          have g2 := dbL_get (n := n) (R := R) (c := c) hjn'
          have g3 := dbL_set (n := n) (R := R) (c := c) hjn'
          have g4 := dbC_succ (R := R) (c := c) (k := j)
          have g5 := dbC_lt (R := R) (k := j) hc1
          have g6 : R / 256 ^ j % 256 < 256 := Nat.mod_lt _ (by decide)
          obtain ⟨x, hx⟩ : ∃ x, x = R / 256 ^ j % 256 := ⟨_, rfl⟩
          obtain ⟨s, hs⟩ : ∃ s, s = dbC R c j := ⟨_, rfl⟩
          rw [← hx] at g2 g3 g4 g6
          rw [← hs] at g3 g4 g5 ⊢
          have hsum : (2 : Int) * (x : Int) + (s : Int) = ((2 * x + s : Nat) : Int) := by omega
          obtain ⟨t, ht⟩ : ∃ t, t = 2 * x + s := ⟨_, rfl⟩
          rw [← ht] at g3 g4 hsum
          repeat first
            | (refine hK _ ?_; clear hK K)
            | ((first | refine vm_reg (fun K hK => ?_) | refine vm_dreg (fun K hK => ?_) | refine vm_dregx (fun K hK => ?_)); simp (disch := (first | omega | assumption)) only [S1, ↓reduceIte, Nat.reduceEqDiff, Nat.reduceAdd, Nat.reduceMul, Nat.reduceDiv, AOp.sb, AOp.mut, frzf, ↓Bool.false_eq_true, beq_self_eq_true, ite_self, Nat.reduceLeDiff, Int.reduceEq, Int.reduceSub, Int.reduceAdd, Int.reduceNeg, Int.reduceLT, Int.reduceLE, Nat.reduceLT, bz_R1, hjn, g1, D_get, g2, hsum, tmod_256, tdiv_256, D_set, g3]; refine hK _ ?_; clear hK K)
            | simp only [Sv, ↓reduceIte, Nat.reduceEqDiff]
          refine hQ' _ (j + 1) hjn' (by omega) ?_
          simp (disch := (first | omega | assumption)) only [Sl, Sa, Sw, ↓reduceIte, Nat.reduceEqDiff, Nat.reduceLT, List.all_nil, List.all_cons, Nat.reduceBneDiff, Nat.reduceAdd, bne_iff_ne, ne_eq, reduceCtorEq, not_false_eq_true, not_true_eq_false, Bool.and_true, Bool.true_and, and_true, true_and, and_self, i_eq]
          rw [← g4]
          repeat' first | rfl | omega | (simp only [List.length_append, List.length_cons, List.length_nil]; done) | apply And.intro
        · obtain rfl : j = n := by omega
          rw [dbL_n, ← hX]
          by_cases hbX : b' ≤ X
          · obtain ⟨r1, r2⟩ := qb1 hbX
            have hqs := qbL_succ (A := A) (b := b') (L := L) hi 1 (by rw [r1]; omega) (by rw [r1]; omega)
            have hdb : decide (b' ≤ X) = true := decide_eq_true hbX
            rw [hdb] at hle
            have hql := qbL_len (A := A) (b := b') hi
            refine spQ (ai @hjn @bz_R1) ?_
            refine he' _ _ ?_
            refine wkQ (ai @hqs (ai @Bl_setT (ai @hql @bz_R1))) ?_
            refine vm_loopA [] Nat (fun m => ⟨[(7, .ow 1 0 j), (8, .l 1 (Bl row)), (9, .ow 1 1 L), (10, .ow 1 2 j), (11, .i .i64 (k : Int)), (15, .i .i64 ((sbC X b' m : Nat) : Int)), (16, .i .i64 (m : Int))],
                [(0, some ⟨3, 1, D y, true, false⟩), (1, some ⟨4, 1, Bl (qbL A b' L k), true, false⟩), (2, some ⟨3, 1, D (sbL j X b' m), true, false⟩)], 3⟩)
              (fun m => m ≤ j) (fun m => j - m) 0 (Nat.zero_le _) (by exact leQ) (by
              simp (disch := (first | omega | assumption)) only [Sl, Sa, Sw, ↓reduceIte, Nat.reduceEqDiff, Nat.reduceLT, List.all_nil, List.all_cons, Nat.reduceBneDiff, Nat.reduceAdd, bne_iff_ne, ne_eq, reduceCtorEq, not_false_eq_true, not_true_eq_false, Bool.and_true, Bool.true_and, and_true, true_and, and_self, i_eq]
              rw [sbC_0, sbL_0]
              repeat' first | rfl | omega | (simp only [List.length_append, List.length_cons, List.length_nil]; done) | apply And.intro) ?_
            intro m hm Q3 hQ3 he3 hr3
            by_cases hmn : (m : Int) < j
            · have hmn' : m < j := by omega
              have hb2 : b' < 256 ^ j := by omega
              have g1 := sbL_len (n := j) (R := X) (Y := b') (k := m) (by omega)
              have g2 := sbL_get (n := j) (R := X) (Y := b') hmn'
              have g3 := sbL_set (n := j) (R := X) hb2 hmn'
              have g4 := (sb_step (n := j) (R := X) hb2 hmn').2
              have g5 := sbC_le (R := X) (Y := b') (k := m)
              have g6 : X / 256 ^ m % 256 < 256 := Nat.mod_lt _ (by decide)
              have g7 : b' / 256 ^ m % 256 < 256 := Nat.mod_lt _ (by decide)
              have g8 := hyg m hmn'
              obtain ⟨x, hx⟩ : ∃ x, x = X / 256 ^ m % 256 := ⟨_, rfl⟩
              obtain ⟨z, hz⟩ : ∃ z, z = b' / 256 ^ m % 256 := ⟨_, rfl⟩
              obtain ⟨s, hs⟩ : ∃ s, s = sbC X b' m := ⟨_, rfl⟩
              rw [← hx] at g2 g3 g4 g6
              rw [← hz] at g3 g4 g7 g8
              rw [← hs] at g3 g4 g5 ⊢
              by_cases h2 : (x : Int) - (z : Int) - (s : Int) < 0
              · obtain ⟨d2, hd2⟩ : ∃ d2 : Nat, d2 = x + 256 - (z + s) := ⟨_, rfl⟩
                have hd3 : (x : Int) - (z : Int) - (s : Int) + 256 = (d2 : Int) := by omega
                rw [show (x + 256 - (z + s)) % 256 = d2 from by omega] at g3
                rw [if_pos (by omega)] at g4
                refine spQ (ai @g3 (ai @D_set (ai @hd3 (ai @h2 (ai @g8 (ai @g2 (ai @D_get (ai @hbl (ai @g1 (ai @hmn @bz_R1)))))))))) ?_
                refine hQ3 _ (m + 1) hmn' (by omega) ?_
                simp (disch := (first | omega | assumption)) only [Sl, Sa, Sw, ↓reduceIte, Nat.reduceEqDiff, Nat.reduceLT, List.all_nil, List.all_cons, Nat.reduceBneDiff, Nat.reduceAdd, bne_iff_ne, ne_eq, reduceCtorEq, not_false_eq_true, not_true_eq_false, Bool.and_true, Bool.true_and, and_true, true_and, and_self, i_eq]
                rw [g4]
                repeat' first | rfl | omega | (simp only [List.length_append, List.length_cons, List.length_nil]; done) | apply And.intro
              · obtain ⟨d2, hd2⟩ : ∃ d2 : Nat, d2 = x - (z + s) := ⟨_, rfl⟩
                have hd3 : (x : Int) - (z : Int) - (s : Int) = (d2 : Int) := by omega
                rw [show (x + 256 - (z + s)) % 256 = d2 from by omega] at g3
                rw [if_neg (by omega)] at g4
                rw [hd3] at h2
                refine spQ (ai @g3 (ai @D_set (ai @hd3 (ai @h2 (ai @g8 (ai @g2 (ai @D_get (ai @hbl (ai @g1 (ai @hmn @bz_R1)))))))))) ?_
                refine hQ3 _ (m + 1) hmn' (by omega) ?_
                simp (disch := (first | omega | assumption)) only [Sl, Sa, Sw, ↓reduceIte, Nat.reduceEqDiff, Nat.reduceLT, List.all_nil, List.all_cons, Nat.reduceBneDiff, Nat.reduceAdd, bne_iff_ne, ne_eq, reduceCtorEq, not_false_eq_true, not_true_eq_false, Bool.and_true, Bool.true_and, and_true, true_and, and_self, i_eq]
                rw [g4]
                repeat' first | rfl | omega | (simp only [List.length_append, List.length_cons, List.length_nil]; done) | apply And.intro
            · obtain rfl : m = j := by omega
              rw [sbL_n hbX, ← r2]
              refine spQ (ai @hmn @bz_R1) ?_
              refine he3 _ _ ?_
              refine spQ @bz_R1 ?_
              refine hQ _ k (by omega) (by omega) ?_
              exact ltQ
          · obtain ⟨r1, r2⟩ := qb2 (Nat.lt_of_not_le hbX)
            have hqs := qbL_same (A := A) (b := b') (L := L) hi (by rw [r1]; omega) (by rw [r1]; omega)
            have hdb : decide (b' ≤ X) = false := decide_eq_false hbX
            rw [hdb] at hle
            rw [hqs]
            refine spQ (ai @hjn @bz_R1) ?_
            refine he' _ _ ?_
            refine wkQ @bz_R1 ?_
            refine hQ _ k (by omega) (by omega) ?_
            simp (disch := (first | omega | assumption)) only [Sl, Sa, Sw, ↓reduceIte, Nat.reduceEqDiff, Nat.reduceLT, List.all_nil, List.all_cons, Nat.reduceBneDiff, Nat.reduceAdd, bne_iff_ne, ne_eq, reduceCtorEq, not_false_eq_true, not_true_eq_false, Bool.and_true, Bool.true_and, and_true, true_and, and_self, i_eq]
            rw [r2]
            repeat' first | rfl | omega | (simp only [List.length_append, List.length_cons, List.length_nil]; done) | apply And.intro
end Go.Proofs.Ytdaedplbhpiacaa
namespace Go.Proofs.Ytdaedplbhpiacaa
open Go Go.RowKit Ab
set_option linter.unusedSimpArgs false
set_option linter.unusedVariables false
set_option maxHeartbeats 10000000
theorem bz_R2 : type_of% (And.intro @wi (And.intro @tn_nat (And.intro @Nat.div_one (And.intro @Nat.mul_one (And.intro @W_len (And.intro @W_nf (And.intro @W_cell (And.intro @W_nil (@W_get))))))))) := And.intro @wi (And.intro @tn_nat (And.intro @Nat.div_one (And.intro @Nat.mul_one (And.intro @W_len (And.intro @W_nf (And.intro @W_cell (And.intro @W_nil (@W_get))))))))
theorem Wd1 {x : Nat} (h : x < 18446744073709551616) : Wd [x] := fun y hy => by rw [List.mem_singleton] at hy; rw [hy]; exact h
def a44 : AC := .seq (.reg [qr 2 (.mv (.k (.i .u64 0))),
 qr 3 (.mv (.k (.i .i64 0)))])
 (.seq (.reg [qm 4 0,
 qr 5 (.call 24 [(1, (.t 4))]),
 qm 0 5])
 (.seq (.seq (.reg [qm 6 0,
 qr 7 (.len (.t 6)),
 qr 8 (.bin .gtr (.t 7) (.k (.i .i64 1)))])
 (.cond (.t 8)
 (.seq (.reg [qr 2 (.mv (.k (.i .u64 0))),
 qr 3 (.mv (.k (.i .i64 13)))])
 (.ret))
 (.skip)))
 (.seq (.seq (.reg [qm 9 0,
 qr 10 (.len (.t 9)),
 qr 11 (.bin .eql (.t 10) (.k (.i .i64 0)))])
 (.cond (.t 11)
 (.seq (.reg [qr 2 (.mv (.k (.i .u64 0))),
 qr 3 (.mv (.k (.i .i64 0)))])
 (.ret))
 (.skip)))
 (.seq (.reg [qm 12 0,
 qr 13 (.idx 1 (.t 12) (.k (.i .i64 0))),
 qr 14 (.ld false 1 (.t 13)),
 qm 2 14,
 qr 3 (.mv (.k (.i .i64 0)))])
 (.ret)))))
def wdW (u : Nat) : Nat := if u < 18446744073709551616 then u else 0
def wdE (u : Nat) : Int := if u < 18446744073709551616 then 0 else 13
theorem dg_big {u : Nat} (h : ¬ u < 18446744073709551616) : 1 < (dg B u).length := by
  rcases Nat.lt_or_ge 1 (dg B u).length with h1 | h1
  · exact h1
  · have h2 := nv_lt (Wd_dg u)
    rw [nv_dgB] at h2
    have : B ^ (dg B u).length ≤ B ^ 1 := Nat.pow_le_pow_right (by decide) h1
    rw [Nat.pow_one] at this
    exact absurd (Nat.lt_of_lt_of_le h2 this) h
theorem rword_spec (a : List Nat) (ha : Wd a) (la : a.length ≤ 100000000000) :
    AFun Try.prog J0 44 [.l 1 (W a)] (.t [.i .u64 ((wdW (nv B a) : Nat) : Int), .i .i64 (wdE (nv B a))]) := by
  have hn := rnorm_spec a ha la
  generalize nv B a = u at *
  refine mkQ fol J0s Try.func44 a44 ?_
  unfold a44
  simp only [init_eq, initE, qm, qr, qn]
  by_cases h0 : u = 0
  · subst h0
    rw [dg_zero] at hn
    have z1 : wdW 0 = 0 := rfl
    have z2 : wdE 0 = 0 := rfl
    exact wdQ (ai @z2 (ai @z1 (ai @lconsA (ai @lnilA @bz_R2))))
  · by_cases h1 : u < 18446744073709551616
    · rw [dg_one (by omega) h1] at hn
      rw [show wdW u = u from if_pos h1, show wdE u = 0 from if_pos h1]
      exact wdQ (ai @getD_z (ai @Int.toNat_zero (ai @W1 (ai @lconsA (ai @lnilA @bz_R2)))))
    · have hl := dg_big h1
      have hl2 : (1 : Int) < ((dg B u).length : Int) := by omega
      rw [show wdW u = 0 from if_neg h1, show wdE u = 13 from if_neg h1]
      exact wdQ (ai @hl2 (ai @lconsA (ai @lnilA @bz_R2)))
def a18 : AC := .seq (.reg [qr 4 (.mv (.k .nl)),
 qr 5 (.mv (.k (.i .u64 0))),
 qr 6 (.mv (.k (.i .i64 0)))])
 (.seq (.reg [qm 13 0,
 qm 14 1,
 qr 15 (.bsl 24 1 1 [(.i .u64 0)] [(0, (.t 14))]),
 qr 16 (.call 15 [(1, (.t 13)), (1, (.t 15))]),
 qm 12 16,
 qr 17 (.ext (.t 12) 0),
 qr 18 (.ext (.t 12) 1),
 qr 19 (.ext (.t 12) 2),
 qm 7 17,
 qm 8 18,
 qm 9 19])
 (.seq (.reg [qm 21 8,
 qr 22 (.call 44 [(1, (.t 21))]),
 qm 20 22,
 qr 23 (.ext (.t 20) 0),
 qr 24 (.ext (.t 20) 1),
 qm 10 23,
 qm 11 24])
 (.seq (.reg [qm 25 7,
 qm 26 10,
 qm 27 9,
 qm 4 25,
 qm 5 26,
 qm 6 27])
 (.ret))))
theorem rqword_spec (a : List Nat) (w : Nat) (ha : Wd a) (hw : w < 18446744073709551616) (la : a.length ≤ 1000000000) :
    AFun Try.prog J0 18 [.l 1 (W a), .i .u64 (w : Int)] (.t [.l 1 (W (qQ (nv B a) w)), .i .u64 ((if w = 0 then 0 else nv B a % w : Nat) : Int), .i .i64 (qE w)]) := by
  have hq := rquo_spec a [w] ha (fun x hx => by rw [List.mem_singleton] at hx; subst hx; exact hw) la (by simp)
  rw [nv_one] at hq
  have hw' := rword_spec (qR (nv B a) w) (qR_Wd _ _) (by have := qR_len (v := w) (nvlt ha la); omega)
  have e : nv B (qR (nv B a) w) = if w = 0 then 0 else nv B a % w := by
    unfold qR; split
    · rfl
    · exact nv_dgB _
  have hlt : (if w = 0 then 0 else nv B a % w) < 18446744073709551616 := by
    split
    · decide
    · exact Nat.lt_trans (Nat.mod_lt _ (by omega)) hw
  rw [e] at hw'
  generalize (if w = 0 then 0 else nv B a % w) = m at *
  rw [show wdW m = m from if_pos hlt, show wdE m = 0 from if_pos hlt] at hw'
  refine mkQ fol J0s Try.func18 a18 ?_
  unfold a18
  simp only [init_eq, initE, qm, qr, qn]
  have zc1 := hw'
  exact wdQ (ai @W1 (ai @lconsA (ai @lnilA @bz_R2)))
def a45 : AC := .seq (.reg [qr 4 (.mv (.k .nl)),
 qr 5 (.mv (.k (.i .i64 0)))])
 (.seq (.reg [qm 10 0,
 qm 11 1,
 qr 12 (.call 15 [(1, (.t 10)), (1, (.t 11))]),
 qm 9 12,
 qr 13 (.ext (.t 9) 0),
 qr 14 (.ext (.t 9) 1),
 qr 15 (.ext (.t 9) 2),
 qm 6 13,
 qm 7 14,
 qm 8 15])
 (.seq (.reg [qm 16 7,
 qm 17 8,
 qm 4 16,
 qm 5 17])
 (.ret)))
theorem rmod_spec (a b : List Nat) (ha : Wd a) (hb : Wd b) (la : a.length ≤ 1000000000) (lb : b.length ≤ 1000000000) :
    AFun Try.prog J0 45 [.l 1 (W a), .l 1 (W b)] (.t [.l 1 (W (qR (nv B a) (nv B b))), .i .i64 (qE (nv B b))]) := by
  refine mkQ fol J0s Try.func45 a45 ?_
  unfold a45
  simp only [init_eq, initE, qm, qr, qn]
  have zc2 := rquo_spec a b ha hb la lb
  exact wdQ (ai @lconsA (ai @lnilA @bz_R2))
def a19 : AC := .seq (.reg [qr 4 (.mv (.k .nl)),
 qr 5 (.mv (.k (.i .i64 0)))])
 (.seq (.reg [qm 10 0,
 qm 11 1,
 qr 12 (.call 15 [(1, (.t 10)), (1, (.t 11))]),
 qm 9 12,
 qr 13 (.ext (.t 9) 0),
 qr 14 (.ext (.t 9) 1),
 qr 15 (.ext (.t 9) 2),
 qm 6 13,
 qm 7 14,
 qm 8 15])
 (.seq (.seq (.reg [qm 16 8,
 qr 17 (.bin .neq (.t 16) (.k (.i .i64 0)))])
 (.cond (.t 17)
 (.seq (.reg [qm 18 8,
 qr 4 (.mv (.k .nl)),
 qm 5 18])
 (.ret))
 (.skip)))
 (.seq (.seq (.reg [qm 19 7,
 qr 20 (.call 35 [(1, (.t 19))]),
 qr 21 (.un .not (.t 20))])
 (.cond (.t 21)
 (.seq (.reg [qr 4 (.mv (.k .nl)),
 qr 5 (.mv (.k (.i .i64 4)))])
 (.ret))
 (.skip)))
 (.seq (.reg [qm 22 6,
 qm 4 22,
 qr 5 (.mv (.k (.i .i64 0)))])
 (.ret)))))
theorem rexact_spec (a b : List Nat) (ha : Wd a) (hb : Wd b) (la : a.length ≤ 1000000000) (lb : b.length ≤ 1000000000) :
    AFun Try.prog J0 19 [.l 1 (W a), .l 1 (W b)] (.t [.l 1 (W (exQ (nv B a) (nv B b))), .i .i64 (exE (nv B a) (nv B b))]) := by
  have hq := rquo_spec a b ha hb la lb
  have hz := rzero_spec (qR (nv B a) (nv B b)) (qR_Wd _ _) (by have := qR_len (v := nv B b) (nvlt ha la); omega)
  have hr : nv B (qR (nv B a) (nv B b)) = if nv B b = 0 then 0 else nv B a % nv B b := by unfold qR; split; rfl; exact nv_dgB _
  rw [hr] at hz
  generalize nv B a = u at *
  generalize nv B b = v at *
  refine mkQ fol J0s Try.func19 a19 ?_
  unfold a19
  simp only [init_eq, initE, qm, qr, qn]
  by_cases h0 : v = 0
  · rw [show exQ u v = [] from if_pos h0, show exE u v = 1 from if_pos h0]
    subst h0
    exact wdQ (ai @qE_0 (ai @lconsA (ai @lnilA @bz_R2)))
  · have e := qE_p (v := v) (by omega)
    rw [if_neg h0] at hz
    by_cases h1 : u % v = 0
    · rw [show exQ u v = qQ u v from (if_neg h0).trans (if_pos h1), show exE u v = 0 from (if_neg h0).trans (if_pos h1)]
      exact wdQ (ai @h1 (ai @e (ai @lconsA (ai @lnilA @bz_R2))))
    · rw [show exQ u v = [] from (if_neg h0).trans (if_neg h1), show exE u v = 4 from (if_neg h0).trans (if_neg h1)]
      exact wdQ (ai @h1 (ai @e (ai @lconsA (ai @lnilA @bz_R2))))
def a16 : AC := .seq (.reg [qr 4 (.mv (.k .nl)),
 qr 5 (.mv (.k (.i .i64 0)))])
 (.seq (.reg [qm 10 0,
 qm 11 1,
 qr 12 (.call 15 [(1, (.t 10)), (1, (.t 11))]),
 qm 9 12,
 qr 13 (.ext (.t 9) 0),
 qr 14 (.ext (.t 9) 1),
 qr 15 (.ext (.t 9) 2),
 qm 6 13,
 qm 7 14,
 qm 8 15])
 (.seq (.seq (.reg [qm 16 8,
 qr 17 (.bin .eql (.t 16) (.k (.i .i64 0))),
 qm 18 17,
 ⟨some 19, some (18, true), .mv (.t 7)⟩,
 ⟨some 20, some (18, true), .call 35 [(1, (.t 19))]⟩,
 ⟨some 21, some (18, true), .un .not (.t 20)⟩,
 qr 22 (.pick (.t 18) (.t 21) (.k (.b false)))])
 (.cond (.t 22)
 (.reg [qm 23 6,
 qr 24 (.call 42 []),
 qr 25 (.call 41 [(1, (.t 23)), (1, (.t 24))]),
 qm 6 25])
 (.skip)))
 (.seq (.reg [qm 26 6,
 qm 27 8,
 qm 4 26,
 qm 5 27])
 (.ret))))
theorem rup_spec (a b : List Nat) (ha : Wd a) (hb : Wd b) (la : a.length ≤ 1000000000) (lb : b.length ≤ 1000000000) :
    AFun Try.prog J0 16 [.l 1 (W a), .l 1 (W b)] (.t [.l 1 (W (upQ (nv B a) (nv B b))), .i .i64 (qE (nv B b))]) := by
  have hq := rquo_spec a b ha hb la lb
  have hz := rzero_spec (qR (nv B a) (nv B b)) (qR_Wd _ _) (by have := qR_len (v := nv B b) (nvlt ha la); omega)
  have hr : nv B (qR (nv B a) (nv B b)) = if nv B b = 0 then 0 else nv B a % nv B b := by unfold qR; split; rfl; exact nv_dgB _
  rw [hr] at hz
  have hql := qQ_len (v := nv B b) (nvlt ha la)
  have had := radd_spec (qQ (nv B a) (nv B b)) [1] (qQ_Wd _ _) (Wd1 (by decide)) (by omega) (by decide)
  rw [qQ_nv, nv_one] at had
  generalize nv B a = u at *
  generalize nv B b = v at *
  refine mkQ fol J0s Try.func16 a16 ?_
  unfold a16
  simp only [init_eq, initE, qm, qr, qn]
  by_cases h0 : v = 0
  · rw [show upQ u v = [] from if_pos h0]
    subst h0
    rw [qQ_0] at hq
    exact wdQ (ai @qE_0 (ai @lconsA (ai @lnilA @bz_R2)))
  · have e := qE_p (v := v) (by omega)
    rw [if_neg h0] at hz
    by_cases h1 : u % v = 0
    · rw [show upQ u v = qQ u v from (if_neg h0).trans (if_pos h1)]
      exact wdQ (ai @h1 (ai @e (ai @lconsA (ai @lnilA @bz_R2))))
    · rw [show upQ u v = dg B (u / v + 1) from (if_neg h0).trans (if_neg h1)]
      have zc3 := one_spec
      exact wdQ (ai @h1 (ai @e (ai @lconsA (ai @lnilA @bz_R2))))
def a17 : AC := .seq (.reg [qr 4 (.mv (.k .nl)),
 qr 5 (.mv (.k (.i .i64 0)))])
 (.seq (.reg [qm 10 0,
 qm 11 1,
 qr 12 (.call 15 [(1, (.t 10)), (1, (.t 11))]),
 qm 9 12,
 qr 13 (.ext (.t 9) 0),
 qr 14 (.ext (.t 9) 1),
 qr 15 (.ext (.t 9) 2),
 qm 6 13,
 qm 7 14,
 qm 8 15])
 (.seq (.seq (.reg [qm 16 8,
 qr 17 (.bin .eql (.t 16) (.k (.i .i64 0))),
 qm 18 17,
 ⟨some 19, some (18, true), .mv (.t 7)⟩,
 ⟨some 20, some (18, true), .mv (.t 7)⟩,
 ⟨some 21, some (18, true), .call 41 [(1, (.t 19)), (1, (.t 20))]⟩,
 ⟨some 22, some (18, true), .mv (.t 1)⟩,
 ⟨some 23, some (18, true), .call 43 [(1, (.t 21)), (1, (.t 22))]⟩,
 ⟨some 24, some (18, true), .bin .geq (.t 23) (.k (.i .i64 0))⟩,
 qr 25 (.pick (.t 18) (.t 24) (.k (.b false)))])
 (.cond (.t 25)
 (.reg [qm 26 6,
 qr 27 (.call 42 []),
 qr 28 (.call 41 [(1, (.t 26)), (1, (.t 27))]),
 qm 6 28])
 (.skip)))
 (.seq (.reg [qm 29 6,
 qm 30 8,
 qm 4 29,
 qm 5 30])
 (.ret))))
theorem rnear_spec (a b : List Nat) (ha : Wd a) (hb : Wd b) (la : a.length ≤ 1000000000) (lb : b.length ≤ 1000000000) :
    AFun Try.prog J0 17 [.l 1 (W a), .l 1 (W b)] (.t [.l 1 (W (nrQ (nv B a) (nv B b))), .i .i64 (qE (nv B b))]) := by
  obtain ⟨m, hm⟩ : ∃ m, m = 1000000000 := ⟨_, rfl⟩
  have lam : a.length ≤ m := by omega
  have hq := rquo_spec a b ha hb la lb
  have hql := qQ_len (v := nv B b) (nvlt ha la)
  have hrl := qR_len (v := nv B b) (nvlt ha la)
  have hrr := radd_spec (qR (nv B a) (nv B b)) (qR (nv B a) (nv B b)) (qR_Wd _ _) (qR_Wd _ _) (by omega) (by omega)
  have had := radd_spec (qQ (nv B a) (nv B b)) [1] (qQ_Wd _ _) (Wd1 (by decide)) (by omega) (by decide)
  rw [qQ_nv, nv_one] at had
  refine mkQ fol J0s Try.func17 a17 ?_
  unfold a17
  simp only [init_eq, initE, qm, qr, qn]
  by_cases h0 : nv B b = 0
  · rw [show nrQ (nv B a) (nv B b) = [] from if_pos h0]
    rw [h0, qQ_0] at hq
    rw [h0]
    exact wdQ (ai @qE_0 (ai @lconsA (ai @lnilA @bz_R2)))
  · have e := qE_p (v := nv B b) (by omega)
    have hR : nv B (qR (nv B a) (nv B b)) = nv B a % nv B b := by rw [qR_p (by omega), nv_dgB]
    rw [hR] at hrr
    have hr2 : (dg B (nv B a % nv B b + nv B a % nv B b)).length ≤ m + 1 := dlen (padd (Nat.lt_of_le_of_lt (Nat.mod_le _ _) (nvlt ha lam)) (Nat.lt_of_le_of_lt (Nat.mod_le _ _) (nvlt ha lam)))
    have hcm := rcmp_spec (dg B (nv B a % nv B b + nv B a % nv B b)) b (Wd_dg _) hb (by omega) (by omega)
    rw [nv_dgB] at hcm
    by_cases h1 : nv B a % nv B b + nv B a % nv B b < nv B b
    · have hs : (0 ≤ sg (nv B a % nv B b + nv B a % nv B b) (nv B b)) = False := by
        have := sg_lt (x := nv B a % nv B b + nv B a % nv B b) (y := nv B b)
        exact eq_false (fun h => by have := this.mpr h1; omega)
      rw [show nrQ (nv B a) (nv B b) = qQ (nv B a) (nv B b) from (if_neg h0).trans (if_pos h1)]
      exact wdQ (ai @hs (ai @e (ai @lconsA (ai @lnilA @bz_R2))))
    · have hs : (0 ≤ sg (nv B a % nv B b + nv B a % nv B b) (nv B b)) = True := by
        have := sg_lt (x := nv B a % nv B b + nv B a % nv B b) (y := nv B b)
        refine eq_true (Int.not_lt.1 fun h => h1 (this.mp h))
      rw [show nrQ (nv B a) (nv B b) = dg B (nv B a / nv B b + 1) from (if_neg h0).trans (if_neg h1)]
      have zc4 := one_spec
      exact wdQ (ai @hs (ai @e (ai @lconsA (ai @lnilA @bz_R2))))
end Go.Proofs.Ytdaedplbhpiacaa
namespace Go.Proofs.Ytdaedplbhpiacaa
open Go Go.RowKit Ab
set_option linter.unusedSimpArgs false
set_option linter.unusedVariables false
set_option maxHeartbeats 10000000
end Go.Proofs.Ytdaedplbhpiacaa
