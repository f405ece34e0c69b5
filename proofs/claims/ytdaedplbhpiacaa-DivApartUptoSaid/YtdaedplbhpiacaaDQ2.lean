/-
  div.knuth: its answers as memory of the caller's own.
-/
import Derived.Test.YtdaedplbhpiacaaDQ1
namespace Go.Proofs.Ytdaedplbhpiacaa
open Go Go.RowKit Ab
set_option linter.unusedSimpArgs false
set_option linter.unusedVariables false
set_option maxHeartbeats 10000000
theorem bz_DQ2 : type_of% (And.intro @wi (And.intro @tn_nat (And.intro @Nat.div_one (And.intro @Nat.mul_one (And.intro @W_len (And.intro @W_nf (@W_cell))))))) := And.intro @wi (And.intro @tn_nat (And.intro @Nat.div_one (And.intro @Nat.mul_one (And.intro @W_len (And.intro @W_nf (@W_cell))))))
def twoK (A1 A2 : List Nat) (s : St) : Prop := ∃ i j n m, i ≠ j ∧ s.get 4 = .ow 1 i n ∧ s.get 5 = .ow 1 j m ∧ s.ob i = some ⟨24, 1, W A1, true, false⟩ ∧ s.ob j = some ⟨24, 1, W A2, true, false⟩
theorem knuth_walk (a b : List Nat) (ha : Wd a) (hb : Wd b) (la : a.length ≤ 1000000000) (h2 : 2 ≤ b.length) (hab : b.length ≤ a.length) (htop : b.getD (b.length - 1) 0 ≠ 0) :
    avc (AFun Try.prog J0) (XFun Try.prog) a31 (fun ex s => (ex = .normal ∨ ex = .ret) ∧ twoK (dg B (nv B a / nv B b)) (dg B (nv B a % nv B b)) s) ⟨[(0, .l 1 (W a)), (1, .l 1 (W b))], [], 0⟩ := by
  have hbt := Wd_get hb (b.length - 1)
  obtain ⟨n1, n2, n3⟩ := kn_norm hb (by omega) htop
  have hlz := lz64_spec (b.getD (b.length - 1) 0) hbt
  have hs64 : 64 - bl (b.getD (b.length - 1) 0) ≤ 64 := by omega
  have hshb := shl_spec b ((64 - bl (b.getD (b.length - 1) 0) : Nat) : Int) hb (by omega)
  have hsha := shl_spec a ((64 - bl (b.getD (b.length - 1) 0) : Nat) : Int) ha (by omega)
  rw [shlR, if_neg (by omega), tn_nat] at hshb hsha
  have hA := nv_lt ha
  have hsc := scale_div (U := nv B a) (y := nv B b) (s := 64 - bl (b.getD (b.length - 1) 0))
  have hbeg := kn_begin (s := 64 - bl (b.getD (b.length - 1) 0)) hab (by omega) hA n3
  have hAs : nv B a * 2 ^ (64 - bl (b.getD (b.length - 1) 0)) < B ^ (a.length + 1) := by
    have h64 : 2 ^ (64 - bl (b.getD (b.length - 1) 0)) ≤ B := Nat.pow_le_pow_right (n := 2) (by decide) hs64
    rw [Nat.pow_succ]
    exact Nat.lt_of_lt_of_le ((Nat.mul_lt_mul_right (Nat.two_pow_pos _)).2 hA) (Nat.mul_le_mul_left _ h64)
  generalize 64 - bl (b.getD (b.length - 1) 0) = s at *
  obtain ⟨n, hn⟩ : ∃ n, n = b.length := ⟨_, rfl⟩
  obtain ⟨m, hm⟩ : ∃ m, m = a.length := ⟨_, rfl⟩
  obtain ⟨Vs, hVs⟩ : ∃ v, v = nv B b * 2 ^ s := ⟨_, rfl⟩
  obtain ⟨As, hAe⟩ : ∃ v, v = nv B a * 2 ^ s := ⟨_, rfl⟩
  rw [← hVs, ← hn] at n1 n2
  rw [← hVs] at hshb hsc hbeg
  rw [← hAe] at hsha hsc hAs hbeg
  rw [← hm] at hAs hbeg
  rw [← hn] at hbeg
  have hvl : dg B Vs = fl B n Vs := (fl_full (by decide) (.inr n1) n2).symm
  rw [hvl] at hshb
  have hupl := dg_len (by decide : 2 ≤ B) hAs
  have hcat : [dg B As, List.replicate (m + 1 - (dg B As).length) 0].flatten = fl B (m + 1) As := by
    rw [← fl_pad hAs]; simp
  have hcon := concat_spec [dg B As, List.replicate (m + 1 - (dg B As).length) 0] (by simp) (by rw [hcat, fl_len]; omega)
  rw [hcat] at hcon
  have hlu : (fl B (m + 1) As).length = m + 1 := fl_len _ _
  have hlv : (fl B n Vs).length = n := fl_len _ _
  have hsub1 : ((m : Int) + 1 - ((dg B As).length : Int)).toNat = m + 1 - (dg B As).length := by omega
  have hge : (0 : Int) ≤ (m : Int) + 1 - ((dg B As).length : Int) := by omega
  apply vm_start
  unfold a31
  simp only [init_eq, initE, qm, qr, qn]
  have hQ1 : ((m : Int) + 1 - (n : Int)).toNat = m + 1 - n := by omega
  have hQ0 : (0 : Int) ≤ (m : Int) + 1 - (n : Int) := by omega
  repeat first | (refine hK _ ?_; clear hK K) | simp only [Sv, ↓reduceIte, Nat.reduceEqDiff] | ((first | refine vm_reg (fun K hK => ?_) | refine vm_dreg (fun K hK => ?_) | refine vm_dregx (fun K hK => ?_)); simp (disch := (first | omega | assumption)) only [S1, ↓reduceIte, Nat.reduceEqDiff, Nat.reduceAdd, Nat.reduceMul, Nat.reduceDiv, AOp.sb, AOp.mut, frzf, ↓Bool.false_eq_true, beq_self_eq_true, ite_self, Nat.reduceLeDiff, Int.reduceEq, Int.reduceSub, Int.reduceAdd, Int.reduceNeg, Int.reduceLT, Int.reduceLE, Nat.reduceLT, bz_DQ2, W_get, ← hn, tn_s1])
  refine clp_of _ _ (hlz) ?_ ?_
  · first | rfl | (simp (disch := (first | omega | assumption)) only [S1, ↓reduceIte, Nat.reduceEqDiff, Nat.reduceAdd, Nat.reduceMul, Nat.reduceDiv, AOp.sb, AOp.mut, frzf, ↓Bool.false_eq_true, beq_self_eq_true, ite_self, Nat.reduceLeDiff, Int.reduceEq, Int.reduceSub, Int.reduceAdd, Int.reduceNeg, Int.reduceLT, Int.reduceLE, Nat.reduceLT, bz_DQ2, W_get, ← hn, tn_s1])
  simp (disch := (first | omega | assumption)) only [S1, ↓reduceIte, Nat.reduceEqDiff, Nat.reduceAdd, Nat.reduceMul, Nat.reduceDiv, AOp.sb, AOp.mut, frzf, ↓Bool.false_eq_true, beq_self_eq_true, ite_self, Nat.reduceLeDiff, Int.reduceEq, Int.reduceSub, Int.reduceAdd, Int.reduceNeg, Int.reduceLT, Int.reduceLE, Nat.reduceLT, bz_DQ2, W_get, ← hn, tn_s1]
  repeat first | (refine hK _ ?_; clear hK K) | simp only [Sv, ↓reduceIte, Nat.reduceEqDiff] | ((first | refine vm_reg (fun K hK => ?_) | refine vm_dreg (fun K hK => ?_) | refine vm_dregx (fun K hK => ?_)); refine smQ @bz_DQ2 ?_)
  refine clp_of _ _ (hshb) ?_ ?_
  · exact rsQ @bz_DQ2
  refine smQ @bz_DQ2 ?_
  repeat first | (refine hK _ ?_; clear hK K) | simp only [Sv, ↓reduceIte, Nat.reduceEqDiff] | ((first | refine vm_reg (fun K hK => ?_) | refine vm_dreg (fun K hK => ?_) | refine vm_dregx (fun K hK => ?_)); refine smQ @bz_DQ2 ?_)
  refine clp_of _ _ (hsha) ?_ ?_
  · exact rsQ @bz_DQ2
  refine smQ @bz_DQ2 ?_
  repeat first | (refine hK _ ?_; clear hK K) | simp only [Sv, ↓reduceIte, Nat.reduceEqDiff] | ((first | refine vm_reg (fun K hK => ?_) | refine vm_dreg (fun K hK => ?_) | refine vm_dregx (fun K hK => ?_)); simp (disch := (first | omega | assumption)) only [S1, ↓reduceIte, Nat.reduceEqDiff, Nat.reduceAdd, Nat.reduceMul, Nat.reduceDiv, AOp.sb, AOp.mut, frzf, ↓Bool.false_eq_true, beq_self_eq_true, ite_self, Nat.reduceLeDiff, Int.reduceEq, Int.reduceSub, Int.reduceAdd, Int.reduceNeg, Int.reduceLT, Int.reduceLE, Nat.reduceLT, bz_DQ2, ← hm, hsub1, mk_W])
  refine clp_of _ _ (hcon) ?_ ?_
  · first | rfl | (simp (disch := (first | omega | assumption)) only [S1, ↓reduceIte, Nat.reduceEqDiff, Nat.reduceAdd, Nat.reduceMul, Nat.reduceDiv, AOp.sb, AOp.mut, frzf, ↓Bool.false_eq_true, beq_self_eq_true, ite_self, Nat.reduceLeDiff, Int.reduceEq, Int.reduceSub, Int.reduceAdd, Int.reduceNeg, Int.reduceLT, Int.reduceLE, Nat.reduceLT, bz_DQ2, ← hm, hsub1, mk_W])
  simp (disch := (first | omega | assumption)) only [S1, ↓reduceIte, Nat.reduceEqDiff, Nat.reduceAdd, Nat.reduceMul, Nat.reduceDiv, AOp.sb, AOp.mut, frzf, ↓Bool.false_eq_true, beq_self_eq_true, ite_self, Nat.reduceLeDiff, Int.reduceEq, Int.reduceSub, Int.reduceAdd, Int.reduceNeg, Int.reduceLT, Int.reduceLE, Nat.reduceLT, bz_DQ2, ← hm, hsub1, mk_W]
  try (refine hK _ ?_; clear hK K)
  refine spQ (ai @mk_W (ai @hQ1 (ai @hlu @bz_DQ2))) ?_
  have hVn : 0 < Vs := Nat.lt_of_lt_of_le (Nat.pow_pos (by decide)) n1
  refine vm_loopA [] Nat (fun i => ⟨[(6, .i .i64 (n : Int)), (7, .i .i64 (s : Int)), (8, .l 1 (W (fl B n Vs))), (12, .ow 1 0 (m + 1)), (13, .ow 1 1 (m + 1 - n)), (14, .i .i64 ((i : Int) - 1))],
      [(0, some ⟨24, 1, W (uL As Vs m n i), true, false⟩), (1, some ⟨24, 1, W (qL As Vs (m + 1 - n) i), true, false⟩)], 2⟩)
    (fun i => i ≤ m + 1 - n) (fun i => i) (m + 1 - n) (Nat.le_refl _) (by exact leQ) (by
    simp (disch := (first | omega | assumption)) only [Sl, Sa, Sw, ↓reduceIte, Nat.reduceEqDiff, Nat.reduceLT, List.all_nil, List.all_cons, Nat.reduceBneDiff, Nat.reduceAdd, bne_iff_ne, ne_eq, reduceCtorEq, not_false_eq_true, not_true_eq_false, Bool.and_true, Bool.true_and, and_true, true_and, and_self, i_eq]
    refine ⟨by omega, ?_, ?_⟩
    · rw [← uL_top (by omega) hbeg]
    · unfold qL; rw [Nat.sub_self, Nat.div_eq_of_lt hbeg]; simp [fl]) ?_
  intro i hi Q' hQ he hr
  cases i with
  | zero =>
    have hu0 : (uL As Vs m n 0).take n = fl B n (As % Vs) := by
      unfold uL; rw [Nat.pow_zero, Nat.div_one, fl, List.nil_append, List.take_append_of_le_length (by rw [fl_len]; exact Nat.le_refl _), List.take_of_length_le (by rw [fl_len]; exact Nat.le_refl _)]
    have hul : (uL As Vs m n 0).length = m + 1 := by unfold uL; rw [List.length_append, List.length_append, fl_len, fl_len, List.length_replicate]; omega
    have hq0 : qL As Vs (m + 1 - n) 0 = fl B (m + 1 - n) (As / Vs) := by unfold qL; rw [Nat.pow_zero, Nat.div_one]; rfl
    have hRn : As % Vs < B ^ n := Nat.lt_trans (Nat.mod_lt _ hVn) n2
    have hQb : As / Vs < B ^ (m + 1 - n) := by
      refine (Nat.div_lt_iff_lt_mul hVn).2 ?_
      rw [Nat.mul_comm]
      exact (Nat.div_lt_iff_lt_mul (Nat.pow_pos (by decide))).1 hbeg
    have hsh := shrO (fl B n (As % Vs)) (s : Int) (fl_Lt (by decide) _ _) (by rw [fl_len]; omega) (by omega)
    rw [shrR, if_neg (by omega), tn_nat, nv_fl, Nat.mod_eq_of_lt hRn, hsc.2] at hsh
    have hno := norm_spec (fl B (m + 1 - n) (As / Vs)) (by rw [fl_len]; omega)
    rw [dg_fl (by decide : 2 ≤ B) hQb] at hno
    try (refine hK _ ?_; clear hK K)
    refine spQ @bz_DQ2 ?_
    refine he _ _ ?_
    rw [hq0, ← hsc.1]
    try (refine hK _ ?_; clear hK K)
    refine wkQ (ai @hu0 (ai @W_take (ai @hul @bz_DQ2))) ?_
    exact ⟨.inr trivial, _, _, _, _, by decide, rfl, rfl, rfl, rfl⟩
  | succ j =>
    have hj : (((j + 1 : Nat) : Int) - 1) = (j : Int) := by omega
    have hnle : n ≤ 1099511627776 := by omega
    have hnm : n ≤ m + 1 - j := by omega
    have hjm : j + 1 + n ≤ m + 1 := by omega
    have hx : As / B ^ j % B < B := Nat.mod_lt _ (by decide)
    have hR : As / B ^ (j + 1) % Vs < Vs := Nat.mod_lt _ hVn
    have e0 : As / B ^ j = As / B ^ j % B + B * (As / B ^ (j + 1)) := by
      rw [Nat.pow_succ, ← Nat.div_div_eq_div_mul]; have := Nat.div_add_mod (As / B ^ j) B; omega
    obtain ⟨s1, s2, s3, s4⟩ := divOne_step (V := As / B ^ (j + 1)) hVn hx
    rw [← e0] at s1 s2 s3
    rw [uL_win]
    have hUlt : As / B ^ (j + 1) % Vs * B + As / B ^ j % B < Vs * B := by
      have := Nat.mul_le_mul_right B (show As / B ^ (j + 1) % Vs + 1 ≤ Vs from hR)
      rw [Nat.add_mul, Nat.one_mul] at this; omega
    obtain ⟨U, hU⟩ : ∃ U, U = As / B ^ (j + 1) % Vs * B + As / B ^ j % B := ⟨_, rfl⟩
    rw [← hU] at s1 s3 s4 hUlt ⊢
    have hX : (fl B j As).length = j := fl_len _ _
    have hAl : (fl B n U).length = n := fl_len _ _
    have hUB : U < B ^ n * B := Nat.lt_of_lt_of_le hUlt (Nat.mul_le_mul_right B (Nat.le_of_lt n2))
    have htB : U / B ^ n < B := (Nat.div_lt_iff_lt_mul (Nat.pow_pos (by decide))).2 (by rw [Nat.mul_comm]; exact hUB)
    have htm : U / B ^ n % B = U / B ^ n := Nat.mod_eq_of_lt htB
    obtain ⟨k, hk⟩ : ∃ k, n = k + 2 := ⟨n - 2, by omega⟩
    generalize hZ : List.replicate (m + 1 - (j + 1) - n) 0 = Z
    have hZl := congrArg List.length hZ
    rw [List.length_replicate] at hZl
    have w0 := win_len (t := U / B ^ n % B) (Z := Z) hX hAl
    have w1 := win_top (t := U / B ^ n % B) (Z := Z) hX hAl
    have w2 := win_get (t := U / B ^ n % B) (Z := Z) hX hAl (k := n - 1) (by omega) (i := j + (n - 1)) rfl
    have w3 := win_get (t := U / B ^ n % B) (Z := Z) hX hAl (k := n - 2) (by omega) (i := j + (n - 2)) rfl
    have w4 := win_cut (t := U / B ^ n % B) (Z := Z) hX hAl
    rw [fl_get _ _ _ (by omega)] at w2 w3
    have v1 := fl_get (b := B) n Vs (n - 1) (by omega)
    have v2 := fl_get (b := B) n Vs (n - 2) (by omega)
    have hn1 : n - 1 = k + 1 := by omega
    have hn2 : n - 2 = k := by omega
    rw [hn1] at w2 v1 n1
    rw [hn2] at w3 v2
    have ml : ∀ z : Nat, z % B < 18446744073709551616 := fun z => Nat.mod_lt z (by decide)
    have hv1 : Vs / B ^ (k + 1) < B := (Nat.div_lt_iff_lt_mul (Nat.pow_pos (by decide))).2 (by rw [← Nat.pow_succ', show (k + 1).succ = n from by omega]; exact n2)
    have hv1m : Vs / B ^ (k + 1) % B = Vs / B ^ (k + 1) := Nat.mod_eq_of_lt hv1
    have q1 : U / B ^ n % B ≤ Vs / B ^ (k + 1) % B := by
      rw [htm, hv1m, hk, Nat.pow_succ, Nat.mul_comm, ← Nat.div_div_eq_div_mul]
      refine Nat.div_le_div_right ?_
      exact Nat.le_of_lt ((Nat.div_lt_iff_lt_mul (by decide)).2 hUlt)
    have q2 : 0 < Vs / B ^ (k + 1) % B := by
      rw [hv1m]; exact (Nat.le_div_iff_mul_le (Nat.pow_pos (by decide))).2 (by rw [Nat.one_mul]; exact n1)
    have gs := guess_spec (U / B ^ n % B) (U / B ^ (k + 1) % B) (U / B ^ k % B) (Vs / B ^ (k + 1) % B) (Vs / B ^ k % B) q1 q2 (ml _) (ml _) (ml _) (ml _)
    have t1 : (U / B ^ n % B * 18446744073709551616 + U / B ^ (k + 1) % B) * 18446744073709551616 + U / B ^ k % B = U / B ^ k := by
      rw [htm, hk]; exact kn_top
    have t2 : Vs / B ^ (k + 1) % B * 18446744073709551616 + Vs / B ^ k % B = Vs / B ^ k := kn_top2 (by rw [← hk]; exact n2)
    rw [t1, t2] at gs
    have hVk : B ≤ Vs / B ^ k := (Nat.le_div_iff_mul_le (Nat.pow_pos (by decide))).2 (by rw [← Nat.pow_succ']; exact n1)
    obtain ⟨kg1, kg2⟩ := kn_guess (Nat.pow_pos (by decide : 0 < B) : 0 < B ^ k) hUlt hVk
    have gB : min 18446744073709551615 (U / B ^ k / (Vs / B ^ k)) < 18446744073709551616 := by omega
    obtain ⟨g, hg⟩ : ∃ g, g = min 18446744073709551615 (U / B ^ k / (Vs / B ^ k)) := ⟨_, rfl⟩
    rw [← hg] at gs gB
    have kg1' : U / Vs ≤ g := by rw [hg]; exact kg1
    have kg2' : g ≤ U / Vs + 1 := by rw [hg]; exact kg2
    have hj0 : (0 : Int) ≤ (j : Int) := by omega
    repeat first | (refine hK _ ?_; clear hK K) | simp only [Sv, ↓reduceIte, Nat.reduceEqDiff] | ((first | refine vm_reg (fun K hK => ?_) | refine vm_dreg (fun K hK => ?_) | refine vm_dregx (fun K hK => ?_)); refine smQ (ai @tn_s2 (ai @tn_s1 (ai @hlv (ai @hn2 (ai @hn1 (ai @v2 (ai @v1 (ai @w3 (ai @w2 (ai @w1 (ai @W_get (ai @tn_add2' (ai @tn_add1' (ai @tn_add' (ai @w0 (ai @hj0 (ai @hj @bz_DQ2))))))))))))))))) ?_)
    refine clp_of _ _ (gs) ?_ ?_
    · exact rsQ (ai @tn_s2 (ai @tn_s1 (ai @hlv (ai @hn2 (ai @hn1 (ai @v2 (ai @v1 (ai @w3 (ai @w2 (ai @w1 (ai @W_get (ai @tn_add2' (ai @tn_add1' (ai @tn_add' (ai @w0 (ai @hj0 (ai @hj @bz_DQ2)))))))))))))))))
    refine smQ (ai @tn_s2 (ai @tn_s1 (ai @hlv (ai @hn2 (ai @hn1 (ai @v2 (ai @v1 (ai @w3 (ai @w2 (ai @w1 (ai @W_get (ai @tn_add2' (ai @tn_add1' (ai @tn_add' (ai @w0 (ai @hj0 (ai @hj @bz_DQ2))))))))))))))))) ?_
    have hvd : nv B (fl B n Vs) = Vs := by rw [nv_fl, Nat.mod_eq_of_lt n2]
    have hms := mulSub_spec (fl B n U) (fl B n Vs) g (fl_Lt (by decide) _ _) (fl_Lt (by decide) _ _) gB (by omega) (by omega)
    rw [hvd, nv_fl, hAl] at hms
    obtain ⟨m1, m2⟩ := ms_def (A := U % B ^ n) (V := Vs) (w := g) (P := B ^ n) (Nat.mod_lt _ (Nat.pow_pos (by decide)))
    obtain ⟨c, hc⟩ : ∃ c, c = msC (U % B ^ n) Vs g (B ^ n) := ⟨_, rfl⟩
    rw [← hc] at hms m1 m2
    obtain ⟨o, ho⟩ : ∃ o, o = U % B ^ n + B ^ n * c - Vs * g := ⟨_, rfl⟩
    rw [← ho] at hms m1 m2
    have hcg := ms_le n2 (Nat.mod_lt U (Nat.pow_pos (by decide))) m1 m2
    obtain ⟨ks1, ks2⟩ := kn_sub (Nat.mod_lt U (Nat.pow_pos (by decide))) (Nat.mod_add_div U (B ^ n)).symm n2 hVn kg1' kg2' m1 m2
    have w5 := win_sub (t := U / B ^ n % B) (Z := Z) hX hAl
    have hol : (fl B n o).length = n := fl_len _ _
    have hcop := W_copy (A := fl B n U) (R := fl B n o) (Z := Z) (t := U / B ^ n % B) hX (by rw [hAl, hol])
    have w6 := win_len (t := U / B ^ n % B) (Z := Z) hX hol
    have w7 := win_top (t := U / B ^ n % B) (Z := Z) hX hol
    have w8 := fun t' => win_set (t := U / B ^ n % B) (Z := Z) hX hol t'
    repeat first | (refine hK _ ?_; clear hK K) | simp only [Sv, ↓reduceIte, Nat.reduceEqDiff] | ((first | refine vm_reg (fun K hK => ?_) | refine vm_dreg (fun K hK => ?_) | refine vm_dregx (fun K hK => ?_)); refine smQ (ai @Nat.add_sub_cancel_left (ai @w5 (ai @W_take (ai @W_drop (ai @w0 (ai @tn_add' (ai @hj @bz_DQ2))))))) ?_)
    refine clp_of _ _ (hms) ?_ ?_
    · exact rsQ (ai @Nat.add_sub_cancel_left (ai @w5 (ai @W_take (ai @W_drop (ai @w0 (ai @tn_add' (ai @hj @bz_DQ2)))))))
    refine smQ (ai @Nat.add_sub_cancel_left (ai @w5 (ai @W_take (ai @W_drop (ai @w0 (ai @tn_add' (ai @hj @bz_DQ2))))))) ?_
    repeat first | (refine hK _ ?_; clear hK K) | simp only [Sv, ↓reduceIte, Nat.reduceEqDiff] | ((first | refine vm_reg (fun K hK => ?_) | refine vm_dreg (fun K hK => ?_) | refine vm_dregx (fun K hK => ?_)); refine smQ (ai @w1 (ai @W_get (ai @tn_add' (ai @w0 @bz_DQ2)))) ?_)
    refine xlp_mk _ (sub64_x (U / B ^ n % B) c (by omega)) ?_
    refine smQ (ai @w1 (ai @W_get (ai @tn_add' (ai @w0 @bz_DQ2)))) ?_
    have htk : (fl B n o).take (m + 1 - j) = fl B n o := List.take_of_length_le (by omega)
    have hql := qL_len (As := As) (Vs := Vs) (Q := m + 1 - n) hi
    have hqs := fun d h => qL_set (As := As) (Vs := Vs) (d := d) hi h s2
    rw [s1] at hqs
    by_cases hcase : c ≤ U / B ^ n
    · obtain ⟨z1, z2, z3⟩ := ks1 hcase
      have hun : (if U / B ^ n % B < c then 1 else 0 : Nat) = 0 := if_neg (by rw [htm]; omega)
      have htop0 : (U / B ^ n % B + 18446744073709551616 - c) % 18446744073709551616 = 0 := by rw [htm, z2, Nat.add_sub_cancel_left]
      have hq2 := hqs g z1.symm
      have hlow := uL_low (As := As) (Vs := Vs) (m := m) (n := n) (j := j) (by omega) o (by rw [s3, z3])
      rw [hZ] at hlow
      try (refine hK _ ?_; clear hK K)
      refine spQ (ai @hq2 (ai @W_set (ai @hql (ai @hlow (ai @w8 (ai @W_set0 (ai @hcop (ai @htk (ai @W_take (ai @tn_add' (ai @w6 (ai @w0 (ai @htop0 (ai @hun (ai @hj @bz_DQ2))))))))))))))) ?_
      refine hQ _ j (by omega) (by omega) ?_
      exact ltQ
    · obtain ⟨z1, z2, z3⟩ := ks2 (Nat.lt_of_not_le hcase)
      have hun : (if U / B ^ n % B < c then 1 else 0 : Nat) = 1 := by rw [htm]; exact kn_un _ _ z2
      have htop1 : (U / B ^ n % B + 18446744073709551616 - c) % 18446744073709551616 = 18446744073709551615 := by rw [htm]; exact kn_m1 _ _ z2
      have hd1 : ((g : Nat) : Int) - 1 = ((U / Vs : Nat) : Int) := kn_d1 _ _ z1
      have hRB : U % Vs < B ^ n := Nat.lt_trans (Nat.mod_lt _ hVn) n2
      have had := limbAdd_fr (fl B n o) (fl B n Vs) (fl_Lt (by decide) _ _) (fl_Lt (by decide) _ _) (by rw [hol]; exact hnle) (by rw [hlv]; exact hnle)
      rw [nv_fl (b := B) n o, Nat.mod_eq_of_lt m1, hvd, hol, hlv, Nat.max_self, z3, Nat.add_div_right _ (Nat.pow_pos (by decide)), Nat.div_eq_of_lt hRB, fl_congr (by decide : 0 < B) (show (U % Vs + B ^ n) % B ^ n = (U % Vs) % B ^ n by rw [Nat.add_mod_right])] at had
      have w9 := win_len (t := 18446744073709551615) (Z := Z) hX hol
      have w10 := win_cut (t := 18446744073709551615) (Z := Z) hX hol
      have hwu : IntKind.wrap .u64 ((U / Vs : Nat) : Int) = ((U / Vs : Nat) : Int) := wuN _ (Nat.lt_of_le_of_lt kg1' gB)
      have w14 := win_sub (t := 18446744073709551615) (Z := Z) hX hol
      have hbl : (fl B n (U % Vs)).length = n := fl_len _ _
      have hcop2 := W_copy (A := fl B n o) (R := fl B n (U % Vs)) (Z := Z) (t := 18446744073709551615) hX (by rw [hbl, hol])
      have w11 := win_top (t := 18446744073709551615) (Z := Z) hX hbl
      have w12 := win_len (t := 18446744073709551615) (Z := Z) hX hbl
      have w13 := fun t' => win_set (t := 18446744073709551615) (Z := Z) hX hbl t'
      have htk2 : (fl B n (U % Vs)).take (m + 1 - j) = fl B n (U % Vs) := List.take_of_length_le (by rw [hbl]; exact hnm)
      have hq2 := hqs (U / Vs) rfl
      have hlow := uL_low (As := As) (Vs := Vs) (m := m) (n := n) (j := j) hjm (U % Vs) s3
      rw [hZ] at hlow
      try (refine hK _ ?_; clear hK K)
      refine wkQ (ai @hq2 (ai @W_set (ai @hql (ai @hlow (ai @w13 (ai @W_set0 (ai @wrapM (ai @w11 (ai @hcop2 (ai @htk2 (ai @W_get (ai @w12 (ai @hwu (ai @hd1 (ai @Nat.add_sub_cancel_left (ai @w14 (ai @w10 (ai @w9 (ai @w8 (ai @W_setM (ai @hcop (ai @htk (ai @W_drop (ai @W_take (ai @tn_add' (ai @w6 (ai @w0 (ai @htop1 (ai @hun (ai @hj @bz_DQ2)))))))))))))))))))))))))))))) ?_
      refine hQ _ j (Nat.le_of_succ_le hi) (Nat.lt_succ_self j) ?_
      exact ltQ
end Go.Proofs.Ytdaedplbhpiacaa
