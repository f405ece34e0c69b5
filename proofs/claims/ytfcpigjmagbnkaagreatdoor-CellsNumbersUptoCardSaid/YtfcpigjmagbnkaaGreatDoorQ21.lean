/-
  Rows by a word, all of them; half way between; the least power of two that is finer.
-/
import Derived.Test.YtfcpigjmagbnkaaGreatDoorQ20
namespace Go.Proofs.YtfcpigjmagbnkaaGreatDoor
open Go Go.RowKit Ab
set_option linter.unusedSimpArgs false
set_option linter.unusedVariables false
set_option maxHeartbeats 10000000
theorem bz_Q21 : type_of% (And.intro @W_len (And.intro @D_len (And.intro @Nat.div_one (And.intro @Nat.mul_one (And.intro @tn_nat (And.intro @W_nf (And.intro @D_nf (And.intro @W_nil (And.intro @D_nil (And.intro @wi (And.intro @nf_g (And.intro @Bool.false_and (@W_cell))))))))))))) := And.intro @W_len (And.intro @D_len (And.intro @Nat.div_one (And.intro @Nat.mul_one (And.intro @tn_nat (And.intro @W_nf (And.intro @D_nf (And.intro @W_nil (And.intro @D_nil (And.intro @wi (And.intro @nf_g (And.intro @Bool.false_and (@W_cell))))))))))))
theorem ma_step {a : List Nat} {w c i : Nat} : nv B (a.take (i + 1)) * w + c = (nv B (a.take i) * w + c) + B ^ i * (a.getD i 0 * w) := by
  rw [nv_take_succ', Nat.add_mul, Nat.mul_assoc]; omega
theorem ma_lt {a : List Nat} {w c : Nat} (ha : Wd a) (hw : w < B) (hc : c < B) (i : Nat) : (nv B (a.take i) * w + c) / B ^ i < B := by
  refine (Nat.div_lt_iff_lt_mul (Nat.pow_pos B0)).2 ?_
  have h1 := nv_take_lt (b := B) (by decide) ha i
  have h2 : nv B (a.take i) * w ≤ (B ^ i - 1) * (B - 1) := Nat.mul_le_mul (by omega) (by omega)
  have h3 : (B ^ i - 1) * (B - 1) + (B - 1) = B ^ i * (B - 1) := by
    rw [← Nat.succ_mul]; congr 1; have := Nat.pow_pos (n := i) B0; omega
  have h4 : B * B ^ i = B ^ i * (B - 1) + B ^ i := by
    rw [Nat.mul_comm, ← Nat.mul_succ]; rfl
  have := Nat.pow_pos (n := i) B0
  omega
theorem ma_next {T i y : Nat} : (T + B ^ i * y) / B ^ (i + 1) = (y + T / B ^ i) / B ∧ (T + B ^ i * y) / B ^ i % B = (y + T / B ^ i) % B ∧ fl B i (T + B ^ i * y) = fl B i T := by
  refine ⟨?_, ?_, fl_congr B0 (Nat.add_mul_mod_self_left _ _ _)⟩
  · rw [Nat.pow_succ, ← Nat.div_div_eq_div_mul, Nat.add_mul_div_left _ _ (Nat.pow_pos B0), Nat.add_comm]
  · rw [Nat.add_mul_div_left _ _ (Nat.pow_pos B0), Nat.add_comm]
def a136 : AC := .seq (.reg [qr 6 (.mv (.k .nl)),
 qr 7 (.mv (.k (.i .u64 0)))])
 (.seq (.reg [qm 11 0,
 qr 12 (.len (.t 11)),
 qr 13 (.mk 39 1 8 [(.i .u64 0)] (.t 12) (.t 12)),
 qm 8 13])
 (.seq (.seq (.reg [qm 14 0,
 qr 15 (.len (.t 14)),
 qr 16 (.mv (.k (.i .i64 0)))])
 (.blk 0
 (.loop
 (.seq (.reg [qr 17 (.bin .lss (.t 16) (.t 15))])
 (.seq (.cond (.t 17)
 (.skip)
 (.exit 0))
 (.seq (.blk 1
 (.seq (.reg [qm 18 16,
 qr 19 (.idx 1 (.t 14) (.t 16)),
 qr 20 (.ld false 1 (.t 19)),
 qm 9 18,
 qm 10 20])
 (.reg [qm 22 8,
 qm 23 9,
 qm 24 10,
 qm 25 1,
 qm 26 2,
 qr 27 (.call 158 [(1, (.t 24)), (1, (.t 25)), (1, (.t 26)), (1, (.k (.i .u64 0)))]),
 qm 21 27,
 qr 28 (.ext (.t 21) 0),
 qr 29 (.ext (.t 21) 1),
 qm 2 28,
 qr 30 (.idx 1 (.t 22) (.t 23)),
 qn (.st 1 (.t 30) (.t 29))])))
 (.reg [qr 31 (.bin .add (.t 16) (.k (.i .i64 1))),
 qm 16 31])))))))
 (.seq (.reg [qm 32 8,
 qm 33 2,
 qm 6 32,
 qm 7 33])
 (.ret))))
theorem mulAdd_spec (a : List Nat) (w c : Nat) (ha : Wd a) (hw : w < 18446744073709551616) (hc : c < 18446744073709551616) (la : a.length ≤ 1099511627776) :
    AFun Tryz.prog J0 136 [.l 1 (W a), .i .u64 (w : Int), .i .u64 (c : Int)] (.to 39 1 (W (fl B a.length (nv B a * w + c))) [.i .u64 (((nv B a * w + c) / B ^ a.length : Nat) : Int)]) := by
  refine AFun.mkt fol J0s Tryz.func136 rfl (ac := a136) (by kernel_rfl) rfl (by decide) rfl (by decide) (hasL_t.trans (W_nf _)) rfl ?_
  apply vm_start
  unfold a136
  simp only [init_eq, initE, qm, qr, qn]
  refine spQ @bz_Q21 ?_
  refine vm_loopA [] Nat (fun i => ⟨[(1, .i .u64 (w : Int)), (2, .i .u64 (((nv B (a.take i) * w + c) / B ^ i : Nat) : Int)), (8, .ow 1 0 a.length), (14, .l 1 (W a)), (15, .i .i64 (a.length : Int)), (16, .i .i64 (i : Int))],
      [(0, some ⟨39, 1, W (fl B i (nv B (a.take i) * w + c) ++ List.replicate (a.length - i) 0), true, false⟩)], 1⟩)
    (fun i => i ≤ a.length) (fun i => a.length - i) 0 (Nat.zero_le _) (by exact leQ) (by
    simp (disch := (first | omega | assumption)) only [Sl, Sa, Sw, ↓reduceIte, Nat.reduceEqDiff, Nat.reduceLT, List.all_nil, List.all_cons, Nat.reduceBneDiff, Nat.reduceAdd, bne_iff_ne, ne_eq, reduceCtorEq, not_false_eq_true, not_true_eq_false, Bool.and_true, Bool.true_and, and_true, true_and, and_self, i_eq]
    refine ⟨by simp [nv], ?_⟩
    rw [Nat.sub_zero, fl, List.nil_append]; exact mk_W _) ?_
  intro i hi Q' hQ he hr
  by_cases h : (i : Int) < a.length
  · have hx := Wd_get ha i
    have hm := mulW_spec (a.getD i 0) w ((nv B (a.take i) * w + c) / B ^ i) 0 hx hw (ma_lt ha hw hc i) (by decide)
    rw [Nat.add_zero] at hm
    have hst := ma_step (a := a) (w := w) (c := c) (i := i)
    have hll : (fl B i (nv B (a.take i) * w + c) ++ List.replicate (a.length - i) 0).length = a.length := by rw [List.length_append, List.length_replicate, fl_len]; omega
    have hset : (fl B i (nv B (a.take i) * w + c) ++ List.replicate (a.length - i) 0).set i ((a.getD i 0 * w + (nv B (a.take i) * w + c) / B ^ i) % 18446744073709551616) = fl B (i + 1) (nv B (a.take (i + 1)) * w + c) ++ List.replicate (a.length - (i + 1)) 0 := by
      obtain ⟨n1, n2, n3⟩ := ma_next (T := nv B (a.take i) * w + c) (i := i) (y := a.getD i 0 * w)
      rw [hst, fl_succ, n2, n3, show a.length - i = (a.length - (i + 1)) + 1 from by omega, List.replicate_succ, List.set_append_right _ _ (by rw [fl_len]; exact Nat.le_refl _), fl_len, Nat.sub_self, List.set_cons_zero, List.append_assoc]
      rfl
    have hnx : (a.getD i 0 * w + (nv B (a.take i) * w + c) / B ^ i) / 18446744073709551616 = (nv B (a.take (i + 1)) * w + c) / B ^ (i + 1) := by
      rw [hst, (ma_next (T := nv B (a.take i) * w + c) (i := i) (y := a.getD i 0 * w)).1]; rfl
    generalize (nv B (a.take i) * w + c) / B ^ i = ci at *
    refine wkQ (ai @hset (ai @W_set (ai @hll (ai @W_len (ai @W_get (ai @h @bz_Q21)))))) ?_
    refine hQ _ (i + 1) (by omega) (by omega) ?_
    simp (disch := (first | omega | assumption)) only [Sl, Sa, Sw, ↓reduceIte, Nat.reduceEqDiff, Nat.reduceLT, List.all_nil, List.all_cons, Nat.reduceBneDiff, Nat.reduceAdd, bne_iff_ne, ne_eq, reduceCtorEq, not_false_eq_true, not_true_eq_false, Bool.and_true, Bool.true_and, and_true, true_and, and_self, i_eq]
    refine ⟨?_, ?_⟩ <;> first | omega | rw [hnx]
  · obtain rfl : i = a.length := by omega
    refine spQ (ai @h @bz_Q21) ?_
    refine he _ _ ?_
    refine spQ @bz_Q21 ?_
    rw [Nat.sub_self, List.replicate_zero, List.append_nil, List.take_length]
    exact ⟨⟨_, _, rfl, rfl⟩, rfl, trivial⟩
def a99 : AC := .seq (.reg [qr 4 (.mv (.k .nl))])
 (.seq (.reg [qm 8 0,
 qm 9 1,
 qr 10 (.call 136 [(1, (.t 8)), (1, (.t 9)), (1, (.k (.i .u64 0)))]),
 qm 7 10,
 qr 11 (.ext (.t 7) 0),
 qr 12 (.ext (.t 7) 1),
 qm 5 11,
 qm 6 12])
 (.seq (.reg [qm 13 5,
 qm 14 6,
 qr 15 (.bsl 39 1 1 [(.i .u64 0)] [(0, (.t 14))]),
 qr 16 (.app 39 1 8 (.t 13) (.t 15)),
 qr 17 (.call 137 [(1, (.t 16))]),
 qm 4 17])
 (.ret)))
theorem mtimes_spec (a : List Nat) (w : Nat) (ha : Wd a) (hw : w < 18446744073709551616) (la : a.length ≤ 1000000000) : AFun Tryz.prog J0 99 [.l 1 (W a), .i .u64 (w : Int)] (.o 39 1 (W (dg B (nv B a * w)))) := by
  have h1 := mulAdd_spec a w 0 ha hw (by decide) (by omega)
  rw [Nat.add_zero] at h1
  have hlt : nv B a * w / B ^ a.length < B := by
    have := ma_lt ha hw (show 0 < B by decide) a.length
    rwa [List.take_length, Nat.add_zero] at this
  have hb : nv B a * w < B ^ (a.length + 1) := by
    rw [Nat.pow_succ, Nat.mul_comm _ B]
    exact (Nat.div_lt_iff_lt_mul (Nat.pow_pos B0)).1 hlt
  have h2 := trim_spec (fl B (a.length + 1) (nv B a * w)) (by rw [fl_len]; omega)
  rw [dg_fl B2 hb] at h2
  have e : fl B (a.length + 1) (nv B a * w) = fl B a.length (nv B a * w) ++ [nv B a * w / B ^ a.length] := by rw [fl_succ, Nat.mod_eq_of_lt hlt]
  have lf := fl_len (b := B) a.length (nv B a * w)
  rw [e] at h2
  generalize nv B a * w / B ^ a.length = top at *
  generalize nv B a * w = v at *
  generalize fl B a.length v = f at *
  refine mkQ fol J0s Tryz.func99 a99 ?_
  unfold a99
  simp only [init_eq, initE, qm, qr, qn]
  repeat first | (refine hK _ ?_; clear hK K) | simp only [Sv, ↓reduceIte, Nat.reduceEqDiff] | ((first | refine vm_reg (fun K hK => ?_) | refine vm_dreg (fun K hK => ?_) | refine vm_dregx (fun K hK => ?_) | refine clp_q ?_ | refine clq_mk (by assumption) ?_ | refine mcq_q ?_ | (apply mcr_mk; assumption)); simp (disch := (first | omega | assumption)) only [S1, ↓reduceIte, Nat.reduceEqDiff, Nat.reduceAdd, Nat.reduceMul, Nat.reduceDiv, AOp.sb, AOp.mut, frzf, ↓Bool.false_eq_true, beq_self_eq_true, ite_self, Nat.reduceLeDiff, Int.reduceEq, Int.reduceSub, Int.reduceAdd, Int.reduceNeg, Int.reduceLT, Int.reduceLE, Nat.reduceLT, bz_Q21, lf, W_app1])
  simp (disch := (first | omega | assumption)) only [retOk, retN, ret1, retF, ret1F, V.okArg, and_true, true_and, S1, ↓reduceIte, Nat.reduceEqDiff, Nat.reduceAdd, Nat.reduceMul, Nat.reduceDiv, AOp.sb, AOp.mut, frzf, ↓Bool.false_eq_true, beq_self_eq_true, ite_self, Nat.reduceLeDiff, Int.reduceEq, Int.reduceSub, Int.reduceAdd, Int.reduceNeg, Int.reduceLT, Int.reduceLE, Nat.reduceLT, bz_Q21, lf, W_app1]
def a55 : AC := .seq (.reg [qr 2 (.bx 27 (.t 0)),
 qr 3 (.bx 27 (.t 1)),
 qr 4 (.al 27 [(.b false), (.l 1 []), (.l 1 [])]),
 qr 5 (.mv (.k (.i .i64 0)))])
 (.seq (.reg [qr 9 (.ld true 3 (.t 2)),
 qr 10 (.ld true 3 (.t 3)),
 qr 11 (.call 98 [(1, (.t 9)), (1, (.t 10))]),
 qm 8 11,
 qr 12 (.ext (.t 8) 0),
 qr 13 (.ext (.t 8) 1),
 qr 6 (.al 27 [(.b false), (.l 1 []), (.l 1 [])]),
 qn (.st 3 (.t 6) (.t 12)),
 qm 7 13])
 (.seq (.seq (.reg [qm 14 7,
 qr 15 (.bin .neq (.t 14) (.k (.i .i64 0)))])
 (.cond (.t 15)
 (.seq (.reg [qr 16 (.bld [(.b false), (.l 1 []), (.l 1 [])] []),
 qm 17 7,
 qn (.st 3 (.t 4) (.t 16)),
 qm 5 17])
 (.ret))
 (.skip)))
 (.seq (.dreg [qr 18 (.fad 0 (.t 6)),
 qr 19 (.ld true 2 (.t 18)),
 qr 20 (.fad 2 (.t 6)),
 qr 21 (.ld false 1 (.t 20)),
 qr 22 (.call 99 [(1, (.t 21)), (1, (.k (.i .u64 2)))]),
 qr 23 (.call 85 [(1, (.t 19)), (1, (.t 22))]),
 qn (.st 3 (.t 4) (.t 23)),
 qr 5 (.mv (.k (.i .i64 0)))])
 (.ret))))
theorem qmid_spec (s t : Bool) (a b d e : List Nat) (m : Nat) (hm : m ≤ 10000000) (ha : Wd a) (hb : Wd b) (hd : Wd d) (he : Wd e) (la : a.length ≤ m) (lb : b.length ≤ m) (ld : d.length ≤ m) (le : e.length ≤ m) :
    AFun Tryz.prog J0 55 [rL s a d, rL t b e] (.t [rv (zv s a * (nv B e : Int) + zv t b * (nv B d : Int)) (nv B d * nv B e * 2), .i .i64 (re (nv B d * nv B e * 2))]) := by
  have h1 := qadd_spec s t a b d e m hm ha hb hd he la lb ld le
  have bS : (zv s a * (nv B e : Int) + zv t b * (nv B d : Int)).natAbs < B ^ (m + m + 1) := Nat.lt_of_le_of_lt (Int.natAbs_add_le _ _) (padd (mul_lt (zv_lt ha la) (nvlt he le)) (mul_lt (zv_lt hb lb) (nvlt hd ld)))
  have bD : nv B d * nv B e < B ^ (m + m) := mulN_lt (nvlt hd ld) (nvlt he le)
  generalize zv s a * (nv B e : Int) + zv t b * (nv B d : Int) = S at *
  generalize nv B d * nv B e = D0 at *
  by_cases h0 : D0 = 0
  · subst h0
    rw [rv_0, re_0] at h1
    rw [Nat.zero_mul, rv_0, re_0]
    refine mkcQ fol J0s Tryz.func55 a55 [.c 4 true 3, .t 5] ?_
    unfold a55
    simp only [init_eq, initE, qm, qr, qn]
    exact wcQ @bz_Q21
  · rw [rv_p _ h0, re_p h0] at h1
    have h02 : D0 * 2 ≠ 0 := by omega
    rw [rv_p _ h02, re_p h02]
    have bx : (rz S D0).natAbs < B ^ (m + m + 1) := Nat.lt_of_le_of_lt (rz_le' _ _) bS
    have by' : rden S D0 < B ^ (m + m) := Nat.lt_of_le_of_lt (rden_le _ _) bD
    have b2 : rden S D0 * 2 < B ^ (m + m + 1) := by rw [Nat.mul_two]; exact padd by' by'
    have t1 := (mtimes_spec (dg B (rden S D0)) 2 (Wd_dg _) (by decide) (Nat.le_trans (dlen by') (by omega))).frozen
    rw [nv_dgB] at t1
    have r1 := qred_spec (decide (rz S D0 < 0)) (dg B (rz S D0).natAbs) (dg B (rden S D0 * 2)) (m + m + 1) (by omega) (Wd_dg _) (Wd_dg _) (dlen bx) (dlen b2) (by rw [nv_dgB]; have := rden_pos (z := S) h0; omega)
    have e1 : rz (rz S D0) (rden S D0 * 2) = rz S (D0 * 2) ∧ rden (rz S D0) (rden S D0 * 2) = rden S (D0 * 2) := by
      have g0 := rG_pos (z := S) h0
      have k1 := rz_scale (z := rz S D0) (d := rden S D0 * 2) g0
      have k2 := rden_scale (z := rz S D0) (d := rden S D0 * 2) g0
      rw [rz_back, Nat.mul_right_comm, rden_back] at k1 k2
      exact ⟨k1.symm, k2.symm⟩
    rw [zv_N, nv_dgB, e1.1, e1.2] at r1
    generalize rz S (D0 * 2) = x2 at *
    generalize rden S (D0 * 2) = y2 at *
    generalize dg B (rden S D0 * 2) = t2 at *
    generalize rz S D0 = x at *
    generalize rden S D0 = y at *
    refine mkcQ fol J0s Tryz.func55 a55 [.c 4 true 3, .t 5] ?_
    unfold a55
    simp only [init_eq, initE, qm, qr, qn]
    exact wcQ @bz_Q21
def FinP (u d k : Nat) : Prop := d < u * 2 ^ k ∧ ∀ j, j < k → u * 2 ^ j ≤ d
theorem fin_ex {u d : Nat} (hu : u ≠ 0) : ∃ k, FinP u d k ∧ k ≤ bl d := by
  have key : ∀ n, (∃ k, FinP u d k ∧ k ≤ n) ∨ ∀ j, j ≤ n → u * 2 ^ j ≤ d := fun n => by
    induction n with
    | zero =>
      by_cases h : d < u * 2 ^ 0
      · exact .inl ⟨0, ⟨h, fun j hj => by omega⟩, Nat.le_refl _⟩
      · exact .inr fun j hj => by obtain rfl : j = 0 := by omega
                                  omega
    | succ n ih =>
      rcases ih with ⟨k, h1, h2⟩ | h
      · exact .inl ⟨k, h1, by omega⟩
      · by_cases h2 : d < u * 2 ^ (n + 1)
        · exact .inl ⟨n + 1, ⟨h2, fun j hj => h j (by omega)⟩, Nat.le_refl _⟩
        · exact .inr fun j hj => by
            rcases Nat.lt_or_ge j (n + 1) with h3 | h3
            · exact h j (by omega)
            · obtain rfl : j = n + 1 := by omega
              omega
  rcases key (bl d) with h | h
  · exact h
  · have h1 := h (bl d) (Nat.le_refl _)
    have h2 := bl_lt d
    have h3 : 1 * 2 ^ bl d ≤ u * 2 ^ bl d := Nat.mul_le_mul_right _ (by omega)
    omega
theorem fin_bl {u d k : Nat} (hu : u ≠ 0) (hd : d ≠ 0) (h : FinP u d k) : (k = bl d - bl u ∧ d < u * 2 ^ (bl d - bl u)) ∨ (k = bl d - bl u + 1 ∧ ¬ d < u * 2 ^ (bl d - bl u)) := by
  obtain ⟨h1, h2⟩ := h
  obtain ⟨u1, u2⟩ := bl_le hu
  have u3 := bl_lt u
  obtain ⟨d1, d2⟩ := bl_le hd
  have d3 := bl_lt d
  have lo : bl d - bl u ≤ k := by
    rcases Nat.lt_or_ge k (bl d - bl u) with hk | hk
    · exfalso
      have h3 : u * 2 ^ k < 2 ^ bl u * 2 ^ k := Nat.mul_lt_mul_of_pos_right u3 (Nat.two_pow_pos k)
      rw [← Nat.pow_add] at h3
      have h4 : 2 ^ (bl u + k) ≤ 2 ^ (bl d - 1) := Nat.pow_le_pow_right (by decide) (by omega)
      omega
    · exact hk
  have hi : k ≤ bl d - bl u + 1 := by
    rcases Nat.lt_or_ge (bl d - bl u + 1) k with hk | hk
    · exfalso
      have h3 := h2 (bl d - bl u + 1) hk
      have h4 : 2 ^ (bl u - 1) * 2 ^ (bl d - bl u + 1) ≤ u * 2 ^ (bl d - bl u + 1) := Nat.mul_le_mul_right _ u1
      rw [← Nat.pow_add] at h4
      have h5 : 2 ^ bl d ≤ 2 ^ (bl u - 1 + (bl d - bl u + 1)) := Nat.pow_le_pow_right (by decide) (by omega)
      omega
    · exact hk
  by_cases hc : d < u * 2 ^ (bl d - bl u)
  · left
    refine ⟨?_, hc⟩
    rcases Nat.lt_or_ge (bl d - bl u) k with hk | hk
    · have := h2 _ hk; omega
    · omega
  · right
    refine ⟨?_, hc⟩
    rcases Nat.eq_or_lt_of_le lo with hk | hk
    · rw [← hk] at h1; exact absurd h1 hc
    · omega
def a82 : AC := .seq (.reg [qr 4 (.mv (.k .nl))])
 (.seq (.blk 0
 (.loop
 (.seq (.seq (.reg [qm 5 1,
 qr 6 (.bin .gtr (.t 5) (.k (.i .i64 1048576)))])
 (.cond (.t 6)
 (.skip)
 (.exit 0)))
 (.blk 1
 (.seq (.reg [qm 8 0,
 qr 9 (.call 123 [(1, (.t 8)), (1, (.k (.i .i64 1048576)))]),
 qm 7 9,
 qr 10 (.ext (.t 7) 0),
 qr 11 (.ext (.t 7) 1),
 qm 0 10])
 (.reg [qm 12 1,
 qr 13 (.bin .sub (.t 12) (.k (.i .i64 1048576))),
 qm 1 13]))))))
 (.seq (.reg [qm 15 0,
 qm 16 1,
 qr 17 (.call 123 [(1, (.t 15)), (1, (.t 16))]),
 qm 14 17,
 qr 18 (.ext (.t 14) 0),
 qr 19 (.ext (.t 14) 1),
 qm 0 18])
 (.seq (.reg [qm 20 0,
 qm 4 20])
 (.ret))))
theorem qshifted_spec (a : List Nat) (n M : Nat) (ha : Wd a) (hM : a.length + n ≤ M) (hM1 : M ≤ 10000000000) : AFun Tryz.prog J0 82 [.l 1 (W a), .i .i64 (n : Int)] (.l 1 (W (dg B (nv B a * 2 ^ n)))) := by
  obtain ⟨U, hU⟩ : ∃ U, U = nv B a * 2 ^ n := ⟨_, rfl⟩
  rw [← hU]
  refine mkQ fol J0s Tryz.func82 a82 ?_
  unfold a82
  simp only [init_eq, initE, qm, qr, qn]
  refine spQ @bz_Q21 ?_
  refine vm_loopA [] (List Nat × Nat) (fun x => ⟨[(0, .l 1 (W x.1)), (1, .i .i64 (x.2 : Int))], [], 0⟩)
    (fun x => Wd x.1 ∧ nv B x.1 * 2 ^ x.2 = U ∧ x.1.length + x.2 ≤ M) (fun x => x.2) (a, n) ⟨ha, hU.symm, hM⟩ (by exact leQ) (by
    exact ltQ) ?_
  rintro ⟨x, k⟩ ⟨hx, hv, hl⟩ Q' hQ he hr
  simp only [] at hx hv hl ⊢
  by_cases h : (1048576 : Int) < (k : Int)
  · obtain ⟨E, hE⟩ : ∃ E : Nat, E = 1048576 := ⟨_, rfl⟩
    have h2 := shl_spec x (E : Int) hx (by omega)
    rw [shlR_ok (by omega)] at h2
    have hb : nv B x * 2 ^ E < B ^ (x.length + 16384) := shl_len (nvlt hx (Nat.le_refl _)) (by omega)
    have hv2 : nv B x * 2 ^ E * 2 ^ (k - E) = U := by
      rw [Nat.mul_assoc, ← Nat.pow_add, show E + (k - E) = k from by omega]; exact hv
    generalize nv B x * 2 ^ E = y at *
    subst hE
    replace h2 : AFun Tryz.prog J0 123 [.l 1 (W x), .i .i64 1048576] (.t [.l 1 (W (dg B y)), .i .i64 0]) := h2
    have w1 : IntKind.i64.wrap ((k : Int) - 1048576) = ((k - 1048576 : Nat) : Int) := by rw [wi (by omega)]; omega
    refine wkQ (ai @w1 (ai @h @bz_Q21)) ?_
    refine hQ _ (dg B y, k - 1048576) ⟨Wd_dg _, by rw [nv_dgB]; exact hv2, by have := dlen hb; simp only; omega⟩ (by simp only; omega) ?_
    exact ltQ
  · have h2 := shl_spec x (k : Int) hx (by omega)
    rw [shlR_ok (by omega), hv] at h2
    refine spQ (ai @h @bz_Q21) ?_
    refine he _ _ ?_
    exact wdQ @bz_Q21
def a39 : AC := .seq (.reg [qr 1 (.bx 27 (.t 0)),
 qr 2 (.mv (.k (.i .i64 0))),
 qr 3 (.mv (.k (.i .i64 0)))])
 (.seq (.seq (.reg [qr 6 (.ld true 3 (.t 1)),
 qr 7 (.call 48 [(1, (.t 6))]),
 qm 4 7])
 (.seq (.reg [qm 8 4,
 qr 9 (.bin .neq (.t 8) (.k (.i .i64 0)))])
 (.cond (.t 9)
 (.seq (.reg [qm 10 4,
 qr 2 (.mv (.k (.i .i64 0))),
 qm 3 10])
 (.ret))
 (.skip))))
 (.seq (.seq (.reg [qr 11 (.fad 0 (.t 1)),
 qr 12 (.ld true 2 (.t 11)),
 qr 13 (.call 78 [(1, (.t 12))]),
 qr 14 (.bin .leq (.t 13) (.k (.i .i64 0)))])
 (.cond (.t 14)
 (.seq (.reg [qr 2 (.mv (.k (.i .i64 0))),
 qr 3 (.mv (.k (.i .i64 2)))])
 (.ret))
 (.skip)))
 (.seq (.dreg [qr 15 (.fad 2 (.t 1)),
 qr 16 (.ld false 1 (.t 15)),
 qr 17 (.call 79 [(1, (.t 16))]),
 qr 18 (.fad 0 (.t 1)),
 qr 19 (.ld true 2 (.t 18)),
 qr 20 (.call 80 [(1, (.t 19))]),
 qr 21 (.bin .sub (.t 17) (.t 20)),
 qr 22 (.mm true (.t 21) (.k (.i .i64 0))),
 qm 5 22])
 (.seq (.seq (.dreg [qr 23 (.fad 2 (.t 1)),
 qr 24 (.ld false 1 (.t 23)),
 qr 25 (.fad 0 (.t 1)),
 qr 26 (.ld true 2 (.t 25)),
 qr 27 (.call 83 [(1, (.t 26))]),
 qm 28 5,
 qr 29 (.call 82 [(1, (.t 27)), (1, (.t 28))]),
 qr 30 (.call 81 [(1, (.t 24)), (1, (.t 29))]),
 qr 31 (.bin .geq (.t 30) (.k (.i .i64 0)))])
 (.cond (.t 31)
 (.reg [qm 32 5,
 qr 33 (.bin .add (.t 32) (.k (.i .i64 1))),
 qm 5 33])
 (.skip)))
 (.seq (.reg [qm 34 5,
 qm 2 34,
 qr 3 (.mv (.k (.i .i64 0)))])
 (.ret))))))
theorem qfiner_k (s : Bool) (a d : List Nat) (k m : Nat) (hm : m ≤ 10000000) (ha : Wd a) (hd : Wd d) (la : a.length ≤ m) (ld : d.length ≤ m) (h0 : nv B d ≠ 0) (hs : 0 < zv s a) (hk : FinP (nv B a) (nv B d) k) : AFun Tryz.prog J0 39 [rL s a d] (.t [.i .i64 (k : Int), .i .i64 0]) := by
  have h1 := qcheck_spec s a d hd (by omega)
  rw [if_neg h0] at h1
  have h2 := zsign_spec s a ha (by omega)
  have hs1 : sgz (zv s a) = 1 := by unfold sgz; rw [if_neg (by omega), if_pos hs]
  rw [hs1] at h2
  have hu : nv B a ≠ 0 := fun h => by rw [zv_z.2 h] at hs; omega
  have h3 := natBits_spec d hd (by omega)
  have h4 := zbits_spec s a ha (by omega)
  have h5 := (zabs_spec s a ha (by omega)).frozen
  have c1 := bl_len ha
  have c2 := bl_len hd
  have h6 := qshifted_spec (dg B (nv B a)) (bl (nv B d) - bl (nv B a)) 1000000000 (Wd_dg _) (by have := dlen (nvlt ha la); omega) (by decide)
  rw [nv_dgB] at h6
  have hb : nv B a * 2 ^ (bl (nv B d) - bl (nv B a)) < B ^ (m + (bl (nv B d) - bl (nv B a))) := shl_len' (nvlt ha la) (by omega)
  have h7 := cmp_spec d (dg B (nv B a * 2 ^ (bl (nv B d) - bl (nv B a)))) hd (Wd_dg _) (by omega) (Nat.le_trans (dlen hb) (by omega))
  rw [nv_dgB] at h7
  have w1 : IntKind.i64.wrap ((bl (nv B d) : Int) - (bl (nv B a) : Int)) = (bl (nv B d) : Int) - (bl (nv B a) : Int) := wi (by omega)
  have w2 : max ((bl (nv B d) : Int) - (bl (nv B a) : Int)) 0 = ((bl (nv B d) - bl (nv B a) : Nat) : Int) := by omega
  have fb := fin_bl hu h0 hk
  have sgp := sg_ge (nv B d) (nv B a * 2 ^ (bl (nv B d) - bl (nv B a)))
  have hkb : bl (nv B d) - bl (nv B a) ≤ 1000000000 := by omega
  generalize hW : bl (nv B d) - bl (nv B a) = K0 at *
  generalize nv B a * 2 ^ K0 = UU at *
  rcases fb with ⟨rfl, hc⟩ | ⟨rfl, hc⟩
  · have g1 : ¬ (0 : Int) ≤ sg (nv B d) UU := by rw [sgp]; omega
    generalize sg (nv B d) UU = g at *
    refine mkQ fol J0s Tryz.func39 a39 ?_
    unfold a39
    simp only [init_eq, initE, qm, qr, qn]
    exact wdQ (ai @g1 (ai @w2 (ai @w1 @bz_Q21)))
  · have g1 : (0 : Int) ≤ sg (nv B d) UU := by rw [sgp]; omega
    generalize sg (nv B d) UU = g at *
    rw [show (((K0 + 1 : Nat)) : Int) = (K0 : Int) + 1 from rfl]
    refine mkQ fol J0s Tryz.func39 a39 ?_
    unfold a39
    simp only [init_eq, initE, qm, qr, qn]
    exact wdQ (ai @g1 (ai @w2 (ai @w1 @bz_Q21)))
end Go.Proofs.YtfcpigjmagbnkaaGreatDoor
