/-
  Rational numbers: the least power of two that makes an integer; the document's finer power.
-/
import Derived.Test.YtbicpbaciplfcaaGreatDoorQ21
import Derived.Test.YtbicpbaciplfcaaGreatDoorNB
namespace Go.Proofs.YtbicpbaciplfcaaGreatDoor
open Go Go.RowKit Ab
set_option linter.unusedSimpArgs false
set_option linter.unusedVariables false
set_option maxHeartbeats 10000000
theorem bz_Q22 : type_of% (And.intro @W_len (And.intro @D_len (And.intro @Nat.div_one (And.intro @Nat.mul_one (And.intro @tn_nat (And.intro @W_nf (And.intro @D_nf (And.intro @W_nil (And.intro @D_nil (And.intro @wi (And.intro @nf_g (And.intro @Bool.false_and (@W_cell))))))))))))) := And.intro @W_len (And.intro @D_len (And.intro @Nat.div_one (And.intro @Nat.mul_one (And.intro @tn_nat (And.intro @W_nf (And.intro @D_nf (And.intro @W_nil (And.intro @D_nil (And.intro @wi (And.intro @nf_g (And.intro @Bool.false_and (@W_cell))))))))))))
theorem bl1 {y : Nat} (h : y ≠ 0) : bl y = 1 ↔ y = 1 := by
  constructor
  · intro h1
    have := bl_lt y
    rw [h1] at this
    omega
  · intro h1; subst h1; exact bl_uniq (k := 0) (by decide) (by decide)
theorem lv_law {u : Nat} (h : u ≠ 0) : bl u = ct u + 1 ↔ u / 2 ^ ct u = 1 := by
  obtain ⟨m, hm⟩ := ct_ex h
  have h1 : 2 ^ ct u ≤ u := by
    have : 2 ^ ct u * 1 ≤ 2 ^ ct u * (2 * m + 1) := Nat.mul_le_mul_left _ (by omega)
    omega
  have h2 := bl_div h1
  have h3 : u / 2 ^ ct u ≠ 0 := by have := Nat.div_pos h1 (Nat.two_pow_pos (ct u)); omega
  rw [← bl1 h3]
  omega
def lvV (z : Int) (d : Nat) : Int := if d = 0 then 0 else if bl (rden z d) = ct (rden z d) + 1 then (ct (rden z d) : Int) else 0
def lvE (z : Int) (d : Nat) : Int := if d = 0 then 1 else if bl (rden z d) = ct (rden z d) + 1 then 0 else 4
def a16 : AC := .seq (.reg [qr 1 (.bx 27 (.t 0)),
 qr 2 (.mv (.k (.i .i64 0))),
 qr 3 (.mv (.k (.i .i64 0)))])
 (.seq (.reg [qr 7 (.ld true 3 (.t 1)),
 qr 8 (.call 49 [(1, (.t 7))]),
 qm 6 8,
 qr 9 (.ext (.t 6) 0),
 qr 10 (.ext (.t 6) 1),
 qn (.st 3 (.t 1) (.t 9)),
 qm 4 10])
 (.seq (.seq (.reg [qm 11 4,
 qr 12 (.bin .neq (.t 11) (.k (.i .i64 0)))])
 (.cond (.t 12)
 (.seq (.reg [qm 13 4,
 qr 2 (.mv (.k (.i .i64 0))),
 qm 3 13])
 (.ret))
 (.skip)))
 (.seq (.reg [qr 14 (.fad 2 (.t 1)),
 qr 15 (.ld false 1 (.t 14)),
 qr 16 (.call 50 [(1, (.t 15))]),
 qm 5 16])
 (.seq (.seq (.reg [qr 17 (.fad 2 (.t 1)),
 qr 18 (.ld false 1 (.t 17)),
 qr 19 (.call 51 [(1, (.t 18))]),
 qm 20 5,
 qr 21 (.bin .add (.t 20) (.k (.i .i64 1))),
 qr 22 (.bin .neq (.t 19) (.t 21))])
 (.cond (.t 22)
 (.seq (.reg [qr 2 (.mv (.k (.i .i64 0))),
 qr 3 (.mv (.k (.i .i64 4)))])
 (.ret))
 (.skip)))
 (.seq (.reg [qm 23 5,
 qm 2 23,
 qr 3 (.mv (.k (.i .i64 0)))])
 (.ret))))))
theorem qlevel_spec (s : Bool) (a d : List Nat) (m : Nat) (hm : m ≤ 10000000) (ha : Wd a) (hd : Wd d) (la : a.length ≤ m) (ld : d.length ≤ m) : AFun Tryz.prog J0 16 [rL s a d] (.t [.i .i64 (lvV (zv s a) (nv B d)), .i .i64 (lvE (zv s a) (nv B d))]) := by
  have n1 := qnorm_spec s a d m (by omega) ha hd la ld
  unfold lvV lvE
  by_cases h0 : nv B d = 0
  · rw [h0, rv_0, re_0] at n1
    rw [if_pos h0, if_pos h0]
    refine mkQ fol J0s Tryz.func16 a16 ?_
    unfold a16
    simp only [init_eq, initE, qm, qr, qn]
    exact wdQ @bz_Q22
  · rw [rv_p _ h0, re_p h0] at n1
    rw [if_neg h0, if_neg h0]
    have hy : rden (zv s a) (nv B d) < B ^ m := Nat.lt_of_le_of_lt (rden_le _ _) (nvlt hd ld)
    have hp := rden_pos (z := zv s a) h0
    generalize rz (zv s a) (nv B d) = x at *
    generalize rden (zv s a) (nv B d) = y at *
    have t1 := twos_spec (dg B y) (Wd_dg _) (Nat.le_trans (dlen hy) (by omega))
    have b1 := natBits_spec (dg B y) (Wd_dg _) (Nat.le_trans (dlen hy) (by omega))
    have bb := bl_len (Wd_dg y)
    rw [nv_dgB] at t1 b1 bb
    have hb2 : bl y ≤ 1000000000 := by have := dlen hy; omega
    have hc := ct_lt (bl_lt y) hp
    by_cases h1 : bl y = ct y + 1
    · rw [if_pos h1, if_pos h1]
      have h1I : ((bl y : Nat) : Int) = ((ct y : Nat) : Int) + 1 := by omega
      rw [h1I] at b1
      generalize ct y = k at *
      refine mkQ fol J0s Tryz.func16 a16 ?_
      unfold a16
      simp only [init_eq, initE, qm, qr, qn]
      exact wdQ @bz_Q22
    · rw [if_neg h1, if_neg h1]
      have h1I : ¬ ((bl y : Nat) : Int) = ((ct y : Nat) : Int) + 1 := by omega
      generalize ct y = k at *
      generalize bl y = b at *
      refine mkQ fol J0s Tryz.func16 a16 ?_
      unfold a16
      simp only [init_eq, initE, qm, qr, qn]
      exact wdQ (ai @h1I @bz_Q22)
def a53 : AC := .seq (.reg [qr 4 (.mv (.k (.i .i64 0))),
 qr 5 (.mv (.k .nl)),
 qr 6 (.mv (.k (.i .i64 0)))])
 (.seq (.seq (.reg [qm 11 0,
 qr 12 (.call 82 [(1, (.t 11))])])
 (.cond (.t 12)
 (.seq (.reg [qr 4 (.mv (.k (.i .i64 0))),
 qr 5 (.mv (.k .nl)),
 qr 6 (.mv (.k (.i .i64 1)))])
 (.ret))
 (.skip)))
 (.seq (.seq (.reg [qm 13 1,
 qr 14 (.call 54 [(1, (.k (.i .i64 1)))]),
 qr 15 (.call 63 [(1, (.t 13)), (1, (.t 14))]),
 qr 16 (.bin .leq (.t 15) (.k (.i .i64 0)))])
 (.cond (.t 16)
 (.seq (.reg [qr 4 (.mv (.k (.i .i64 0))),
 qr 5 (.mv (.k .nl)),
 qr 6 (.mv (.k (.i .i64 3)))])
 (.ret))
 (.skip)))
 (.seq (.reg [qr 7 (.mv (.k (.i .i64 0)))])
 (.seq (.reg [qm 17 0,
 qr 18 (.call 62 [(1, (.t 17))]),
 qm 8 18])
 (.blk 0
 (.loop
 (.blk 1
 (.seq (.reg [qm 20 8,
 qm 21 1,
 qr 22 (.call 88 [(1, (.t 20)), (1, (.t 21))]),
 qm 19 22,
 qr 23 (.ext (.t 19) 0),
 qr 24 (.ext (.t 19) 1),
 qm 9 23,
 qm 10 24])
 (.seq (.seq (.reg [qm 25 10,
 qr 26 (.call 82 [(1, (.t 25))]),
 qr 27 (.un .not (.t 26))])
 (.cond (.t 27)
 (.seq (.reg [qm 28 7,
 qm 29 8,
 qm 4 28,
 qm 5 29,
 qr 6 (.mv (.k (.i .i64 0)))])
 (.ret))
 (.skip)))
 (.seq (.reg [qm 30 7,
 qr 31 (.bin .add (.t 30) (.k (.i .i64 1))),
 qm 7 31])
 (.reg [qm 32 9,
 qm 8 32])))))))))))
theorem rcount2_spec (d : List Nat) (m : Nat) (hm : m ≤ 10000000) (hd : Wd d) (ld : d.length ≤ m) (h0 : nv B d ≠ 0) : AFun Tryz.prog J0 53 [.l 1 (W d), .l 1 (W (dg B 2))] (.t [.i .i64 ((ct (nv B d) : Nat) : Int), .l 1 (W (dg B (nv B d / 2 ^ ct (nv B d)))), .i .i64 0]) := by
  have z1 := hzero_spec d hd (by omega)
  rw [decide_eq_false h0] at z1
  have w1 := (hword_spec 1 (by decide)).frozen
  have c1 := hcmpN_spec (dg B 2) (dg B 1) (Wd_dg _) (Wd_dg _) (Nat.le_trans (dlen (k := 1) (by decide)) (by decide)) (Nat.le_trans (dlen (k := 1) (by decide)) (by decide))
  rw [nv_dgB, nv_dgB, show sg 2 1 = 1 from by decide] at c1
  have n1 := (hnorm_spec d hd (by omega)).frozen
  have hu := nvlt hd ld
  have hcl : ct (nv B d) < 64 * m := ct_lt (by rw [show (2 : Nat) ^ (64 * m) = B ^ m from by rw [Nat.pow_mul]; rfl]; exact hu) h0
  obtain ⟨e1, e2⟩ := ct_bit h0
  obtain ⟨u, hu0⟩ : ∃ u, u = nv B d := ⟨_, rfl⟩
  rw [← hu0] at h0 n1 hu hcl e1 e2 ⊢
  refine mkQ fol J0s Tryz.func53 a53 ?_
  unfold a53
  simp only [init_eq, initE, qm, qr, qn]
  refine wkQ @bz_Q22 ?_
  refine vm_loopA [] Nat (fun i => ⟨[(1, .l 1 (W (dg B 2))), (7, .i .i64 (i : Int)), (8, .l 1 (W (dg B (u / 2 ^ i))))], [], 0⟩) (fun i => i ≤ ct u) (fun i => ct u - i) 0 (Nat.zero_le _) (by exact leQ) (by
    simp (disch := (first | omega | assumption)) only [Sl, Sa, Sw, ↓reduceIte, Nat.reduceEqDiff, Nat.reduceLT, List.all_nil, List.all_cons, Nat.reduceBneDiff, Nat.reduceAdd, bne_iff_ne, ne_eq, reduceCtorEq, not_false_eq_true, not_true_eq_false, Bool.and_true, Bool.true_and, and_true, true_and, and_self, i_eq]
    try simp) ?_
  intro i hi Q' hQ he hrr
  have q1 := hquo_spec (dg B (u / 2 ^ i)) (dg B 2) (Wd_dg _) (Wd_dg _) (Nat.le_trans (dlen (Nat.lt_of_le_of_lt (Nat.div_le_self _ _) hu)) (by omega)) (Nat.le_trans (dlen (k := 1) (by decide)) (by decide)) (by rw [nv_dgB]; decide)
  rw [nv_dgB, nv_dgB, Nat.div_div_eq_div_mul, ← Nat.pow_succ] at q1
  have z2 := hzero_spec (dg B (u / 2 ^ i % 2)) (Wd_dg _) (Nat.le_trans (dlen (k := 1) (by have := Nat.mod_lt (u / 2 ^ i) (show 0 < 2 by decide); rw [Nat.pow_one]; show _ < 18446744073709551616; omega)) (by decide))
  rw [nv_dgB] at z2
  by_cases h : i = ct u
  · subst h
    rw [e1] at z2 q1
    rw [decide_eq_false (by decide)] at z2
    generalize dg B (u / 2 ^ ct u) = q at *
    generalize dg B (u / 2 ^ (ct u).succ) = q' at *
    refine wkQ @bz_Q22 ?_
    refine hrr _ ?_
    exact pdQ @bz_Q22
  · rw [e2 i (by omega)] at z2 q1
    rw [decide_eq_true rfl] at z2
    refine wkQ @bz_Q22 ?_
    refine hQ _ (i + 1) (by omega) (by omega) ?_
    simp (disch := (first | omega | assumption)) only [Sl, Sa, Sw, ↓reduceIte, Nat.reduceEqDiff, Nat.reduceLT, List.all_nil, List.all_cons, Nat.reduceBneDiff, Nat.reduceAdd, bne_iff_ne, ne_eq, reduceCtorEq, not_false_eq_true, not_true_eq_false, Bool.and_true, Bool.true_and, and_true, true_and, and_self, i_eq]
    first | rfl | omega | exact ⟨by omega, rfl⟩
def a17 : AC := .seq (.reg [qr 1 (.bx 27 (.t 0)),
 qr 2 (.mv (.k (.i .i64 0))),
 qr 3 (.mv (.k (.i .i64 0)))])
 (.seq (.seq (.reg [qr 8 (.ld true 3 (.t 1)),
 qr 9 (.call 35 [(1, (.t 8))]),
 qr 10 (.un .not (.t 9))])
 (.cond (.t 10)
 (.seq (.reg [qr 2 (.mv (.k (.i .i64 0))),
 qr 3 (.mv (.k (.i .i64 1)))])
 (.ret))
 (.skip)))
 (.seq (.reg [qr 11 (.fad 0 (.t 1)),
 qr 12 (.ld true 2 (.t 11)),
 qr 13 (.fad 2 (.t 1)),
 qr 14 (.ld false 1 (.t 13)),
 qr 15 (.call 52 [(1, (.t 12)), (1, (.t 14))]),
 qr 16 (.fld false 2 1 (.t 15)),
 qm 4 16])
 (.seq (.reg [qm 18 4,
 qr 19 (.call 54 [(1, (.k (.i .i64 2)))]),
 qr 20 (.call 53 [(1, (.t 18)), (1, (.t 19))]),
 qm 17 20,
 qr 21 (.ext (.t 17) 0),
 qr 22 (.ext (.t 17) 1),
 qr 23 (.ext (.t 17) 2),
 qm 5 21,
 qm 6 22,
 qm 7 23])
 (.seq (.seq (.reg [qm 24 6,
 qr 25 (.call 54 [(1, (.k (.i .i64 1)))]),
 qr 26 (.call 55 [(1, (.t 24)), (1, (.t 25))]),
 qr 27 (.un .not (.t 26))])
 (.cond (.t 27)
 (.seq (.reg [qr 2 (.mv (.k (.i .i64 0))),
 qr 3 (.mv (.k (.i .i64 4)))])
 (.ret))
 (.skip)))
 (.seq (.reg [qm 28 5,
 qm 2 28,
 qr 3 (.mv (.k (.i .i64 0)))])
 (.ret))))))
theorem rlevel_spec (s : Bool) (a d : List Nat) (m : Nat) (hm : m ≤ 10000000) (ha : Wd a) (hd : Wd d) (la : a.length ≤ m) (ld : d.length ≤ m) : AFun Tryz.prog J0 17 [rL s a d] (.t [.i .i64 (lvV (zv s a) (nv B d)), .i .i64 (lvE (zv s a) (nv B d))]) := by
  have o1 := rOk_spec s a d hd (by omega)
  unfold lvV lvE
  by_cases h0 : nv B d = 0
  · rw [decide_eq_true h0] at o1
    rw [if_pos h0, if_pos h0]
    refine mkQ fol J0s Tryz.func17 a17 ?_
    unfold a17
    simp only [init_eq, initE, qm, qr, qn]
    exact wdQ @bz_Q22
  · rw [decide_eq_false h0] at o1
    rw [if_neg h0, if_neg h0]
    have n1 := rR_spec s a d m (by omega) ha hd la ld h0
    have hy : rden (zv s a) (nv B d) < B ^ m := Nat.lt_of_le_of_lt (rden_le _ _) (nvlt hd ld)
    have hp := rden_pos (z := zv s a) h0
    generalize rz (zv s a) (nv B d) = x at *
    generalize rden (zv s a) (nv B d) = y at *
    have w2 := (hword_spec 2 (by decide)).frozen
    have w1 := (hword_spec 1 (by decide)).frozen
    have c1 := rcount2_spec (dg B y) m hm (Wd_dg _) (dlen hy) (by rw [nv_dgB]; exact hp)
    rw [nv_dgB] at c1
    have e1 := hsame_spec (dg B (y / 2 ^ ct y)) (dg B 1) (Nat.le_trans (dlen (Nat.lt_of_le_of_lt (Nat.div_le_self _ _) hy)) (by omega)) (Nat.le_trans (dlen (k := 1) (by decide)) (by decide))
    have hinj : (dg B (y / 2 ^ ct y) = dg B 1) ↔ y / 2 ^ ct y = 1 := ⟨fun h => by have := congrArg (nv B) h; rwa [nv_dgB, nv_dgB] at this, fun h => by rw [h]⟩
    have hc := ct_lt (bl_lt y) hp
    by_cases h1 : bl y = ct y + 1
    · rw [if_pos h1, if_pos h1]
      rw [decide_eq_true (hinj.2 ((lv_law hp).1 h1))] at e1
      generalize dg B (y / 2 ^ ct y) = q at *
      generalize ct y = k at *
      refine mkQ fol J0s Tryz.func17 a17 ?_
      unfold a17
      simp only [init_eq, initE, qm, qr, qn]
      exact wdQ @bz_Q22
    · rw [if_neg h1, if_neg h1]
      rw [decide_eq_false (fun h => h1 ((lv_law hp).2 (hinj.1 h)))] at e1
      generalize dg B (y / 2 ^ ct y) = q at *
      generalize ct y = k at *
      refine mkQ fol J0s Tryz.func17 a17 ?_
      unfold a17
      simp only [init_eq, initE, qm, qr, qn]
      exact wdQ @bz_Q22
def a19 : AC := .seq (.reg [qr 1 (.bx 27 (.t 0)),
 qr 2 (.mv (.k (.i .i64 0))),
 qr 3 (.mv (.k (.i .i64 0)))])
 (.seq (.seq (.reg [qr 6 (.ld true 3 (.t 1)),
 qr 7 (.call 35 [(1, (.t 6))]),
 qr 8 (.un .not (.t 7))])
 (.cond (.t 8)
 (.seq (.reg [qr 2 (.mv (.k (.i .i64 0))),
 qr 3 (.mv (.k (.i .i64 1)))])
 (.ret))
 (.skip)))
 (.seq (.seq (.reg [qr 9 (.ld true 3 (.t 1)),
 qr 10 (.call 61 [(1, (.t 9))]),
 qr 11 (.bin .leq (.t 10) (.k (.i .i64 0)))])
 (.cond (.t 11)
 (.seq (.reg [qr 2 (.mv (.k (.i .i64 0))),
 qr 3 (.mv (.k (.i .i64 2)))])
 (.ret))
 (.skip)))
 (.seq (.reg [qr 4 (.mv (.k (.i .i64 0)))])
 (.seq (.reg [qr 12 (.fad 0 (.t 1)),
 qr 13 (.fad 1 (.t 12)),
 qr 14 (.ld false 1 (.t 13)),
 qr 15 (.call 62 [(1, (.t 14))]),
 qm 5 15])
 (.seq (.blk 0
 (.loop
 (.seq (.seq (.reg [qr 16 (.fad 2 (.t 1)),
 qr 17 (.ld false 1 (.t 16)),
 qm 18 5,
 qr 19 (.call 63 [(1, (.t 17)), (1, (.t 18))]),
 qr 20 (.bin .geq (.t 19) (.k (.i .i64 0)))])
 (.cond (.t 20)
 (.skip)
 (.exit 0)))
 (.blk 1
 (.seq (.reg [qm 21 5,
 qm 22 5,
 qr 23 (.call 64 [(1, (.t 21)), (1, (.t 22))]),
 qm 5 23])
 (.reg [qm 24 4,
 qr 25 (.bin .add (.t 24) (.k (.i .i64 1))),
 qm 4 25]))))))
 (.seq (.reg [qm 26 4,
 qm 2 26,
 qr 3 (.mv (.k (.i .i64 0)))])
 (.ret)))))))
theorem rfiner_k (s : Bool) (a d : List Nat) (k m : Nat) (hm : m ≤ 10000000) (ha : Wd a) (hd : Wd d) (la : a.length ≤ m) (ld : d.length ≤ m) (h0 : nv B d ≠ 0) (hs : 0 < zv s a) (hk : FinP (nv B a) (nv B d) k) : AFun Tryz.prog J0 19 [rL s a d] (.t [.i .i64 (k : Int), .i .i64 0]) := by
  have h1 := rOk_spec s a d hd (by omega)
  rw [decide_eq_false h0] at h1
  have h2 := rS_spec s a d ha (by omega)
  have hs1 : sgz (zv s a) = 1 := by unfold sgz; rw [if_neg (by omega), if_pos hs]
  rw [hs1] at h2
  have hu : nv B a ≠ 0 := fun h => by rw [zv_z.2 h] at hs; omega
  have h3 := (hnorm_spec a ha (by omega)).frozen
  have bu := nvlt ha la
  have bd := nvlt hd ld
  have c2 := bl_len hd
  have hkb : k ≤ 64 * m := by
    obtain ⟨k', hk1, hk2⟩ := fin_ex (u := nv B a) (d := nv B d) hu
    have : k = k' := by
      rcases Nat.lt_trichotomy k k' with h | h | h
      · have := hk1.2 k h; have := hk.1; omega
      · exact h
      · have := hk.2 k' h; have := hk1.1; omega
    omega
  obtain ⟨u, hu0⟩ : ∃ u, u = nv B a := ⟨_, rfl⟩
  rw [← hu0] at hk hu h3 bu
  have lt : ∀ i, i ≤ k → u * 2 ^ i < B ^ (m + 1) := fun i hi => by
    rcases Nat.eq_zero_or_pos i with h | h
    · subst h; rw [Nat.pow_zero, Nat.mul_one]; exact pup bu (by omega)
    · have := hk.2 (i - 1) (by omega)
      rw [show i = (i - 1) + 1 from by omega, Nat.pow_succ, ← Nat.mul_assoc, Nat.mul_two]
      exact padd (Nat.lt_of_le_of_lt this bd) (Nat.lt_of_le_of_lt this bd)
  refine mkQ fol J0s Tryz.func19 a19 ?_
  unfold a19
  simp only [init_eq, initE, qm, qr, qn]
  refine wkQ @bz_Q22 ?_
  refine vm_loopA [] Nat (fun i => ⟨[(1, .pt 0 0), (4, .i .i64 (i : Int)), (5, .l 1 (W (dg B (u * 2 ^ i))))], [(0, some ⟨27, 3, [.b s, .l 1 (W a), .l 1 (W d)], true, true⟩)], 1⟩) (fun i => i ≤ k) (fun i => k - i) 0 (Nat.zero_le _) (by exact leQ) (by
    simp (disch := (first | omega | assumption)) only [Sl, Sa, Sw, ↓reduceIte, Nat.reduceEqDiff, Nat.reduceLT, List.all_nil, List.all_cons, Nat.reduceBneDiff, Nat.reduceAdd, bne_iff_ne, ne_eq, reduceCtorEq, not_false_eq_true, not_true_eq_false, Bool.and_true, Bool.true_and, and_true, true_and, and_self, i_eq]
    try simp) ?_
  intro i hi Q' hQ he hrr
  have c1 := hcmpN_spec d (dg B (u * 2 ^ i)) hd (Wd_dg _) (by omega) (Nat.le_trans (dlen (lt i hi)) (by omega))
  rw [nv_dgB] at c1
  have sgp := sg_ge (nv B d) (u * 2 ^ i)
  have p1 := (hadd_spec (dg B (u * 2 ^ i)) (dg B (u * 2 ^ i)) (Wd_dg _) (Wd_dg _) (Nat.le_trans (dlen (lt i hi)) (by omega)) (Nat.le_trans (dlen (lt i hi)) (by omega))).frozen
  rw [nv_dgB, ← Nat.mul_two, Nat.mul_assoc, ← Nat.pow_succ] at p1
  by_cases h : i = k
  · subst h
    have g1 : ¬ (0 : Int) ≤ sg (nv B d) (u * 2 ^ i) := by rw [sgp]; have := hk.1; omega
    generalize sg (nv B d) (u * 2 ^ i) = g at *
    refine wkQ (ai @g1 @bz_Q22) ?_
    refine he _ _ ?_
    exact pdQ @bz_Q22
  · have g1 : (0 : Int) ≤ sg (nv B d) (u * 2 ^ i) := by rw [sgp]; exact hk.2 i (by omega)
    generalize sg (nv B d) (u * 2 ^ i) = g at *
    refine wkQ (ai @g1 @bz_Q22) ?_
    refine hQ _ (i + 1) (by omega) (by omega) ?_
    simp (disch := (first | omega | assumption)) only [Sl, Sa, Sw, ↓reduceIte, Nat.reduceEqDiff, Nat.reduceLT, List.all_nil, List.all_cons, Nat.reduceBneDiff, Nat.reduceAdd, bne_iff_ne, ne_eq, reduceCtorEq, not_false_eq_true, not_true_eq_false, Bool.and_true, Bool.true_and, and_true, true_and, and_self, i_eq]
    first | rfl | omega | exact ⟨by omega, rfl⟩
theorem rfiner_s (s : Bool) (a d : List Nat) (m : Nat) (hm : m ≤ 10000000) (ha : Wd a) (hd : Wd d) (la : a.length ≤ m) (ld : d.length ≤ m) (h0 : nv B d ≠ 0) (hs : zv s a ≤ 0) : AFun Tryz.prog J0 19 [rL s a d] (.t [.i .i64 0, .i .i64 2]) := by
  have h1 := rOk_spec s a d hd (by omega)
  rw [decide_eq_false h0] at h1
  have h2 := rS_spec s a d ha (by omega)
  have hs1 : sgz (zv s a) ≤ 0 := by unfold sgz; split; decide; rw [if_neg (by omega)]; decide
  generalize sgz (zv s a) = g at *
  refine mkQ fol J0s Tryz.func19 a19 ?_
  unfold a19
  simp only [init_eq, initE, qm, qr, qn]
  exact wdQ (ai @hs1 @bz_Q22)
theorem rfiner_0 (s : Bool) (a d : List Nat) (m : Nat) (hm : m ≤ 10000000) (hd : Wd d) (ld : d.length ≤ m) (h0 : nv B d = 0) : AFun Tryz.prog J0 19 [rL s a d] (.t [.i .i64 0, .i .i64 1]) := by
  have h1 := rOk_spec s a d hd (by omega)
  rw [decide_eq_true h0] at h1
  refine mkQ fol J0s Tryz.func19 a19 ?_
  unfold a19
  simp only [init_eq, initE, qm, qr, qn]
  exact wdQ @bz_Q22
def a10 : AC := .seq (.reg [qr 4 (.bx 25 (.t 0)),
 qr 5 (.bx 25 (.t 1)),
 qr 8 (.mv (.k (.b false)))])
 (.seq (.reg [qm 9 2,
 qm 10 3,
 qr 11 (.bin .eql (.t 9) (.t 10)),
 qm 12 11,
 ⟨some 13, some (12, true), .ld true 2 (.t 4)⟩,
 ⟨some 14, some (12, true), .ld true 2 (.t 5)⟩,
 ⟨some 15, some (12, true), .call 26 [(1, (.t 13)), (1, (.t 14))]⟩,
 qr 16 (.pick (.t 12) (.t 15) (.k (.b false))),
 qm 8 16])
 (.ret))
theorem lsameI_true (s : Bool) (a : List Nat) (la : a.length ≤ 1000000000) (e : Int) : AFun Tryz.prog J0 10 [zL s a, zL s a, .i .i64 e, .i .i64 e] (.b true) := by
  have h1 := hsameI_spec s s a a la la
  rw [show (s == s) = true from by cases s <;> rfl, Bool.true_and, decide_eq_true rfl] at h1
  refine mkQ fol J0s Tryz.func10 a10 ?_
  unfold a10
  simp only [init_eq, initE, qm, qr, qn]
  exact wdQ (ai @eqsA @bz_Q22)
end Go.Proofs.YtbicpbaciplfcaaGreatDoor
