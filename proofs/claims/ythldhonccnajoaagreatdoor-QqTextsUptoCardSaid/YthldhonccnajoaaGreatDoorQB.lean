/-
  The texts Q5, Q6, Q7, Q8.
-/
import Derived.Test.YthldhonccnajoaaGreatDoorQA
import Derived.Test.YthldhonccnajoaaGreatDoorZ10
namespace Go.Proofs.YthldhonccnajoaaGreatDoor
open Go Go.RowKit Ab
set_option linter.unusedSimpArgs false
set_option linter.unusedVariables false
set_option maxHeartbeats 10000000
theorem bz_Q5 : type_of% (And.intro @W_len (And.intro @D_len (And.intro @Nat.div_one (And.intro @Nat.mul_one (And.intro @tn_nat (And.intro @W_nf (And.intro @D_nf (And.intro @W_nil (And.intro @D_nil (And.intro @wi (And.intro @nf_g (And.intro @Bool.false_and (@W_cell))))))))))))) := And.intro @W_len (And.intro @D_len (And.intro @Nat.div_one (And.intro @Nat.mul_one (And.intro @tn_nat (And.intro @W_nf (And.intro @D_nf (And.intro @W_nil (And.intro @D_nil (And.intro @wi (And.intro @nf_g (And.intro @Bool.false_and (@W_cell))))))))))))
theorem int_w1 {n : Int} (h1 : -9223372036854775808 ≤ n) (h2 : n < 9223372036854775808) : n.natAbs < B ^ 1 := by rw [Nat.pow_one]; show _ < 18446744073709551616; omega
def a14 : AC := .seq (.reg [qr 4 (.al 27 [(.b false), (.l 1 []), (.l 1 [])]),
 qr 5 (.mv (.k (.i .i64 0)))])
 (.seq (.reg [qm 6 0,
 qr 7 (.call 27 [(1, (.t 6))]),
 qm 8 1,
 qr 9 (.call 27 [(1, (.t 8))]),
 qr 10 (.call 52 [(1, (.t 7)), (1, (.t 9))]),
 qr 11 (.ext (.t 10) 0),
 qr 12 (.ext (.t 10) 1),
 qn (.st 3 (.t 4) (.t 11)),
 qm 5 12])
 (.ret))
theorem qof_spec (n k : Int) (h1 : -9223372036854775808 ≤ n) (h2 : n < 9223372036854775808) (k1 : -9223372036854775808 ≤ k) (k2 : k < 9223372036854775808) : AFun Tryz.prog J0 14 [.i .i64 n, .i .i64 k] (.t [rv (mz n k) k.natAbs, .i .i64 (re k.natAbs)]) := by
  have o1 := zofn_spec n h1 h2
  have o2 := zofn_spec k k1 k2
  have m1 := qmake_spec (decide (n < 0)) (decide (k < 0)) (dg B n.natAbs) (dg B k.natAbs) 1 (by decide) (Wd_dg _) (Wd_dg _) (dlen (int_w1 h1 h2)) (dlen (int_w1 k1 k2))
  rw [zv_N, zv_N, nv_dgB] at m1
  obtain ⟨s, a, d, e, _⟩ : RV (rv (mz n k) k.natAbs) 1 := RV_rv (by unfold mz; split; (rw [Int.natAbs_neg]; exact int_w1 h1 h2); exact int_w1 h1 h2) (int_w1 k1 k2)
  rw [e] at m1 ⊢
  generalize re k.natAbs = er at *
  refine mkcQ fol J0s Tryz.func14 a14 [.c 4 true 3, .t 5] ?_
  unfold a14
  simp only [init_eq, initE, qm, qr, qn]
  exact wcQ @bz_Q5
def a20 : AC := .seq (.reg [qr 2 (.bx 27 (.t 0)),
 qr 3 (.bx 27 (.t 1)),
 qr 4 (.mv (.k (.b false)))])
 (.seq (.reg [qr 5 (.fad 0 (.t 2)),
 qr 6 (.ld true 2 (.t 5)),
 qr 7 (.fad 0 (.t 3)),
 qr 8 (.ld true 2 (.t 7)),
 qr 9 (.call 19 [(1, (.t 6)), (1, (.t 8))]),
 qm 10 9,
 ⟨some 11, some (10, true), .fad 2 (.t 2)⟩,
 ⟨some 12, some (10, true), .ld false 1 (.t 11)⟩,
 ⟨some 13, some (10, true), .fad 2 (.t 3)⟩,
 ⟨some 14, some (10, true), .ld false 1 (.t 13)⟩,
 ⟨some 15, some (10, true), .call 43 [(1, (.t 12)), (1, (.t 14))]⟩,
 qr 16 (.pick (.t 10) (.t 15) (.k (.b false))),
 qm 4 16])
 (.ret))
theorem rSame_true (s : Bool) (a d : List Nat) (la : a.length ≤ 1000000000) (ld : d.length ≤ 1000000000) : AFun Tryz.prog J0 20 [rL s a d, rL s a d] (.b true) := by
  have h1 := hsameI_spec s s a a la la
  have h2 := hsame_spec d d (by omega) (by omega)
  rw [show (s == s) = true from by cases s <;> rfl, Bool.true_and, decide_eq_true rfl] at h1
  rw [decide_eq_true rfl] at h2
  refine mkQ fol J0s Tryz.func20 a20 ?_
  unfold a20
  simp only [init_eq, initE, qm, qr, qn]
  exact wdQ @bz_Q5
def a9 : AC := .seq (.reg [qr 4 (.bx 27 (.t 0)),
 qr 5 (.bx 27 (.t 1)),
 qr 8 (.mv (.k (.b false)))])
 (.seq (.reg [qm 9 2,
 qm 10 3,
 qr 11 (.bin .eql (.t 9) (.t 10)),
 qm 12 11,
 ⟨some 13, some (12, true), .ld true 3 (.t 4)⟩,
 ⟨some 14, some (12, true), .ld true 3 (.t 5)⟩,
 ⟨some 15, some (12, true), .call 20 [(1, (.t 13)), (1, (.t 14))]⟩,
 qr 16 (.pick (.t 12) (.t 15) (.k (.b false))),
 qm 8 16])
 (.ret))
theorem lsame_true (s : Bool) (a d : List Nat) (la : a.length ≤ 1000000000) (ld : d.length ≤ 1000000000) (e : Int) : AFun Tryz.prog J0 9 [rL s a d, rL s a d, .i .i64 e, .i .i64 e] (.b true) := by
  have h1 := rSame_true s a d la ld
  refine mkQ fol J0s Tryz.func9 a9 ?_
  unfold a9
  simp only [init_eq, initE, qm, qr, qn]
  exact wdQ (ai @eqsA @bz_Q5)
theorem two_val (n i : Nat) (hi : i ≤ n % 16) : nv 65536 ((List.replicate (n / 16 + 1) 0).set (n / 16) (2 ^ i)) = 2 ^ (16 * (n / 16) + i) := by
  have h := nv_set (b := 65536) (List.replicate (n / 16 + 1) 0) (n / 16) (2 ^ i) (by simp)
  rw [nv_rep, show (List.replicate (n / 16 + 1) 0).getD (n / 16) 0 = 0 from by simp [List.getD_eq_getElem?_getD, List.getElem?_replicate], Nat.mul_zero, Nat.add_zero, Nat.zero_add] at h
  rw [h, Nat.pow_add, Nat.pow_mul]
theorem two_lt (n : Nat) : 2 ^ n < B ^ (n / 64 + 1) := by
  rw [B64, ← Nat.pow_mul]
  exact Nat.pow_lt_pow_right (by decide) (by omega)
def a107 : AC := .seq (.reg [qr 2 (.mv (.k .nl))])
 (.seq (.reg [qm 5 0,
 qr 6 (.bin .quo (.t 5) (.k (.i .i64 16))),
 qr 7 (.bin .add (.t 6) (.k (.i .i64 1))),
 qr 8 (.mk 3 1 8 [(.i .i64 0)] (.t 7) (.t 7)),
 qm 3 8])
 (.seq (.reg [qm 9 3,
 qm 10 0,
 qr 11 (.bin .quo (.t 10) (.k (.i .i64 16))),
 qr 12 (.idx 1 (.t 9) (.t 11)),
 qn (.st 1 (.t 12) (.k (.i .i64 1)))])
 (.seq (.seq (.reg [qr 4 (.mv (.k (.i .i64 0)))])
 (.blk 0
 (.loop
 (.seq (.seq (.reg [qm 13 4,
 qm 14 0,
 qr 15 (.bin .rem (.t 14) (.k (.i .i64 16))),
 qr 16 (.bin .lss (.t 13) (.t 15))])
 (.cond (.t 16)
 (.skip)
 (.exit 0)))
 (.seq (.blk 1
 (.reg [qm 19 3,
 qm 20 0,
 qr 21 (.bin .quo (.t 20) (.k (.i .i64 16))),
 qr 22 (.idx 1 (.t 19) (.t 21)),
 qr 23 (.ld false 1 (.t 22)),
 qr 24 (.bin .mul (.t 23) (.k (.i .i64 2))),
 qr 25 (.idx 1 (.t 19) (.t 21)),
 qn (.st 1 (.t 25) (.t 24))]))
 (.reg [qm 17 4,
 qr 18 (.bin .add (.t 17) (.k (.i .i64 1))),
 qm 4 18]))))))
 (.seq (.reg [qm 26 3,
 qr 27 (.call 85 [(1, (.t 26))]),
 qm 2 27])
 (.ret)))))
theorem htwo_spec (n : Nat) (hn : n ≤ 100000000) : AFun Tryz.prog J0 107 [.i .i64 (n : Int)] (.o 46 1 (W (dg B (2 ^ n)))) := by
  obtain ⟨L, hL⟩ : ∃ L, L = n / 16 := ⟨_, rfl⟩
  have hq : (n : Int).tdiv 16 = (L : Int) := by rw [hL]; rfl
  have hr : (n : Int).tmod 16 = ((n % 16 : Nat) : Int) := rfl
  have hL1 : (0 : Int) ≤ (L : Int) + 1 := by omega
  have hL2 : ((L : Int) + 1).toNat = L + 1 := by omega
  have wL : IntKind.i64.wrap (L : Int) = (L : Int) := wi (by omega)
  have hset := fun x => D_set5 (List.replicate (L + 1) 0) L x
  have h1s := hset 1
  have hDl : (D (List.replicate (L + 1) 0)).length = L + 1 := by rw [D_len]; simp
  have hval : nv 65536 ((List.replicate (L + 1) 0).set L (2 ^ (n % 16))) = 2 ^ n := by
    have := two_val n (n % 16) (Nat.le_refl _)
    rw [← hL] at this
    rw [this, show 16 * L + n % 16 = n from by omega]
  have hlt2 : ∀ i, i ≤ n % 16 → 2 ^ i < 65536 := fun i hi => Nat.lt_of_lt_of_le (Nat.pow_lt_pow_right (by decide) (show i < 16 by omega)) (by decide)
  have hnum := hnumber_spec ((List.replicate (L + 1) 0).set L (2 ^ (n % 16))) (Lt_set (Lt_rep (by decide)) _ _ (hlt2 _ (Nat.le_refl _))) (by simp; omega)
  rw [hval] at hnum
  refine mkQ fol J0s Tryz.func107 a107 ?_
  unfold a107
  simp only [init_eq, initE, qm, qr, qn]
  refine spQ (ai @h1s (ai @hDl (ai @mk_D5 (ai @wL (ai @hL2 (ai @hL1 (ai @hq @bz_Q5))))))) ?_
  refine vm_loopA [] Nat (fun i => ⟨[(0, .i .i64 (n : Int)), (3, .ow 1 0 (L + 1)), (4, .i .i64 (i : Int))], [(0, some ⟨3, 1, D ((List.replicate (L + 1) 0).set L (2 ^ i)), true, false⟩)], 1⟩)
    (fun i => i ≤ n % 16) (fun i => n % 16 - i) 0 (Nat.zero_le _) (by exact leQ) (by
    exact ltQ) ?_
  intro i hi Q' hQ he hr2
  have wr : IntKind.i64.wrap ((n % 16 : Nat) : Int) = ((n % 16 : Nat) : Int) := by
    have := Nat.mod_lt n (show 0 < 16 by decide)
    clear hr
    generalize n % 16 = z at *
    exact wi (by omega)
  by_cases h : (i : Int) < ((n % 16 : Nat) : Int)
  · have hDg := D_get ((List.replicate (L + 1) 0).set L (2 ^ i)) L (by simp)
    rw [show ((List.replicate (L + 1) 0).set L (2 ^ i)).getD L 0 = 2 ^ i from by rw [List.getD_eq_getElem?_getD, List.getElem?_set_self (by simp)]; rfl] at hDg
    have hDl2 : (D ((List.replicate (L + 1) 0).set L (2 ^ i))).length = L + 1 := by rw [D_len]; simp
    have h2 := hlt2 i hi
    have hst := D_set5 ((List.replicate (L + 1) 0).set L (2 ^ i)) L (2 ^ (i + 1))
    rw [List.set_set] at hst
    have he2 : ((2 ^ i : Nat) : Int) * 2 = ((2 ^ (i + 1) : Nat) : Int) := by rw [Nat.pow_succ]; omega
    have hp2 : 2 ^ (i + 1) = 2 ^ i * 2 := Nat.pow_succ 2 i
    have w3 : IntKind.i64.wrap ((2 ^ (i + 1) : Nat) : Int) = ((2 ^ (i + 1) : Nat) : Int) := by
      generalize 2 ^ (i + 1) = z at *
      exact wi (by omega)
    obtain ⟨z2, hz2⟩ : ∃ z2, z2 = 2 ^ (i + 1) := ⟨_, rfl⟩
    rw [← hz2] at hst he2 w3
    generalize 2 ^ i = z1 at *
    refine spQ (ai @hst (ai @w3 (ai @he2 (ai @hDl2 (ai @hDg (ai @h (ai @wL (ai @wr (ai @hr (ai @hq @bz_Q5)))))))))) ?_
    refine hQ _ (i + 1) (by omega) (by omega) ?_
    rw [← hz2]
    exact ltQ
  · obtain rfl : i = n % 16 := by omega
    refine spQ (ai @h (ai @wr (ai @hr @bz_Q5))) ?_
    refine he _ _ ?_
    exact wdQ @bz_Q5
def a75 : AC := .seq (.reg [qr 1 (.bx 25 (.t 0)),
 qr 2 (.al 27 [(.b false), (.l 1 []), (.l 1 [])])])
 (.seq (.dreg [qr 3 (.ld true 2 (.t 1)),
 qr 4 (.call 44 [(1, (.k (.i .i64 1)))]),
 qr 5 (.call 41 [(1, (.t 3)), (1, (.t 4))]),
 qn (.st 3 (.t 2) (.t 5))])
 (.ret))
theorem rZ_spec (s : Bool) (a : List Nat) (m : Nat) (hm : m ≤ 100000000) (hm1 : 1 ≤ m) (ha : Wd a) (la : a.length ≤ m) : AFun Tryz.prog J0 75 [zL s a] (rN (rz (zv s a) 1) (rden (zv s a) 1)) := by
  have h1 := (hword_spec 1 (by decide)).frozen
  have h2 := rR_spec s a (dg B 1) m hm ha (Wd_dg _) la (Nat.le_trans (dlen (k := 1) (by decide)) hm1) (by rw [nv_dgB]; decide)
  rw [nv_dgB] at h2
  generalize rz (zv s a) 1 = x at *
  generalize rden (zv s a) 1 = y at *
  refine mkcQ fol J0s Tryz.func75 a75 [.c 2 true 3] ?_
  unfold a75
  simp only [init_eq, initE, qm, qr, qn]
  exact wcQ @bz_Q5
def a17 : AC := .seq (.reg [qr 4 (.al 27 [(.b false), (.l 1 []), (.l 1 [])])])
 (.seq (.reg [qm 5 0,
 qr 6 (.call 16 [(1, (.t 5))]),
 qm 7 1,
 qr 8 (.call 44 [(1, (.t 7))]),
 qr 9 (.call 41 [(1, (.t 6)), (1, (.t 8))]),
 qn (.st 3 (.t 4) (.t 9))])
 (.ret))
theorem rP_spec (n : Int) (k : Nat) (h1 : -9223372036854775808 < n) (h2 : n < 9223372036854775808) (hk : k < 9223372036854775808) (hk0 : k ≠ 0) : AFun Tryz.prog J0 17 [.i .i64 n, .i .i64 (k : Int)] (rN (rz n k) (rden n k)) := by
  have z1 := hZ_spec n h1 h2
  have w1 := (hword_spec k hk).frozen
  have r1 := rR_spec (decide (n < 0)) (dg B n.natAbs) (dg B k) 1 (by decide) (Wd_dg _) (Wd_dg _) (dlen (int_w1 (by omega) h2)) (dlen (by rw [Nat.pow_one]; show _ < 18446744073709551616; omega)) (by rw [nv_dgB]; exact hk0)
  rw [zv_N, nv_dgB] at r1
  generalize rz n k = x at *
  generalize rden n k = y at *
  refine mkcQ fol J0s Tryz.func17 a17 [.c 4 true 3] ?_
  unfold a17
  simp only [init_eq, initE, qm, qr, qn]
  exact wcQ @bz_Q5
end Go.Proofs.YthldhonccnajoaaGreatDoor
namespace Go.Proofs.YthldhonccnajoaaGreatDoor
open Go Go.RowKit Ab
set_option linter.unusedSimpArgs false
set_option linter.unusedVariables false
set_option maxHeartbeats 10000000
theorem bz_Q6 : type_of% (And.intro @W_len (And.intro @D_len (And.intro @Nat.div_one (And.intro @Nat.mul_one (And.intro @tn_nat (And.intro @W_nf (And.intro @D_nf (And.intro @W_nil (And.intro @D_nil (And.intro @wi (And.intro @nf_g (And.intro @Bool.false_and (@W_cell))))))))))))) := And.intro @W_len (And.intro @D_len (And.intro @Nat.div_one (And.intro @Nat.mul_one (And.intro @tn_nat (And.intro @W_nf (And.intro @D_nf (And.intro @W_nil (And.intro @D_nil (And.intro @wi (And.intro @nf_g (And.intro @Bool.false_and (@W_cell))))))))))))
theorem W_take12 (a : List Nat) : (W a).take (min a.length 12) = W (a.take 12) := by
  rw [Nat.min_comm, ← W_len a, ← List.take_eq_take_min]
  simp [W]
theorem min12 (n : Nat) : min (n : Int) 12 = ((min n 12 : Nat) : Int) := by omega
def a22 : AC := .seq (.reg [qr 1 (.bx 25 (.t 0)),
 qr 2 (.al 25 [(.b false), (.l 1 [])])])
 (.seq (.dreg [qr 3 (.fad 0 (.t 1)),
 qr 4 (.ld false 1 (.t 3)),
 qr 5 (.fad 1 (.t 1)),
 qr 6 (.ld false 1 (.t 5)),
 qr 7 (.fad 1 (.t 1)),
 qr 8 (.ld false 1 (.t 7)),
 qr 9 (.len (.t 8)),
 qr 10 (.mm false (.t 9) (.k (.i .i64 12))),
 qr 11 (.sub 1 (.t 6) none (some (.t 10))),
 qr 12 (.bld [(.b false), (.l 1 [])] [(0, 1, (.t 4)), (1, 1, (.t 11))]),
 qn (.st 2 (.t 2) (.t 12))])
 (.ret))
theorem lfewI_spec (s : Bool) (a : List Nat) : AFun Tryz.prog J0 22 [zL s a] (zL s (a.take 12)) := by
  have h1 := W_take12 a
  have h2 := min12 a.length
  have h3 : min a.length 12 ≤ a.length := Nat.min_le_left _ _
  have h4 : (0 : Int) ≤ ((min a.length 12 : Nat) : Int) := by omega
  have h5 : ((min a.length 12 : Nat) : Int) ≤ (a.length : Int) := by omega
  generalize min a.length 12 = k at *
  refine mkcQ fol J0s Tryz.func22 a22 [.c 2 true 2] ?_
  unfold a22
  simp only [init_eq, initE, qm, qr, qn]
  refine spQ (ai @h1 (ai @h5 (ai @h4 (ai @h2 @bz_Q6)))) ?_
  exact rcQ (ai @h1 @bz_Q6)
def a21 : AC := .seq (.reg [qr 1 (.bx 27 (.t 0)),
 qr 2 (.al 27 [(.b false), (.l 1 []), (.l 1 [])])])
 (.seq (.dreg [qr 3 (.fad 0 (.t 1)),
 qr 4 (.ld true 2 (.t 3)),
 qr 5 (.call 22 [(1, (.t 4))]),
 qr 6 (.fad 2 (.t 1)),
 qr 7 (.ld false 1 (.t 6)),
 qr 8 (.fad 2 (.t 1)),
 qr 9 (.ld false 1 (.t 8)),
 qr 10 (.len (.t 9)),
 qr 11 (.mm false (.t 10) (.k (.i .i64 12))),
 qr 12 (.sub 1 (.t 7) none (some (.t 11))),
 qr 13 (.bld [(.b false), (.l 1 []), (.l 1 [])] [(0, 2, (.t 5)), (2, 1, (.t 12))]),
 qn (.st 3 (.t 2) (.t 13))])
 (.ret))
theorem lfew_spec (s : Bool) (a d : List Nat) : AFun Tryz.prog J0 21 [rL s a d] (rL s (a.take 12) (d.take 12)) := by
  have h0 := lfewI_spec s a
  have h1 := W_take12 d
  have h2 := min12 d.length
  have h3 : min d.length 12 ≤ d.length := Nat.min_le_left _ _
  have h4 : (0 : Int) ≤ ((min d.length 12 : Nat) : Int) := by omega
  have h5 : ((min d.length 12 : Nat) : Int) ≤ (d.length : Int) := by omega
  generalize min d.length 12 = k at *
  refine mkcQ fol J0s Tryz.func21 a21 [.c 2 true 3] ?_
  unfold a21
  simp only [init_eq, initE, qm, qr, qn]
  exact wcQ (ai @h1 (ai @h5 (ai @h4 (ai @h2 @bz_Q6))))
def nr (k : Int) : Int := if 3000 < k ∧ k ≤ 1048576 ∨ k < -3000 ∧ -1048576 ≤ k then k.tmod 3000 else k
end Go.Proofs.YthldhonccnajoaaGreatDoor
namespace Go.Proofs.YthldhonccnajoaaGreatDoor
open Go Go.RowKit Ab
set_option linter.unusedSimpArgs false
set_option linter.unusedVariables false
set_option maxHeartbeats 10000000
theorem bz_Q7 : type_of% (And.intro @RC_nf (And.intro @W_len (And.intro @D_len (And.intro @Nat.div_one (And.intro @Nat.mul_one (And.intro @tn_nat (And.intro @W_nf (And.intro @D_nf (And.intro @W_nil (And.intro @D_nil (And.intro @wi (And.intro @nf_g (And.intro @Bool.false_and (@W_cell)))))))))))))) := And.intro @RC_nf (And.intro @W_len (And.intro @D_len (And.intro @Nat.div_one (And.intro @Nat.mul_one (And.intro @tn_nat (And.intro @W_nf (And.intro @D_nf (And.intro @W_nil (And.intro @D_nil (And.intro @wi (And.intro @nf_g (And.intro @Bool.false_and (@W_cell)))))))))))))
def few3 (p : Bool × List Nat × List Nat) : Bool × List Nat × List Nat := (p.1, p.2.1.take 12, p.2.2.take 12)
def fewL (l : List (Bool × List Nat × List Nat)) : List (Bool × List Nat × List Nat) := (l.take 30).map few3
theorem RC_app : ∀ (l r : List (Bool × List Nat × List Nat)), RC (l ++ r) = RC l ++ RC r
  | [], r => rfl
  | p :: l, r => by simp only [List.cons_append, RC, RC_app l r]
abbrev caseV (s0 s1 s2 s3 s4 : Bool) (a0 d0 a1 d1 a2 d2 a3 a4 : List Nat) (n m k : Int) (l : List (Bool × List Nat × List Nat)) (st : List UInt8) : V :=
  .g [.b s0, .l 1 (W a0), .l 1 (W d0), .b s1, .l 1 (W a1), .l 1 (W d1), .b s2, .l 1 (W a2), .l 1 (W d2), .b s3, .l 1 (W a3), .b s4, .l 1 (W a4), .i .i64 n, .i .i64 m, .i .i64 k, .l 3 (RC l), .s st]
def a5 : AC := .seq (.reg [qr 1 (.bx 30 (.t 0)),
 qr 2 (.al 30 [(.b false), (.l 1 []), (.l 1 []), (.b false), (.l 1 []), (.l 1 []), (.b false), (.l 1 []), (.l 1 []), (.b false), (.l 1 []), (.b false), (.l 1 []), (.i .i64 0), (.i .i64 0), (.i .i64 0), (.l 1 []), (.s [])])])
 (.seq (.dreg [qr 5 (.fad 0 (.t 1)),
 qr 6 (.ld true 3 (.t 5)),
 qr 7 (.call 21 [(1, (.t 6))]),
 qr 8 (.fad 3 (.t 1)),
 qr 9 (.ld true 3 (.t 8)),
 qr 10 (.call 21 [(1, (.t 9))]),
 qr 11 (.fad 6 (.t 1)),
 qr 12 (.ld true 3 (.t 11)),
 qr 13 (.call 21 [(1, (.t 12))]),
 qr 14 (.fad 9 (.t 1)),
 qr 15 (.ld true 2 (.t 14)),
 qr 16 (.call 22 [(1, (.t 15))]),
 qr 17 (.fad 11 (.t 1)),
 qr 18 (.ld true 2 (.t 17)),
 qr 19 (.call 22 [(1, (.t 18))]),
 qr 20 (.fad 0 (.t 1)),
 qn (.st 3 (.t 20) (.t 7)),
 qr 21 (.fad 3 (.t 1)),
 qn (.st 3 (.t 21) (.t 10)),
 qr 22 (.fad 6 (.t 1)),
 qn (.st 3 (.t 22) (.t 13)),
 qr 23 (.fad 9 (.t 1)),
 qn (.st 2 (.t 23) (.t 16)),
 qr 24 (.fad 11 (.t 1)),
 qn (.st 2 (.t 24) (.t 19))])
 (.seq (.reg [qr 3 (.mv (.k .nl))])
 (.seq (.seq (.reg [qr 4 (.mv (.k (.i .i64 0)))])
 (.blk 0
 (.loop
 (.seq (.seq (.reg [qm 25 4,
 qr 26 (.fad 16 (.t 1)),
 qr 27 (.ld false 1 (.t 26)),
 qr 28 (.len (.t 27)),
 qr 29 (.bin .lss (.t 25) (.t 28)),
 qm 30 29,
 ⟨some 31, some (30, true), .mv (.t 4)⟩,
 ⟨some 32, some (30, true), .bin .lss (.t 31) (.k (.i .i64 30))⟩,
 qr 33 (.pick (.t 30) (.t 32) (.k (.b false)))])
 (.cond (.t 33)
 (.skip)
 (.exit 0)))
 (.seq (.blk 1
 (.reg [qm 36 3,
 qr 37 (.fad 16 (.t 1)),
 qr 38 (.ld false 1 (.t 37)),
 qm 39 4,
 qr 40 (.idx 3 (.t 38) (.t 39)),
 qr 41 (.ld true 3 (.t 40)),
 qr 42 (.call 21 [(1, (.t 41))]),
 qr 43 (.bsl 27 3 1 [(.b false), (.l 1 []), (.l 1 [])] [(0, (.t 42))]),
 qr 44 (.app 27 3 56 (.t 36) (.t 43)),
 qm 3 44]))
 (.reg [qm 34 4,
 qr 35 (.bin .add (.t 34) (.k (.i .i64 1))),
 qm 4 35]))))))
 (.seq (.reg [qm 45 3,
 qr 46 (.fad 16 (.t 1)),
 qn (.st 1 (.t 46) (.t 45))])
 (.seq (.reg [qr 47 (.ld true 18 (.t 1)),
 qn (.st 18 (.t 2) (.t 47))])
 (.ret))))))
theorem lless_spec (s0 s1 s2 s3 s4 : Bool) (a0 d0 a1 d1 a2 d2 a3 a4 : List Nat) (n m k : Int) (l : List (Bool × List Nat × List Nat)) (st : List UInt8) :
    AFun Tryz.prog J0 5 [caseV s0 s1 s2 s3 s4 a0 d0 a1 d1 a2 d2 a3 a4 n m k l st]
      (caseV s0 s1 s2 s3 s4 (a0.take 12) (d0.take 12) (a1.take 12) (d1.take 12) (a2.take 12) (d2.take 12) (a3.take 12) (a4.take 12) n m k (fewL l) st) := by
  have f0 := lfew_spec s0 a0 d0
  have f1 := lfew_spec s1 a1 d1
  have f2 := lfew_spec s2 a2 d2
  have f3 := lfewI_spec s3 a3
  have f4 := lfewI_spec s4 a4
  have fe := fun p : Bool × List Nat × List Nat => lfew_spec p.1 p.2.1 p.2.2
  generalize a0.take 12 = b0 at *
  generalize d0.take 12 = e0 at *
  generalize a1.take 12 = b1 at *
  generalize d1.take 12 = e1 at *
  generalize a2.take 12 = b2 at *
  generalize d2.take 12 = e2 at *
  generalize a3.take 12 = b3 at *
  generalize a4.take 12 = b4 at *
  have h20 : ((2 : Nat) != 0) = true := rfl
  have hz := RC_len l
  have hd : l.length * 3 / 3 = l.length := by omega
  refine mkcQ fol J0s Tryz.func5 a5 [.c 2 true 18] ?_
  unfold a5
  simp only [init_eq, initE, qm, qr, qn]
  refine wkQ @bz_Q7 ?_
  refine vm_loopA [(3, 27, 3)] Nat (fun i => ⟨[(1, .pt 0 0), (2, .pt 1 0), (3, .ow 3 2 i), (4, .i .i64 (i : Int))],
      [(0, some ⟨30, 18, [.b s0, .l 1 (W b0), .l 1 (W e0), .b s1, .l 1 (W b1), .l 1 (W e1), .b s2, .l 1 (W b2), .l 1 (W e2), .b s3, .l 1 (W b3), .b s4, .l 1 (W b4), .i .i64 n, .i .i64 m, .i .i64 k, .l 3 (RC l), .s st], true, true⟩),
       (1, some ⟨30, 18, [.b false, .l 1 [], .l 1 [], .b false, .l 1 [], .l 1 [], .b false, .l 1 [], .l 1 [], .b false, .l 1 [], .b false, .l 1 [], .i .i64 0, .i .i64 0, .i .i64 0, .l 1 [], .s []], true, true⟩),
       (2, some ⟨27, 3, RC ((l.take i).map few3), true, false⟩)], 3⟩)
    (fun i => i ≤ l.length ∧ i ≤ 30) (fun i => 30 - i) 0 ⟨Nat.zero_le _, Nat.zero_le _⟩ (by exact leQ) (by
    exact ltQ) ?_
  intro i ⟨hi, hi3⟩ Q' hQ he hr
  by_cases h : (i : Int) < (l.length : Int)
  · by_cases h3 : (i : Int) < 30
    · have row := RC_row l i (by omega)
      have hap : RC ((l.take i).map few3) ++ [.b (l.getD i (false, [], [])).1, .l 1 (W ((l.getD i (false, [], [])).2.1.take 12)), .l 1 (W ((l.getD i (false, [], [])).2.2.take 12))] = RC ((l.take (i + 1)).map few3) := by
        have hlt : i < l.length := by omega
        have hgi : l.getD i (false, [], []) = l[i] := by simp [List.getD_eq_getElem?_getD, hlt]
        rw [List.take_succ_eq_append_getElem hlt, List.map_append, RC_app, hgi]; rfl
      have l0 := RC_len ((l.take i).map few3)
      have l1 := RC_len ((l.take (i + 1)).map few3)
      rw [List.length_map, List.length_take] at l0 l1
      have hf := fe (l.getD i (false, [], []))
      clear fe f0 f1 f2 f3 f4
      generalize l.getD i (false, [], []) = x at *
      refine wkQ (ai @hap (ai @row (ai @hd (ai @hz (ai @h3 (ai @h @bz_Q7)))))) ?_
      refine hQ _ (i + 1) ⟨by omega, by omega⟩ (by omega) ?_
      exact ltQ
    · have hi30 : i = 30 := by omega
      have e : (l.take i).map few3 = fewL l := by rw [hi30]; rfl
      rw [e]
      refine spQ (ai @hd (ai @hz (ai @h3 (ai @h @bz_Q7)))) ?_
      refine he _ _ ?_
      refine spQ (ai @h20 @bz_Q7) ?_
      exact rcQ @bz_Q7
  · obtain rfl : i = l.length := by omega
    have e : (l.take l.length).map few3 = fewL l := by unfold fewL; rw [List.take_length, List.take_of_length_le (by omega)]
    rw [e]
    refine spQ (ai @hd (ai @hz (ai @h @bz_Q7))) ?_
    refine he _ _ ?_
    refine spQ (ai @h20 @bz_Q7) ?_
    exact rcQ @bz_Q7
end Go.Proofs.YthldhonccnajoaaGreatDoor
namespace Go.Proofs.YthldhonccnajoaaGreatDoor
open Go Go.RowKit Ab
set_option linter.unusedSimpArgs false
set_option linter.unusedVariables false
set_option maxHeartbeats 10000000
theorem bz_Q8 : type_of% (And.intro @W_len (And.intro @D_len (And.intro @Nat.div_one (And.intro @Nat.mul_one (And.intro @tn_nat (And.intro @W_nf (And.intro @D_nf (And.intro @W_nil (And.intro @D_nil (And.intro @wi (And.intro @nf_g (And.intro @Bool.false_and (@W_cell))))))))))))) := And.intro @W_len (And.intro @D_len (And.intro @Nat.div_one (And.intro @Nat.mul_one (And.intro @tn_nat (And.intro @W_nf (And.intro @D_nf (And.intro @W_nil (And.intro @D_nil (And.intro @wi (And.intro @nf_g (And.intro @Bool.false_and (@W_cell))))))))))))
def a70 : AC := .seq (.reg [qr 1 (.bx 25 (.t 0)),
 qr 2 (.al 25 [(.b false), (.l 1 [])])])
 (.seq (.dregx [(3, 5), (3, 7)] [qr 3 (.fad 0 (.t 1)),
 qr 4 (.ld false 1 (.t 3)),
 qr 5 (.bsl 46 1 0 [] []),
 qr 6 (.fad 1 (.t 1)),
 qr 7 (.ld false 1 (.t 6)),
 qr 8 (.app 46 1 8 (.t 5) (.t 7)),
 qr 9 (.bld [(.b false), (.l 1 [])] [(0, 1, (.t 4)), (1, 1, (.t 8))]),
 qn (.st 2 (.t 2) (.t 9))])
 (.ret))
theorem hcopyI_spec (s : Bool) (a : List Nat) (la : a.length ≤ 1000000000) : AFun Tryz.prog J0 70 [zL s a] (zL s a) := by
  refine mkcQ fol J0s Tryz.func70 a70 [.c 2 true 2] ?_
  unfold a70
  simp only [init_eq, initE, qm, qr, qn]
  refine spQ (ai @nappA @bz_Q8) ?_
  exact rcQ (ai @nappA @bz_Q8)
def a31 : AC := .seq (.reg [qr 1 (.bx 27 (.t 0)),
 qr 2 (.al 27 [(.b false), (.l 1 []), (.l 1 [])])])
 (.seq (.dreg [qr 3 (.fad 0 (.t 1)),
 qr 4 (.ld true 2 (.t 3)),
 qr 5 (.call 70 [(1, (.t 4))]),
 qr 6 (.bsl 46 1 0 [] []),
 qr 7 (.fad 2 (.t 1)),
 qr 8 (.ld false 1 (.t 7)),
 qr 9 (.app 46 1 8 (.t 6) (.t 8)),
 qr 10 (.bld [(.b false), (.l 1 []), (.l 1 [])] [(0, 2, (.t 5)), (2, 1, (.t 9))]),
 qn (.st 3 (.t 2) (.t 10))])
 (.ret))
theorem rCopy_spec (s : Bool) (a d : List Nat) (la : a.length ≤ 1000000000) (ld : d.length ≤ 1000000000) : AFun Tryz.prog J0 31 [rL s a d] (rL s a d) := by
  have h := hcopyI_spec s a la
  refine mkcQ fol J0s Tryz.func31 a31 [.c 2 true 3] ?_
  unfold a31
  simp only [init_eq, initE, qm, qr, qn]
  exact wcQ (ai @nappA @bz_Q8)
def a7 : AC := .seq (.reg [qr 1 (.bx 27 (.t 0)),
 qr 2 (.al 27 [(.b false), (.l 1 []), (.l 1 [])])])
 (.seq (.reg [qr 3 (.ld true 3 (.t 1)),
 qr 4 (.call 31 [(1, (.t 3))]),
 qn (.st 3 (.t 2) (.t 4))])
 (.ret))
theorem lc_spec (s : Bool) (a d : List Nat) (la : a.length ≤ 1000000000) (ld : d.length ≤ 1000000000) : AFun Tryz.prog J0 7 [rL s a d] (rL s a d) := by
  have h1 := rCopy_spec s a d la ld
  refine mkcQ fol J0s Tryz.func7 a7 [.c 2 true 3] ?_
  unfold a7
  simp only [init_eq, initE, qm, qr, qn]
  exact wcQ @bz_Q8
end Go.Proofs.YthldhonccnajoaaGreatDoor
