/-
  The texts Q5, Q6, Q7, Q8.
-/
import Derived.Test.YtfcpigjmagbnkaaGreatDoorQA
import Derived.Test.YtfcpigjmagbnkaaGreatDoorZ10
namespace Go.Proofs.YtfcpigjmagbnkaaGreatDoor
open Go Go.RowKit Ab
set_option linter.unusedSimpArgs false
set_option linter.unusedVariables false
set_option maxHeartbeats 10000000
theorem bz_Q5 : type_of% (And.intro @W_len (And.intro @D_len (And.intro @Nat.div_one (And.intro @Nat.mul_one (And.intro @tn_nat (And.intro @W_nf (And.intro @D_nf (And.intro @W_nil (And.intro @D_nil (And.intro @wi (And.intro @nf_g (And.intro @Bool.false_and (@W_cell))))))))))))) := And.intro @W_len (And.intro @D_len (And.intro @Nat.div_one (And.intro @Nat.mul_one (And.intro @tn_nat (And.intro @W_nf (And.intro @D_nf (And.intro @W_nil (And.intro @D_nil (And.intro @wi (And.intro @nf_g (And.intro @Bool.false_and (@W_cell))))))))))))
theorem int_w1 {n : Int} (h1 : -9223372036854775808 ≤ n) (h2 : n < 9223372036854775808) : n.natAbs < B ^ 1 := by rw [Nat.pow_one]; show _ < 18446744073709551616; omega
def a23 : AC := .seq (.reg [qr 2 (.bx 27 (.t 0)),
 qr 3 (.bx 27 (.t 1)),
 qr 4 (.mv (.k (.b false)))])
 (.seq (.reg [qr 5 (.fad 0 (.t 2)),
 qr 6 (.ld true 2 (.t 5)),
 qr 7 (.fad 0 (.t 3)),
 qr 8 (.ld true 2 (.t 7)),
 qr 9 (.call 53 [(1, (.t 6)), (1, (.t 8))]),
 qm 10 9,
 ⟨some 11, some (10, true), .fad 2 (.t 2)⟩,
 ⟨some 12, some (10, true), .ld false 1 (.t 11)⟩,
 ⟨some 13, some (10, true), .fad 2 (.t 3)⟩,
 ⟨some 14, some (10, true), .ld false 1 (.t 13)⟩,
 ⟨some 15, some (10, true), .call 59 [(1, (.t 12)), (1, (.t 14))]⟩,
 qr 16 (.pick (.t 10) (.t 15) (.k (.b false))),
 qm 4 16])
 (.ret))
theorem rSame_true (s : Bool) (a d : List Nat) (la : a.length ≤ 1000000000) (ld : d.length ≤ 1000000000) : AFun Tryz.prog J0 23 [rL s a d, rL s a d] (.b true) := by
  have h1 := hsameI_spec s s a a la la
  have h2 := hsame_spec d d (by omega) (by omega)
  rw [show (s == s) = true from by cases s <;> rfl, Bool.true_and, decide_eq_true rfl] at h1
  rw [decide_eq_true rfl] at h2
  refine mkQ fol J0s Tryz.func23 a23 ?_
  unfold a23
  simp only [init_eq, initE, qm, qr, qn]
  exact wdQ @bz_Q5
theorem two_val (n i : Nat) (hi : i ≤ n % 16) : nv 65536 ((List.replicate (n / 16 + 1) 0).set (n / 16) (2 ^ i)) = 2 ^ (16 * (n / 16) + i) := by
  have h := nv_set (b := 65536) (List.replicate (n / 16 + 1) 0) (n / 16) (2 ^ i) (by simp)
  rw [nv_rep, show (List.replicate (n / 16 + 1) 0).getD (n / 16) 0 = 0 from by simp [List.getD_eq_getElem?_getD, List.getElem?_replicate], Nat.mul_zero, Nat.add_zero, Nat.zero_add] at h
  rw [h, Nat.pow_add, Nat.pow_mul]
theorem two_lt (n : Nat) : 2 ^ n < B ^ (n / 64 + 1) := by
  rw [B64, ← Nat.pow_mul]
  exact Nat.pow_lt_pow_right (by decide) (by omega)
def a61 : AC := .seq (.reg [qr 2 (.mv (.k .nl))])
 (.seq (.reg [qm 5 0,
 qr 6 (.bin .quo (.t 5) (.k (.i .i64 16))),
 qr 7 (.bin .add (.t 6) (.k (.i .i64 1))),
 qr 8 (.mk 3 1 8 [(.i .i64 0)] (.t 7) (.t 7)),
 qm 3 8])
 (.seq (.reg [qm 9 3,
 qm 10 0,
 qr 11 (.bin .quo (.t 10) (.k (.i .i64 16))),
 qr 12 (.idx 1 (.t 9) (.t 11)),
 qn (.st 1 (.t 12) (.k (.i .i64 1)))])
 (.seq (.seq (.reg [qr 4 (.mv (.k (.i .i64 0)))])
 (.blk 0
 (.loop
 (.seq (.seq (.reg [qm 13 4,
 qm 14 0,
 qr 15 (.bin .rem (.t 14) (.k (.i .i64 16))),
 qr 16 (.bin .lss (.t 13) (.t 15))])
 (.cond (.t 16)
 (.skip)
 (.exit 0)))
 (.seq (.blk 1
 (.reg [qm 19 3,
 qm 20 0,
 qr 21 (.bin .quo (.t 20) (.k (.i .i64 16))),
 qr 22 (.idx 1 (.t 19) (.t 21)),
 qr 23 (.ld false 1 (.t 22)),
 qr 24 (.bin .mul (.t 23) (.k (.i .i64 2))),
 qr 25 (.idx 1 (.t 19) (.t 21)),
 qn (.st 1 (.t 25) (.t 24))]))
 (.reg [qm 17 4,
 qr 18 (.bin .add (.t 17) (.k (.i .i64 1))),
 qm 4 18]))))))
 (.seq (.reg [qm 26 3,
 qr 27 (.call 103 [(1, (.t 26))]),
 qm 2 27])
 (.ret)))))
theorem htwo_spec (n : Nat) (hn : n ≤ 100000000) : AFun Tryz.prog J0 61 [.i .i64 (n : Int)] (.o 39 1 (W (dg B (2 ^ n)))) := by
  obtain ⟨L, hL⟩ : ∃ L, L = n / 16 := ⟨_, rfl⟩
  have hq : (n : Int).tdiv 16 = (L : Int) := by rw [hL]; rfl
  have hr : (n : Int).tmod 16 = ((n % 16 : Nat) : Int) := rfl
  have hL1 : (0 : Int) ≤ (L : Int) + 1 := by omega
  have hL2 : ((L : Int) + 1).toNat = L + 1 := by omega
  have wL : IntKind.i64.wrap (L : Int) = (L : Int) := wi (by omega)
  have hset := fun x => D_set5 (List.replicate (L + 1) 0) L x
  have h1s := hset 1
  have hDl : (D (List.replicate (L + 1) 0)).length = L + 1 := by rw [D_len]; simp
  have hval : nv 65536 ((List.replicate (L + 1) 0).set L (2 ^ (n % 16))) = 2 ^ n := by
    have := two_val n (n % 16) (Nat.le_refl _)
    rw [← hL] at this
    rw [this, show 16 * L + n % 16 = n from by omega]
  have hlt2 : ∀ i, i ≤ n % 16 → 2 ^ i < 65536 := fun i hi => Nat.lt_of_lt_of_le (Nat.pow_lt_pow_right (by decide) (show i < 16 by omega)) (by decide)
  have hnum := hnumber_spec ((List.replicate (L + 1) 0).set L (2 ^ (n % 16))) (Lt_set (Lt_rep (by decide)) _ _ (hlt2 _ (Nat.le_refl _))) (by simp; omega)
  rw [hval] at hnum
  refine mkQ fol J0s Tryz.func61 a61 ?_
  unfold a61
  simp only [init_eq, initE, qm, qr, qn]
  refine spQ (ai @h1s (ai @hDl (ai @mk_D5 (ai @wL (ai @hL2 (ai @hL1 (ai @hq @bz_Q5))))))) ?_
  refine vm_loopA [] Nat (fun i => ⟨[(0, .i .i64 (n : Int)), (3, .ow 1 0 (L + 1)), (4, .i .i64 (i : Int))], [(0, some ⟨3, 1, D ((List.replicate (L + 1) 0).set L (2 ^ i)), true, false⟩)], 1⟩)
    (fun i => i ≤ n % 16) (fun i => n % 16 - i) 0 (Nat.zero_le _) (by exact leQ) (by
    exact ltQ) ?_
  intro i hi Q' hQ he hr2
  have wr : IntKind.i64.wrap ((n % 16 : Nat) : Int) = ((n % 16 : Nat) : Int) := by
    have := Nat.mod_lt n (show 0 < 16 by decide)
    clear hr
    generalize n % 16 = z at *
    exact wi (by omega)
  by_cases h : (i : Int) < ((n % 16 : Nat) : Int)
  · have hDg := D_get ((List.replicate (L + 1) 0).set L (2 ^ i)) L (by simp)
    rw [show ((List.replicate (L + 1) 0).set L (2 ^ i)).getD L 0 = 2 ^ i from by rw [List.getD_eq_getElem?_getD, List.getElem?_set_self (by simp)]; rfl] at hDg
    have hDl2 : (D ((List.replicate (L + 1) 0).set L (2 ^ i))).length = L + 1 := by rw [D_len]; simp
    have h2 := hlt2 i hi
    have hst := D_set5 ((List.replicate (L + 1) 0).set L (2 ^ i)) L (2 ^ (i + 1))
    rw [List.set_set] at hst
    have he2 : ((2 ^ i : Nat) : Int) * 2 = ((2 ^ (i + 1) : Nat) : Int) := by rw [Nat.pow_succ]; omega
    have hp2 : 2 ^ (i + 1) = 2 ^ i * 2 := Nat.pow_succ 2 i
    have w3 : IntKind.i64.wrap ((2 ^ (i + 1) : Nat) : Int) = ((2 ^ (i + 1) : Nat) : Int) := by
      generalize 2 ^ (i + 1) = z at *
      exact wi (by omega)
    obtain ⟨z2, hz2⟩ : ∃ z2, z2 = 2 ^ (i + 1) := ⟨_, rfl⟩
    rw [← hz2] at hst he2 w3
    generalize 2 ^ i = z1 at *
    refine spQ (ai @hst (ai @w3 (ai @he2 (ai @hDl2 (ai @hDg (ai @h (ai @wL (ai @wr (ai @hr (ai @hq @bz_Q5)))))))))) ?_
    refine hQ _ (i + 1) (by omega) (by omega) ?_
    rw [← hz2]
    exact ltQ
  · obtain rfl : i = n % 16 := by omega
    refine spQ (ai @h (ai @wr (ai @hr @bz_Q5))) ?_
    refine he _ _ ?_
    exact wdQ @bz_Q5
def a36 : AC := .seq (.reg [qr 4 (.al 27 [(.b false), (.l 1 []), (.l 1 [])])])
 (.seq (.reg [qm 5 0,
 qr 6 (.call 37 [(1, (.t 5))]),
 qm 7 1,
 qr 8 (.call 77 [(1, (.t 7))]),
 qr 9 (.call 60 [(1, (.t 6)), (1, (.t 8))]),
 qn (.st 3 (.t 4) (.t 9))])
 (.ret))
theorem rP_spec (n : Int) (k : Nat) (h1 : -9223372036854775808 < n) (h2 : n < 9223372036854775808) (hk : k < 9223372036854775808) (hk0 : k ≠ 0) : AFun Tryz.prog J0 36 [.i .i64 n, .i .i64 (k : Int)] (rN (rz n k) (rden n k)) := by
  have z1 := hZ_spec n h1 h2
  have w1 := (hword_spec k hk).frozen
  have r1 := rR_spec (decide (n < 0)) (dg B n.natAbs) (dg B k) 1 (by decide) (Wd_dg _) (Wd_dg _) (dlen (int_w1 (by omega) h2)) (dlen (by rw [Nat.pow_one]; show _ < 18446744073709551616; omega)) (by rw [nv_dgB]; exact hk0)
  rw [zv_N, nv_dgB] at r1
  generalize rz n k = x at *
  generalize rden n k = y at *
  refine mkcQ fol J0s Tryz.func36 a36 [.c 4 true 3] ?_
  unfold a36
  simp only [init_eq, initE, qm, qr, qn]
  exact wcQ @bz_Q5
def dyV (z : Int) (e : Int) : V := if e < -1048576 ∨ 1048576 < e then .g [.b false, .l 1 [], .l 1 []] else if e < 0 then rN (rz z (2 ^ (-e).toNat)) (rden z (2 ^ (-e).toNat)) else rN (rz (z * 2 ^ e.toNat) 1) (rden (z * 2 ^ e.toNat) 1)
def dyE (e : Int) : Int := if e < -1048576 ∨ 1048576 < e then 3 else 0
def a86 : AC := .seq (.reg [qr 2 (.mv (.k .nl))])
 (.seq (.reg [qr 6 (.call 88 [(1, (.k (.i .u64 1)))]),
 qm 7 0,
 qr 8 (.call 123 [(1, (.t 6)), (1, (.t 7))]),
 qm 5 8,
 qr 9 (.ext (.t 5) 0),
 qr 10 (.ext (.t 5) 1),
 qm 3 9,
 qm 4 10])
 (.seq (.reg [qm 11 3,
 qm 2 11])
 (.ret)))
theorem qtwo_spec (n : Nat) (hn : n ≤ 1048576) : AFun Tryz.prog J0 86 [.i .i64 (n : Int)] (.l 1 (W (dg B (2 ^ n)))) := by
  have h1 := (natOf_spec 1 (by decide)).frozen
  have h2 := shl_spec (dg B 1) (n : Int) (Wd_dg _) (Nat.le_trans (dlen (k := 1) (by decide)) (by decide))
  rw [shlR_ok hn, nv_dgB, Nat.one_mul] at h2
  refine mkQ fol J0s Tryz.func86 a86 ?_
  unfold a86
  simp only [init_eq, initE, qm, qr, qn]
  exact wdQ @bz_Q5
def a44 : AC := .seq (.reg [qr 2 (.bx 25 (.t 0)),
 qr 4 (.al 27 [(.b false), (.l 1 []), (.l 1 [])]),
 qr 5 (.mv (.k (.i .i64 0)))])
 (.seq (.seq (.reg [qm 8 1,
 qr 9 (.bin .lss (.t 8) (.k (.i .i64 (-1048576)))),
 qm 10 9,
 ⟨some 11, some (10, false), .mv (.t 1)⟩,
 ⟨some 12, some (10, false), .bin .gtr (.t 11) (.k (.i .i64 1048576))⟩,
 qr 13 (.pick (.t 10) (.k (.b true)) (.t 12))])
 (.cond (.t 13)
 (.seq (.reg [qr 14 (.bld [(.b false), (.l 1 []), (.l 1 [])] []),
 qn (.st 3 (.t 4) (.t 14)),
 qr 5 (.mv (.k (.i .i64 3)))])
 (.ret))
 (.skip)))
 (.seq (.seq (.reg [qm 15 1,
 qr 16 (.bin .lss (.t 15) (.k (.i .i64 0)))])
 (.cond (.t 16)
 (.seq (.dreg [qr 17 (.ld true 2 (.t 2)),
 qm 18 1,
 qr 19 (.un .neg (.t 18)),
 qr 20 (.call 86 [(1, (.t 19))]),
 qr 21 (.call 85 [(1, (.t 17)), (1, (.t 20))]),
 qn (.st 3 (.t 4) (.t 21)),
 qr 5 (.mv (.k (.i .i64 0)))])
 (.ret))
 (.skip)))
 (.seq (.reg [qr 23 (.ld true 2 (.t 2)),
 qm 24 1,
 qr 25 (.call 87 [(1, (.t 23)), (1, (.t 24))]),
 qm 22 25,
 qr 26 (.ext (.t 22) 0),
 qr 27 (.ext (.t 22) 1),
 qr 6 (.al 25 [(.b false), (.l 1 [])]),
 qn (.st 2 (.t 6) (.t 26)),
 qm 7 27])
 (.seq (.dreg [qr 28 (.ld true 2 (.t 6)),
 qr 29 (.call 88 [(1, (.k (.i .u64 1)))]),
 qr 30 (.call 85 [(1, (.t 28)), (1, (.t 29))]),
 qm 31 7,
 qn (.st 3 (.t 4) (.t 30)),
 qm 5 31])
 (.ret)))))
theorem qdy_spec (s : Bool) (a : List Nat) (e : Int) (m : Nat) (hm : m ≤ 10000000) (hm1 : 16385 ≤ m) (ha : Wd a) (la : a.length ≤ m) : AFun Tryz.prog J0 44 [zL s a, .i .i64 e] (.t [dyV (zv s a) e, .i .i64 (dyE e)]) := by
  by_cases h1 : e < -1048576
  · rw [show dyV (zv s a) e = .g [.b false, .l 1 [], .l 1 []] from if_pos (.inl h1), show dyE e = 3 from if_pos (.inl h1)]
    refine mkcQ fol J0s Tryz.func44 a44 [.c 4 true 3, .t 5] ?_
    unfold a44
    simp only [init_eq, initE, qm, qr, qn]
    exact pcQ (ai @h1 @bz_Q5)
  · by_cases h2 : 1048576 < e
    · rw [show dyV (zv s a) e = .g [.b false, .l 1 [], .l 1 []] from if_pos (.inr h2), show dyE e = 3 from if_pos (.inr h2)]
      refine mkcQ fol J0s Tryz.func44 a44 [.c 4 true 3, .t 5] ?_
      unfold a44
      simp only [init_eq, initE, qm, qr, qn]
      exact pcQ (ai @h2 (ai @h1 @bz_Q5))
    · rw [show dyE e = 0 from if_neg (by omega)]
      unfold dyV
      rw [if_neg (by omega)]
      by_cases h3 : e < 0
      · rw [if_pos h3]
        obtain ⟨n, hn⟩ : ∃ n : Nat, -e = (n : Int) := ⟨(-e).toNat, by omega⟩
        have w1 : IntKind.i64.wrap (0 - e) = (n : Int) := by rw [wi (by omega)]; omega
        rw [show (-e).toNat = n from by omega]
        have t1 := qtwo_spec n (by omega)
        have r1 := qred_spec s a (dg B (2 ^ n)) m (by omega) ha (Wd_dg _) la (Nat.le_trans (dlen (two_lt n)) (by omega)) (by rw [nv_dgB]; exact Nat.pos_iff_ne_zero.1 (Nat.two_pow_pos n))
        rw [nv_dgB] at r1
        generalize rz (zv s a) (2 ^ n) = x at *
        generalize rden (zv s a) (2 ^ n) = y at *
        generalize dg B (2 ^ n) = t at *
        refine mkcQ fol J0s Tryz.func44 a44 [.c 4 true 3, .t 5] ?_
        unfold a44
        simp only [init_eq, initE, qm, qr, qn]
        exact wcQ (ai @w1 (ai @h3 (ai @h2 (ai @h1 @bz_Q5))))
      · rw [if_neg h3]
        have s1 := zshl_spec s a e ha (by omega)
        rw [show zlV (zv s a) e = zv s a * 2 ^ e.toNat from if_neg (by omega), show zlE e = 0 from if_neg (by omega)] at s1
        have hb : (zv s a * 2 ^ e.toNat).natAbs < B ^ (m + 16384) := by
          rw [Int.natAbs_mul, Int.natAbs_pow]
          exact shl_len (zv_lt ha la) (by omega)
        generalize zv s a * 2 ^ e.toNat = z at *
        have o1 := (natOf_spec 1 (by decide)).frozen
        have r1 := qred_spec (decide (z < 0)) (dg B z.natAbs) (dg B 1) (m + 16384) (by omega) (Wd_dg _) (Wd_dg _) (dlen hb) (Nat.le_trans (dlen (k := 1) (by decide)) (by omega)) (by rw [nv_dgB]; decide)
        rw [zv_N, nv_dgB] at r1
        generalize rz z 1 = x at *
        generalize rden z 1 = y at *
        refine mkcQ fol J0s Tryz.func44 a44 [.c 4 true 3, .t 5] ?_
        unfold a44
        simp only [init_eq, initE, qm, qr, qn]
        exact wcQ (ai @h3 (ai @h2 (ai @h1 @bz_Q5)))
end Go.Proofs.YtfcpigjmagbnkaaGreatDoor
namespace Go.Proofs.YtfcpigjmagbnkaaGreatDoor
open Go Go.RowKit Ab
set_option linter.unusedSimpArgs false
set_option linter.unusedVariables false
set_option maxHeartbeats 10000000
end Go.Proofs.YtfcpigjmagbnkaaGreatDoor
namespace Go.Proofs.YtfcpigjmagbnkaaGreatDoor
open Go Go.RowKit Ab
set_option linter.unusedSimpArgs false
set_option linter.unusedVariables false
set_option maxHeartbeats 10000000
end Go.Proofs.YtfcpigjmagbnkaaGreatDoor
namespace Go.Proofs.YtfcpigjmagbnkaaGreatDoor
open Go Go.RowKit Ab
set_option linter.unusedSimpArgs false
set_option linter.unusedVariables false
set_option maxHeartbeats 10000000
end Go.Proofs.YtfcpigjmagbnkaaGreatDoor
