/-
  nat, surdref02: words, plain ints, bits, how often 2 divides.
-/
import Derived.Test.YtfcpigjmagbnkaaGreatDoorCT
import Derived.Test.YtfcpigjmagbnkaaGreatDoorZb
import Derived.Test.YtfcpigjmagbnkaaGreatDoorGG
import Derived.Test.YtfcpigjmagbnkaaGreatDoorGE
import Derived.Test.YtfcpigjmagbnkaaGreatDoorGC
namespace Go.Proofs.YtfcpigjmagbnkaaGreatDoor
open Go Go.RowKit Ab
set_option linter.unusedSimpArgs false
set_option linter.unusedVariables false
set_option maxHeartbeats 10000000
theorem bz_NB : type_of% (And.intro @wi (And.intro @tn_nat (And.intro @Nat.div_one (And.intro @Nat.mul_one (And.intro @W_len (And.intro @W_nf (And.intro @W_cell (And.intro @W_nil (And.intro @W_get (And.intro @Bl_len (And.intro @Bl_nf (@Bl_nil)))))))))))) := And.intro @wi (And.intro @tn_nat (And.intro @Nat.div_one (And.intro @Nat.mul_one (And.intro @W_len (And.intro @W_nf (And.intro @W_cell (And.intro @W_nil (And.intro @W_get (And.intro @Bl_len (And.intro @Bl_nf (@Bl_nil)))))))))))
def a156 : AC := .seq (.reg [qr 2 (.mv (.k (.i .i64 0)))])
 (.seq (.seq (.reg [qm 3 0,
 qr 4 (.bin .eql (.t 3) (.k (.i .u64 0)))])
 (.cond (.t 4)
 (.seq (.reg [qr 2 (.mv (.k (.i .i64 64)))])
 (.ret))
 (.skip)))
 (.seq (.reg [qm 5 0,
 qm 6 0,
 qr 7 (.un .neg (.t 6)),
 qr 8 (.bin .and (.t 5) (.t 7)),
 qr 9 (.bin .mul (.t 8) (.k (.i .u64 285870213051353865))),
 qr 10 (.bin .shr (.t 9) (.k (.i .u64 58))),
 qr 11 (.aix 64 1 (.k (.ip tab_1 0)) (.t 10)),
 qr 12 (.ld false 1 (.t 11)),
 qr 13 (.cvt .i64 (.t 12)),
 qm 2 13])
 (.ret)))
theorem tab_ct0 : ∀ k : Nat, k < 64 → (match tab_1.getD (2 ^ k * 285870213051353865 % 18446744073709551616 / 2 ^ 58) .un with | .i .u8 n => decide (n = (k : Int)) | _ => false) = true := by decide +kernel
theorem tab_ct (k : Nat) (hk : k < 64) : tab_1.getD (2 ^ k * 285870213051353865 % 18446744073709551616 / 2 ^ 58) .un = .i .u8 (k : Int) := by
  have h := tab_ct0 k hk
  generalize tab_1.getD (2 ^ k * 285870213051353865 % 18446744073709551616 / 2 ^ 58) .un = v at h ⊢
  split at h
  · rw [of_decide_eq_true h]
  · cases h
theorem trail_spec (x : Nat) (hx : x < 18446744073709551616) (h0 : x ≠ 0) : AFun Tryz.prog J0 156 [.i .u64 (x : Int)] (.i .i64 ((ct x : Nat) : Int)) := by
  have hl := ct_lt (n := 64) hx h0
  have ht := tab_ct (ct x) hl
  have h1 : ¬ ((x : Int) = 0) := by omega
  have hn : IntKind.u64.wrap (0 - (x : Int)) = ((18446744073709551616 - x : Nat) : Int) := by rw [IntKind.wrap_u64]; omega
  have ha : bits .and .u64 (x : Int) ((18446744073709551616 - x : Nat) : Int) = ((2 ^ ct x : Nat) : Int) := by rw [band64 _ _ hx (by omega), low_bit h0 hx]
  have hm : IntKind.u64.wrap (((2 ^ ct x : Nat) : Int) * 285870213051353865) = ((2 ^ ct x * 285870213051353865 % 18446744073709551616 : Nat) : Int) := by
    rw [IntKind.wrap_u64]; omega
  have hs := shr64 (2 ^ ct x * 285870213051353865 % 18446744073709551616) 58 (by decide)
  have hs2 : 2 ^ ct x * 285870213051353865 % 18446744073709551616 / 2 ^ 58 < 64 := (Nat.div_lt_iff_lt_mul (by decide)).2 (Nat.mod_lt _ (by decide))
  have hc : IntKind.i64.wrap ((ct x : Nat) : Int) = ((ct x : Nat) : Int) := wi ⟨by omega, by omega⟩
  have htl : tab_1.length = 64 := rfl
  generalize 2 ^ ct x * 285870213051353865 % 18446744073709551616 = y at *
  generalize y / 2 ^ 58 = z at *
  replace hs : ((y : Nat) : Int).fdiv (2 ^ min (Int.toNat 58) IntKind.u64.bits) = ((z : Nat) : Int) := hs
  refine mkQ fol J0s Tryz.func156 a156 ?_
  unfold a156
  simp only [init_eq, initE, qm, qr, qn]
  exact pdQ (ai @Nat.zero_add (ai @hc (ai @htl (ai @ht (ai @hs (ai @hm (ai @ha (ai @hn (ai @h1 (ai @lnilA @bz_NB))))))))))
def a133 : AC := .seq (.reg [qr 2 (.mv (.k (.i .i64 0)))])
 (.seq (.seq (.reg [qm 5 0,
 qr 6 (.len (.t 5)),
 qr 7 (.mv (.k (.i .i64 0)))])
 (.blk 0
 (.loop
 (.seq (.reg [qr 8 (.bin .lss (.t 7) (.t 6))])
 (.seq (.cond (.t 8)
 (.skip)
 (.exit 0))
 (.seq (.blk 1
 (.seq (.reg [qm 9 7,
 qr 10 (.idx 1 (.t 5) (.t 7)),
 qr 11 (.ld false 1 (.t 10)),
 qm 3 9,
 qm 4 11])
 (.seq (.reg [qm 12 4,
 qr 13 (.bin .neq (.t 12) (.k (.i .u64 0)))])
 (.cond (.t 13)
 (.seq (.reg [qm 14 3,
 qr 15 (.bin .mul (.t 14) (.k (.i .i64 64))),
 qm 16 4,
 qr 17 (.call 156 [(1, (.t 16))]),
 qr 18 (.bin .add (.t 15) (.t 17)),
 qm 2 18])
 (.ret))
 (.skip)))))
 (.reg [qr 19 (.bin .add (.t 7) (.k (.i .i64 1))),
 qm 7 19])))))))
 (.seq (.reg [qr 2 (.mv (.k (.i .i64 0)))])
 (.ret)))
theorem limbZeros_spec (a : List Nat) (ha : Wd a) (la : a.length ≤ 10000000000) : AFun Tryz.prog J0 133 [.l 1 (W a)] (.i .i64 ((ct (nv B a) : Nat) : Int)) := by
  obtain ⟨v, hv⟩ : ∃ v, v = nv B a := ⟨_, rfl⟩
  rw [← hv]
  refine mkQ fol J0s Tryz.func133 a133 ?_
  unfold a133
  simp only [init_eq, initE, qm, qr, qn]
  refine spQ (ai @lnilA @bz_NB) ?_
  refine vm_loopA [] Nat (fun i => ⟨[(5, .l 1 (W a)), (6, .i .i64 (a.length : Int)), (7, .i .i64 (i : Int))], [], 0⟩) (fun i => i ≤ a.length ∧ nv B (a.take i) = 0) (fun i => a.length - i) 0 ⟨Nat.zero_le _, by rw [List.take_zero]; rfl⟩ (by exact leQ) (by
    simp (disch := (first | omega | assumption)) only [Sl, Sa, Sw, ↓reduceIte, Nat.reduceEqDiff, Nat.reduceLT, List.all_nil, List.all_cons, Nat.reduceBneDiff, Nat.reduceAdd, bne_iff_ne, ne_eq, reduceCtorEq, not_false_eq_true, not_true_eq_false, Bool.and_true, Bool.true_and, and_true, true_and, and_self, i_eq]
    try rfl) ?_
  intro i ⟨hi, hj⟩ Q' hQ he hrr
  by_cases h : (i : Int) < (a.length : Int)
  · have hw := Wd_get ha i
    by_cases h1 : a.getD i 0 = 0
    · have h2 : (((a.getD i 0 : Nat) : Int) = 0) = True := eq_true (by rw [h1]; rfl)
      refine spQ (ai @h2 (ai @h (ai @lnilA @bz_NB))) ?_
      refine hQ _ (i + 1) ⟨by omega, ?_⟩ (by omega) ?_
      · rw [nv_take_succ', hj, h1]; simp
      · simp (disch := (first | omega | assumption)) only [Sl, Sa, Sw, ↓reduceIte, Nat.reduceEqDiff, Nat.reduceLT, List.all_nil, List.all_cons, Nat.reduceBneDiff, Nat.reduceAdd, bne_iff_ne, ne_eq, reduceCtorEq, not_false_eq_true, not_true_eq_false, Bool.and_true, Bool.true_and, and_true, true_and, and_self, i_eq]
        omega
    · have h2 : ¬ (((a.getD i 0 : Nat) : Int) = 0) := by omega
      have ht := trail_spec (a.getD i 0) hw h1
      have hl := ct_lt (n := 64) hw h1
      have e : ct v = 64 * i + ct (a.getD i 0) := by
        have h3 := nv_div (b := B) (by decide) ha i
        have h4 : v = B ^ i * nv B (a.drop i) := by
          have h5 := nv_app (b := B) (a.take i) (a.drop i)
          rw [List.take_append_drop, hj, List.length_take, Nat.min_eq_left hi, Nat.zero_add, ← hv] at h5
          exact h5
        have h6 : nv B (a.drop i) = a.getD i 0 + 2 ^ 64 * nv B (a.drop (i + 1)) := by
          rw [List.drop_eq_getElem_cons (by omega : i < a.length)]
          show a[i] + B * _ = _
          rw [List.getD_eq_getElem?_getD, List.getElem?_eq_getElem (by omega)]; rfl
        have h7 : B ^ i = 2 ^ (64 * i) := by rw [B64, ← Nat.pow_mul]
        rw [h4, h7, ct_shift (by rw [h6]; omega), h6, ct_add h1 hw]
      have e2 : (((i : Int) * 64) + ((ct (a.getD i 0) : Nat) : Int)) = ((ct v : Nat) : Int) := by rw [e]; omega
      refine spQ (ai @h2 (ai @h (ai @lnilA @bz_NB))) ?_
      refine wkQ (ai @h2 (ai @h (ai @lnilA @bz_NB))) ?_
      refine hrr _ ?_
      exact pdQ (ai @e2 (ai @lnilA @bz_NB))
  · obtain rfl : i = a.length := by omega
    rw [List.take_length, ← hv] at hj
    have e0 : ct v = 0 := by rw [hj]; exact ct_0
    refine spQ (ai @h (ai @lnilA @bz_NB)) ?_
    refine he _ _ ?_
    exact pdQ (ai @e0 (ai @lnilA @bz_NB))
def a94 : AC := .seq (.reg [qr 2 (.mv (.k (.i .i64 0)))])
 (.seq (.reg [qm 3 0,
 qr 4 (.call 133 [(1, (.t 3))]),
 qm 2 4])
 (.ret))
theorem twos_spec (a : List Nat) (ha : Wd a) (la : a.length ≤ 10000000000) : AFun Tryz.prog J0 94 [.l 1 (W a)] (.i .i64 ((ct (nv B a) : Nat) : Int)) := by
  have h := limbZeros_spec a ha la
  refine mkQ fol J0s Tryz.func94 a94 ?_
  unfold a94
  simp only [init_eq, initE, qm, qr, qn]
  exact wdQ (ai @lnilA @bz_NB)
end Go.Proofs.YtfcpigjmagbnkaaGreatDoor
