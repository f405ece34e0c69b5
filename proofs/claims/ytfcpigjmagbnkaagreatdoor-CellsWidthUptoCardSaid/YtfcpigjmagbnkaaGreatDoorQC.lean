/-
  The texts Q9, Q10, Q11, Q12, Q13.
-/
import Derived.Test.YtfcpigjmagbnkaaGreatDoorP1
import Derived.Test.YtfcpigjmagbnkaaGreatDoorGG
import Derived.Test.YtfcpigjmagbnkaaGreatDoorQB
namespace Go.Proofs.YtfcpigjmagbnkaaGreatDoor
open Go Go.RowKit Ab
set_option linter.unusedSimpArgs false
set_option linter.unusedVariables false
set_option maxHeartbeats 10000000
theorem bz_Q9 : type_of% (And.intro @wi (And.intro @tn_nat (And.intro @Nat.div_one (And.intro @Nat.mul_one (And.intro @W_len (And.intro @W_nf (And.intro @W_cell (And.intro @W_nil (@W_get))))))))) := And.intro @wi (And.intro @tn_nat (And.intro @Nat.div_one (And.intro @Nat.mul_one (And.intro @W_len (And.intro @W_nf (And.intro @W_cell (And.intro @W_nil (@W_get))))))))
def a163 : AC := .seq (.reg [qr 4 (.mv (.k .nl)),
 qr 5 (.mv (.k (.i .i64 0)))])
 (.seq (.seq (.reg [qm 11 1,
 qr 12 (.bin .lss (.t 11) (.k (.i .u64 2)))])
 (.cond (.t 12)
 (.seq (.reg [qr 4 (.mv (.k .nl)),
 qr 5 (.mv (.k (.i .i64 3)))])
 (.ret))
 (.skip)))
 (.seq (.reg [qr 6 (.mv (.k .nl))])
 (.seq (.seq (.reg [qm 13 0,
 qr 14 (.call 120 [(1, (.t 13))]),
 qm 7 14])
 (.blk 0
 (.loop
 (.seq (.seq (.reg [qm 15 7,
 qr 16 (.len (.t 15)),
 qr 17 (.bin .gtr (.t 16) (.k (.i .i64 0)))])
 (.cond (.t 17)
 (.skip)
 (.exit 0)))
 (.blk 1
 (.seq (.reg [qm 19 7,
 qm 20 1,
 qr 21 (.call 166 [(1, (.t 19)), (1, (.t 20))]),
 qm 18 21,
 qr 22 (.ext (.t 18) 0),
 qr 23 (.ext (.t 18) 1),
 qr 24 (.ext (.t 18) 2),
 qm 8 22,
 qm 9 23,
 qm 10 24])
 (.seq (.seq (.reg [qm 25 10,
 qr 26 (.bin .neq (.t 25) (.k (.i .i64 0)))])
 (.cond (.t 26)
 (.seq (.reg [qm 27 10,
 qr 4 (.mv (.k .nl)),
 qm 5 27])
 (.ret))
 (.skip)))
 (.seq (.reg [qm 28 6,
 qm 29 9,
 qr 30 (.bsl 39 1 1 [(.i .u64 0)] [(0, (.t 29))]),
 qr 31 (.app 39 1 8 (.t 28) (.t 30)),
 qm 6 31])
 (.reg [qm 32 8,
 qm 7 32])))))))))
 (.seq (.reg [qm 33 6,
 qm 4 33,
 qr 5 (.mv (.k (.i .i64 0)))])
 (.ret)))))
def dgD (u b : Nat) : List Nat := if b < 2 then [] else dg b u
def dgE (b : Nat) : Int := if b < 2 then 3 else 0
theorem digs_spec (a : List Nat) (b : Nat) (ha : Wd a) (hb : b < 18446744073709551616) (la : a.length ≤ 10000000) :
    AFun Tryz.prog J0 163 [.l 1 (W a), .i .u64 (b : Int)] (.t [.l 1 (W (dgD (nv B a) b)), .i .i64 (dgE b)]) := by
  refine mkQ fol J0s Tryz.func163 a163 ?_
  unfold a163
  simp only [init_eq, initE, qm, qr, qn]
  by_cases h0 : (b : Int) < 2
  · rw [show dgD (nv B a) b = [] from if_pos (by omega), show dgE b = 3 from if_pos (by omega)]
    refine spQ (ai @h0 (ai @lnilA @bz_Q9)) ?_
    exact rtQ (ai @lnilA @bz_Q9)
  · have hb2 : 2 ≤ b := by omega
    rw [show dgD (nv B a) b = dg b (nv B a) from if_neg (by omega), show dgE b = 0 from if_neg (by omega)]
    have hn := (norm_dg a ha (by omega)).frozen
    have hA := nv_lt ha
    have hw := fun x (hx : x < B ^ a.length) => word_spec (dg B x) b (Wd_dg x) (by omega) hb (by have := dlen hx; omega)
    simp only [nv_dgB] at hw
    generalize nv B a = u at *
    have hbig : ∀ i, 0 < u / b ^ i → i < 64 * a.length := fun i h => by
      have h1 : b ^ i ≤ u := by
        rcases Nat.lt_or_ge u (b ^ i) with h2 | h2
        · rw [Nat.div_eq_of_lt h2] at h; omega
        · exact h2
      have h2 : 2 ^ i ≤ b ^ i := Nat.pow_le_pow_left hb2 i
      have h3 : 2 ^ i < 2 ^ (64 * a.length) := by rw [Nat.pow_mul, show (2 : Nat) ^ 64 = B from rfl]; omega
      exact (Nat.pow_lt_pow_iff_right (by decide : 1 < 2)).1 h3
    have hbigl : ∀ i, (i = 0 ∨ 0 < u / b ^ (i - 1)) → i ≤ 64 * a.length := fun i h => by
      rcases h with h | h
      · omega
      · have := hbig _ h; omega
    refine wkQ (ai @h0 (ai @lnilA @bz_Q9)) ?_
    refine vm_loopA [(6, 39, 1)] Nat (fun i => ⟨[(1, .i .u64 (b : Int)), (6, .ow 1 0 i), (7, .l 1 (W (dg B (u / b ^ i))))], [(0, some ⟨39, 1, W (fl b i u), true, false⟩)], 1⟩)
      (fun i => i = 0 ∨ 0 < u / b ^ (i - 1)) (fun i => u / b ^ i) 0 (.inl rfl) (by exact leQ) (by
      simp (disch := (first | omega | assumption)) only [Sl, Sa, Sw, ↓reduceIte, Nat.reduceEqDiff, Nat.reduceLT, List.all_nil, List.all_cons, Nat.reduceBneDiff, Nat.reduceAdd, bne_iff_ne, ne_eq, reduceCtorEq, not_false_eq_true, not_true_eq_false, Bool.and_true, Bool.true_and, and_true, true_and, and_self, i_eq]
      rw [Nat.pow_zero, Nat.div_one]
      repeat' first | rfl | omega | (simp only [List.length_append, List.length_cons, List.length_nil]; done) | apply And.intro) ?_
    intro i hi Q' hQ he hr
    have hil := hbigl i hi
    by_cases h1 : u / b ^ i = 0
    · have e : fl b i u = dg b u := by
        refine fl_full hb2 (hi.imp id fun h => ?_) ?_
        · rcases Nat.lt_or_ge u (b ^ (i - 1)) with h2 | h2
          · rw [Nat.div_eq_of_lt h2] at h; omega
          · exact h2
        · rcases Nat.lt_or_ge u (b ^ i) with h2 | h2
          · exact h2
          · have := (Nat.le_div_iff_mul_le (Nat.pow_pos (by omega : 0 < b))).2 (by rw [Nat.one_mul]; exact h2 : 1 * b ^ i ≤ u)
            omega
      rw [h1, dg_zero]
      refine spQ (ai @lnilA @bz_Q9) ?_
      refine he _ _ ?_
      refine spQ (ai @lnilA @bz_Q9) ?_
      exact rtQ (ai @e (ai @lnilA @bz_Q9))
    · have hp : 0 < u / b ^ i := Nat.pos_of_ne_zero h1
      have hx : u / b ^ i < B ^ a.length := Nat.lt_of_le_of_lt (Nat.div_le_self _ _) hA
      have hwi := hw _ hx
      have hlt : u / b ^ i / b < u / b ^ i := Nat.div_lt_self hp (by omega)
      rw [Nat.div_div_eq_div_mul, ← Nat.pow_succ] at hwi hlt
      have hpos : (0 : Int) < (((dg B (u / b ^ i)).length : Nat) : Int) := by
        have : (dg B (u / b ^ i)).length ≠ 0 := fun h => h1 ((dg_nil B2).1 (List.eq_nil_of_length_eq_zero h))
        omega
      repeat first | (refine hK _ ?_; clear hK K) | simp only [Sv, ↓reduceIte, Nat.reduceEqDiff] | ((first | refine vm_reg (fun K hK => ?_) | refine vm_dreg (fun K hK => ?_) | refine vm_dregx (fun K hK => ?_) | refine clp_q ?_ | refine clq_mk (by assumption) ?_ | refine mcq_q ?_ | (apply mcr_mk; assumption)); simp (disch := (first | omega | assumption)) only [S1, ↓reduceIte, Nat.reduceEqDiff, Nat.reduceAdd, Nat.reduceMul, Nat.reduceDiv, AOp.sb, AOp.mut, frzf, ↓Bool.false_eq_true, beq_self_eq_true, ite_self, Nat.reduceLeDiff, Int.reduceEq, Int.reduceSub, Int.reduceAdd, Int.reduceNeg, Int.reduceLT, Int.reduceLE, Nat.reduceLT, bz_Q9, List.length_nil, hpos, W_app1, ← fl_succ])
      refine hQ _ (i + 1) (.inr hp) hlt ?_
      exact ltQ
def a147 : AC := .seq (.reg [qr 4 (.mv (.k (.s [])))])
 (.seq (.reg [qm 11 0,
 qm 12 1,
 qr 13 (.cvt .u64 (.t 12)),
 qr 14 (.call 163 [(1, (.t 11)), (1, (.t 13))]),
 qm 10 14,
 qr 15 (.ext (.t 10) 0),
 qr 16 (.ext (.t 10) 1),
 qm 5 15,
 qm 6 16])
 (.seq (.seq (.reg [qm 17 5,
 qr 18 (.len (.t 17)),
 qr 19 (.bin .eql (.t 18) (.k (.i .i64 0)))])
 (.cond (.t 19)
 (.seq (.reg [qr 20 (.asl 36 1 (.k (.ip tab_0 0)) none (some (.k (.i .i64 1)))),
 qr 21 (.pur .b2s [(.t 20)]),
 qm 4 21])
 (.ret))
 (.skip)))
 (.seq (.reg [qm 22 5,
 qr 23 (.len (.t 22)),
 qr 24 (.mk 5 1 1 [(.i .u8 0)] (.t 23) (.t 23)),
 qm 7 24])
 (.seq (.seq (.reg [qm 25 5,
 qr 26 (.len (.t 25)),
 qr 27 (.mv (.k (.i .i64 0)))])
 (.blk 0
 (.loop
 (.seq (.reg [qr 28 (.bin .lss (.t 27) (.t 26))])
 (.seq (.cond (.t 28)
 (.skip)
 (.exit 0))
 (.seq (.blk 1
 (.seq (.reg [qm 29 27,
 qr 30 (.idx 1 (.t 25) (.t 27)),
 qr 31 (.ld false 1 (.t 30)),
 qm 8 29,
 qm 9 31])
 (.reg [qm 32 7,
 qm 33 5,
 qr 34 (.len (.t 33)),
 qr 35 (.bin .sub (.t 34) (.k (.i .i64 1))),
 qm 36 8,
 qr 37 (.bin .sub (.t 35) (.t 36)),
 qm 38 9,
 qr 39 (.aix 36 1 (.k (.ip tab_0 0)) (.t 38)),
 qr 40 (.ld false 1 (.t 39)),
 qr 41 (.idx 1 (.t 32) (.t 37)),
 qn (.st 1 (.t 41) (.t 40))])))
 (.reg [qr 42 (.bin .add (.t 27) (.k (.i .i64 1))),
 qm 27 42])))))))
 (.seq (.reg [qm 43 7,
 qr 44 (.pur .b2s [(.t 43)]),
 qm 4 44])
 (.ret))))))
end Go.Proofs.YtfcpigjmagbnkaaGreatDoor
namespace Go.Proofs.YtfcpigjmagbnkaaGreatDoor
open Go Go.RowKit Ab
set_option linter.unusedSimpArgs false
set_option linter.unusedVariables false
set_option maxHeartbeats 10000000
def a118 : AC := .seq (.reg [qr 2 (.mv (.k (.s [])))])
 (.seq (.reg [qm 3 0,
 qr 4 (.call 147 [(1, (.t 3)), (1, (.k (.i .i64 10)))]),
 qm 2 4])
 (.ret))
def a117 : AC := .seq (.reg [qr 1 (.bx 25 (.t 0)),
 qr 2 (.mv (.k (.s [])))])
 (.seq (.reg [qr 4 (.ld true 2 (.t 1)),
 qr 5 (.call 76 [(1, (.t 4))]),
 qr 3 (.al 25 [(.b false), (.l 1 [])]),
 qn (.st 2 (.t 3) (.t 5))])
 (.seq (.seq (.reg [qr 6 (.fad 0 (.t 3)),
 qr 7 (.ld false 1 (.t 6))])
 (.cond (.t 7)
 (.seq (.reg [qr 8 (.fad 1 (.t 3)),
 qr 9 (.ld false 1 (.t 8)),
 qr 10 (.call 118 [(1, (.t 9))]),
 qr 11 (.bin .add (.k (.s [45])) (.t 10)),
 qm 2 11])
 (.ret))
 (.skip)))
 (.seq (.reg [qr 12 (.fad 1 (.t 3)),
 qr 13 (.ld false 1 (.t 12)),
 qr 14 (.call 118 [(1, (.t 13))]),
 qm 2 14])
 (.ret))))
def a73 : AC := .seq (.reg [qr 1 (.bx 27 (.t 0)),
 qr 2 (.mv (.k (.s []))),
 qr 3 (.mv (.k (.i .i64 0)))])
 (.seq (.reg [qr 7 (.ld true 3 (.t 1)),
 qr 8 (.call 116 [(1, (.t 7))]),
 qm 6 8,
 qr 9 (.ext (.t 6) 0),
 qr 10 (.ext (.t 6) 1),
 qn (.st 3 (.t 1) (.t 9)),
 qm 4 10])
 (.seq (.seq (.reg [qm 11 4,
 qr 12 (.bin .neq (.t 11) (.k (.i .i64 0)))])
 (.cond (.t 12)
 (.seq (.reg [qm 13 4,
 qr 2 (.mv (.k (.s []))),
 qm 3 13])
 (.ret))
 (.skip)))
 (.seq (.reg [qr 14 (.fad 0 (.t 1)),
 qr 15 (.ld true 2 (.t 14)),
 qr 16 (.call 117 [(1, (.t 15))]),
 qm 5 16])
 (.seq (.seq (.reg [qr 17 (.fad 2 (.t 1)),
 qr 18 (.ld false 1 (.t 17)),
 qr 19 (.call 79 [(1, (.t 18))]),
 qr 20 (.bin .gtr (.t 19) (.k (.i .i64 1)))])
 (.cond (.t 20)
 (.reg [qm 21 5,
 qr 22 (.fad 2 (.t 1)),
 qr 23 (.ld false 1 (.t 22)),
 qr 24 (.call 118 [(1, (.t 23))]),
 qr 25 (.bin .add (.k (.s [47])) (.t 24)),
 qr 26 (.bin .add (.t 21) (.t 25)),
 qm 5 26])
 (.skip)))
 (.seq (.reg [qm 27 5,
 qm 2 27,
 qr 3 (.mv (.k (.i .i64 0)))])
 (.ret))))))
end Go.Proofs.YtfcpigjmagbnkaaGreatDoor
namespace Go.Proofs.YtfcpigjmagbnkaaGreatDoor
open Go Go.RowKit Ab
set_option linter.unusedSimpArgs false
set_option linter.unusedVariables false
set_option maxHeartbeats 10000000
end Go.Proofs.YtfcpigjmagbnkaaGreatDoor
namespace Go.Proofs.YtfcpigjmagbnkaaGreatDoor
open Go Go.RowKit Ab
set_option linter.unusedSimpArgs false
set_option linter.unusedVariables false
set_option maxHeartbeats 10000000
theorem bz_Q12 : type_of% (And.intro @W_len (And.intro @D_len (And.intro @Nat.div_one (And.intro @Nat.mul_one (And.intro @tn_nat (And.intro @W_nf (And.intro @D_nf (And.intro @W_nil (And.intro @D_nil (And.intro @wi (And.intro @nf_g (And.intro @Bool.false_and (@W_cell))))))))))))) := And.intro @W_len (And.intro @D_len (And.intro @Nat.div_one (And.intro @Nat.mul_one (And.intro @tn_nat (And.intro @W_nf (And.intro @D_nf (And.intro @W_nil (And.intro @D_nil (And.intro @wi (And.intro @nf_g (And.intro @Bool.false_and (@W_cell))))))))))))
def a49 : AC := .seq (.reg [qr 2 (.bx 27 (.t 0)),
 qr 4 (.al 25 [(.b false), (.l 1 [])]),
 qr 5 (.mv (.k (.i .i64 0)))])
 (.seq (.seq (.reg [qr 9 (.ld true 3 (.t 2)),
 qr 10 (.call 48 [(1, (.t 9))]),
 qm 6 10])
 (.seq (.reg [qm 11 6,
 qr 12 (.bin .neq (.t 11) (.k (.i .i64 0)))])
 (.cond (.t 12)
 (.seq (.reg [qr 13 (.bld [(.b false), (.l 1 [])] []),
 qm 14 6,
 qn (.st 2 (.t 4) (.t 13)),
 qm 5 14])
 (.ret))
 (.skip))))
 (.seq (.seq (.reg [qm 15 1,
 qr 16 (.bin .lss (.t 15) (.k (.i .i64 (-1048576)))),
 qm 17 16,
 ⟨some 18, some (17, false), .mv (.t 1)⟩,
 ⟨some 19, some (17, false), .bin .gtr (.t 18) (.k (.i .i64 1048576))⟩,
 qr 20 (.pick (.t 17) (.k (.b true)) (.t 19))])
 (.cond (.t 20)
 (.seq (.reg [qr 21 (.bld [(.b false), (.l 1 [])] []),
 qn (.st 2 (.t 4) (.t 21)),
 qr 5 (.mv (.k (.i .i64 3)))])
 (.ret))
 (.skip)))
 (.seq (.dreg [qr 22 (.fad 0 (.t 2)),
 qr 23 (.ld true 2 (.t 22)),
 qr 24 (.fad 2 (.t 2)),
 qr 25 (.ld false 1 (.t 24)),
 qr 26 (.call 90 [(1, (.k (.b false))), (1, (.t 25))]),
 qr 7 (.al 25 [(.b false), (.l 1 [])]),
 qr 8 (.al 25 [(.b false), (.l 1 [])]),
 qn (.st 2 (.t 7) (.t 23)),
 qn (.st 2 (.t 8) (.t 26))])
 (.seq (.seq (.reg [qm 27 1,
 qr 28 (.bin .lss (.t 27) (.k (.i .i64 0)))])
 (.cond (.t 28)
 (.reg [qr 30 (.ld true 2 (.t 8)),
 qm 31 1,
 qr 32 (.un .neg (.t 31)),
 qr 33 (.call 87 [(1, (.t 30)), (1, (.t 32))]),
 qm 29 33,
 qr 34 (.ext (.t 29) 0),
 qr 35 (.ext (.t 29) 1),
 qn (.st 2 (.t 8) (.t 34))])
 (.reg [qr 37 (.ld true 2 (.t 7)),
 qm 38 1,
 qr 39 (.call 87 [(1, (.t 37)), (1, (.t 38))]),
 qm 36 39,
 qr 40 (.ext (.t 36) 0),
 qr 41 (.ext (.t 36) 1),
 qn (.st 2 (.t 7) (.t 40))])))
 (.seq (.reg [qr 42 (.ld true 2 (.t 7)),
 qr 43 (.ld true 2 (.t 8)),
 qr 44 (.call 91 [(1, (.t 42)), (1, (.t 43))]),
 qr 45 (.ext (.t 44) 0),
 qr 46 (.ext (.t 44) 1),
 qn (.st 2 (.t 4) (.t 45)),
 qm 5 46])
 (.ret))))))
theorem qfloor_up (s : Bool) (a d : List Nat) (k m : Nat) (hk : k ≤ 1048576) (hm : m ≤ 10000000) (hm1 : 16384 ≤ m) (ha : Wd a) (hd : Wd d) (la : a.length ≤ m) (ld : d.length ≤ m) (h0 : nv B d ≠ 0) : AFun Tryz.prog J0 49 [rL s a d, .i .i64 (k : Int)] (.t [zN ((zv s a * 2 ^ k).fdiv (nv B d : Int)), .i .i64 0]) := by
  have h1 := qcheck_spec s a d hd (by omega)
  rw [if_neg h0] at h1
  have h2 := znat_spec false d hd (by omega)
  rw [zv_f] at h2
  have h3 := zshl_spec s a (k : Int) ha (by omega)
  rw [show zlV (zv s a) (k : Int) = zv s a * 2 ^ k from if_neg (by omega), show zlE (k : Int) = 0 from if_neg (by omega)] at h3
  have hb : (zv s a * 2 ^ k).natAbs < B ^ (m + 16384) := by
    rw [Int.natAbs_mul, Int.natAbs_pow]
    exact shl_len (zv_lt ha la) hk
  generalize zv s a * 2 ^ k = z at *
  have h4 := zfloor_spec (decide (z < 0)) (decide ((nv B d : Int) < 0)) (dg B z.natAbs) (dg B ((nv B d : Int)).natAbs) (Wd_dg _) (Wd_dg _) (Nat.le_trans (dlen hb) (by omega)) (Nat.le_trans (dlen (nvlt hd ld)) (by omega))
  rw [zv_N, zv_N, show ze (nv B d : Int) = 0 from if_neg (by omega)] at h4
  have k1 : ¬ (k : Int) < -1048576 := by omega
  have k2 : ¬ (1048576 : Int) < (k : Int) := by omega
  have k3 : ¬ (k : Int) < 0 := by omega
  generalize z.fdiv (nv B d : Int) = q at *
  generalize (nv B d : Int) = dd at *
  refine mkcQ fol J0s Tryz.func49 a49 [.c 4 true 2, .t 5] ?_
  unfold a49
  simp only [init_eq, initE, qm, qr, qn]
  exact wcQ (ai @k3 (ai @k2 (ai @k1 @bz_Q12)))
def a50 : AC := .seq (.reg [qr 2 (.bx 27 (.t 0)),
 qr 4 (.al 25 [(.b false), (.l 1 [])]),
 qr 5 (.mv (.k (.i .i64 0)))])
 (.seq (.reg [qr 8 (.fad 0 (.t 2)),
 qr 9 (.ld true 2 (.t 8)),
 qr 10 (.call 92 [(1, (.t 9))]),
 qr 11 (.fad 0 (.t 2)),
 qn (.st 2 (.t 11) (.t 10))])
 (.seq (.reg [qr 13 (.ld true 3 (.t 2)),
 qm 14 1,
 qr 15 (.call 49 [(1, (.t 13)), (1, (.t 14))]),
 qm 12 15,
 qr 16 (.ext (.t 12) 0),
 qr 17 (.ext (.t 12) 1),
 qr 6 (.al 25 [(.b false), (.l 1 [])]),
 qn (.st 2 (.t 6) (.t 16)),
 qm 7 17])
 (.seq (.seq (.reg [qm 18 7,
 qr 19 (.bin .neq (.t 18) (.k (.i .i64 0)))])
 (.cond (.t 19)
 (.seq (.reg [qr 20 (.bld [(.b false), (.l 1 [])] []),
 qm 21 7,
 qn (.st 2 (.t 4) (.t 20)),
 qm 5 21])
 (.ret))
 (.skip)))
 (.seq (.reg [qr 22 (.ld true 2 (.t 6)),
 qr 23 (.call 92 [(1, (.t 22))]),
 qn (.st 2 (.t 4) (.t 23)),
 qr 5 (.mv (.k (.i .i64 0)))])
 (.ret)))))
end Go.Proofs.YtfcpigjmagbnkaaGreatDoor
namespace Go.Proofs.YtfcpigjmagbnkaaGreatDoor
open Go Go.RowKit Ab
set_option linter.unusedSimpArgs false
set_option linter.unusedVariables false
set_option maxHeartbeats 10000000
end Go.Proofs.YtfcpigjmagbnkaaGreatDoor
