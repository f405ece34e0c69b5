/-
  Cells, by the document and the program: which holds a number; lists; widths; texts.
-/
import Derived.Test.YtfcpigjmagbnkaaGreatDoorC4
import Derived.Test.YtfcpigjmagbnkaaGreatDoorQ24
namespace Go.Proofs.YtfcpigjmagbnkaaGreatDoor
open Go Go.RowKit Ab
set_option linter.unusedSimpArgs false
set_option linter.unusedVariables false
set_option maxHeartbeats 10000000
theorem bz_C6 : type_of% (And.intro @W_len (And.intro @D_len (And.intro @Nat.div_one (And.intro @Nat.mul_one (And.intro @tn_nat (And.intro @W_nf (And.intro @D_nf (And.intro @W_nil (And.intro @D_nil (And.intro @wi (And.intro @nf_g (And.intro @Bool.false_and (@W_cell))))))))))))) := And.intro @W_len (And.intro @D_len (And.intro @Nat.div_one (And.intro @Nat.mul_one (And.intro @tn_nat (And.intro @W_nf (And.intro @D_nf (And.intro @W_nil (And.intro @D_nil (And.intro @wi (And.intro @nf_g (And.intro @Bool.false_and (@W_cell))))))))))))
def a8 : AC := .seq (.reg [qr 1 (.bx 27 (.t 0)),
 qr 2 (.mv (.k (.i .i64 0))),
 qr 3 (.mv (.k (.i .i64 0)))])
 (.seq (.reg [qr 8 (.ld true 3 (.t 1)),
 qr 9 (.call 38 [(1, (.t 8))]),
 qm 7 9,
 qr 10 (.ext (.t 7) 0),
 qr 11 (.ext (.t 7) 1),
 qm 4 10,
 qm 5 11])
 (.seq (.seq (.reg [qm 12 5,
 qr 13 (.bin .neq (.t 12) (.k (.i .i64 0)))])
 (.cond (.t 13)
 (.seq (.reg [qm 14 5,
 qr 2 (.mv (.k (.i .i64 0))),
 qm 3 14])
 (.ret))
 (.skip)))
 (.seq (.seq (.reg [qm 15 4,
 qr 16 (.bin .leq (.t 15) (.k (.i .i64 0)))])
 (.cond (.t 16)
 (.seq (.reg [qr 2 (.mv (.k (.i .i64 0))),
 qr 3 (.mv (.k (.i .i64 9)))])
 (.ret))
 (.skip)))
 (.seq (.reg [qr 18 (.ld true 3 (.t 1)),
 qr 19 (.call 39 [(1, (.t 18))]),
 qm 17 19,
 qr 20 (.ext (.t 17) 0),
 qr 21 (.ext (.t 17) 1),
 qm 6 20,
 qm 5 21])
 (.seq (.seq (.reg [qm 22 5,
 qr 23 (.bin .neq (.t 22) (.k (.i .i64 0)))])
 (.cond (.t 23)
 (.seq (.reg [qm 24 5,
 qr 2 (.mv (.k (.i .i64 0))),
 qm 3 24])
 (.ret))
 (.skip)))
 (.seq (.seq (.reg [qm 25 6,
 qr 26 (.bin .gtr (.t 25) (.k (.i .i64 1048576)))])
 (.cond (.t 26)
 (.seq (.reg [qr 2 (.mv (.k (.i .i64 0))),
 qr 3 (.mv (.k (.i .i64 13)))])
 (.ret))
 (.skip)))
 (.seq (.reg [qm 27 6,
 qm 2 27,
 qr 3 (.mv (.k (.i .i64 0)))])
 (.ret))))))))
theorem cexp_0 (s : Bool) (a d : List Nat) (m : Nat) (hm : m ≤ 10000000) (ha : Wd a) (hd : Wd d) (la : a.length ≤ m) (ld : d.length ≤ m) (h0 : nv B d = 0) : AFun Tryz.prog J0 8 [rL s a d] (.t [.i .i64 0, .i .i64 1]) := by
  have h1 := qsign_spec s a d m (by omega) ha hd la ld
  rw [if_pos h0, h0, re_0] at h1
  refine mkQ fol J0s Tryz.func8 a8 ?_
  unfold a8
  simp only [init_eq, initE, qm, qr, qn]
  exact wdQ @bz_C6
theorem cexp_s (s : Bool) (a d : List Nat) (m : Nat) (hm : m ≤ 10000000) (ha : Wd a) (hd : Wd d) (la : a.length ≤ m) (ld : d.length ≤ m) (h0 : nv B d ≠ 0) (hs : zv s a ≤ 0) : AFun Tryz.prog J0 8 [rL s a d] (.t [.i .i64 0, .i .i64 9]) := by
  have h1 := qsign_spec s a d m (by omega) ha hd la ld
  rw [if_neg h0, re_p h0] at h1
  have hs1 : sgz (zv s a) ≤ 0 := by unfold sgz; split; decide; rw [if_neg (by omega)]; decide
  generalize sgz (zv s a) = g at *
  refine mkQ fol J0s Tryz.func8 a8 ?_
  unfold a8
  simp only [init_eq, initE, qm, qr, qn]
  exact wdQ (ai @hs1 @bz_C6)
theorem cexp_k (s : Bool) (a d : List Nat) (k m : Nat) (hm : m ≤ 10000000) (ha : Wd a) (hd : Wd d) (la : a.length ≤ m) (ld : d.length ≤ m) (h0 : nv B d ≠ 0) (hs : 0 < zv s a) (hk : FinP (nv B a) (nv B d) k) : AFun Tryz.prog J0 8 [rL s a d] (.t [.i .i64 (if k ≤ 1048576 then (k : Int) else 0), .i .i64 (if k ≤ 1048576 then 0 else 13)]) := by
  have h1 := qsign_spec s a d m (by omega) ha hd la ld
  rw [if_neg h0, re_p h0] at h1
  have hs1 : sgz (zv s a) = 1 := by unfold sgz; rw [if_neg (by omega), if_pos hs]
  rw [hs1] at h1
  have h2 := qfiner_k s a d k m hm ha hd la ld h0 hs hk
  by_cases g : k ≤ 1048576
  · rw [if_pos g, if_pos g]
    have g1 : ¬ (1048576 : Int) < (k : Int) := by omega
    generalize (k : Int) = kk at *
    refine mkQ fol J0s Tryz.func8 a8 ?_
    unfold a8
    simp only [init_eq, initE, qm, qr, qn]
    exact wdQ (ai @g1 @bz_C6)
  · rw [if_neg g, if_neg g]
    have g1 : (1048576 : Int) < (k : Int) := by omega
    generalize (k : Int) = kk at *
    refine mkQ fol J0s Tryz.func8 a8 ?_
    unfold a8
    simp only [init_eq, initE, qm, qr, qn]
    exact wdQ (ai @g1 @bz_C6)
def a32 : AC := .seq (.reg [qr 1 (.bx 37 (.t 0)),
 qr 2 (.mv (.k (.s []))),
 qr 3 (.mv (.k (.i .i64 0)))])
 (.seq (.reg [qr 12 (.ld true 4 (.t 1)),
 qr 13 (.call 11 [(1, (.t 12))]),
 qm 11 13,
 qr 14 (.ext (.t 11) 0),
 qr 15 (.ext (.t 11) 1),
 qr 16 (.ext (.t 11) 2),
 qr 4 (.al 27 [(.b false), (.l 1 []), (.l 1 [])]),
 qr 5 (.al 27 [(.b false), (.l 1 []), (.l 1 [])]),
 qn (.st 3 (.t 4) (.t 14)),
 qn (.st 3 (.t 5) (.t 15)),
 qm 6 16])
 (.seq (.seq (.reg [qm 17 6,
 qr 18 (.bin .neq (.t 17) (.k (.i .i64 0)))])
 (.cond (.t 18)
 (.seq (.reg [qm 19 6,
 qr 2 (.mv (.k (.s []))),
 qm 3 19])
 (.ret))
 (.skip)))
 (.seq (.reg [qr 21 (.ld true 3 (.t 4)),
 qr 22 (.call 73 [(1, (.t 21))]),
 qm 20 22,
 qr 23 (.ext (.t 20) 0),
 qr 24 (.ext (.t 20) 1),
 qm 7 23,
 qm 8 24])
 (.seq (.seq (.reg [qr 25 (.fad 3 (.t 1)),
 qr 26 (.ld false 1 (.t 25))])
 (.cond (.t 26)
 (.seq (.reg [qm 27 7,
 qm 2 27,
 qr 3 (.mv (.k (.i .i64 0)))])
 (.ret))
 (.skip)))
 (.seq (.reg [qr 29 (.ld true 3 (.t 5)),
 qr 30 (.call 73 [(1, (.t 29))]),
 qm 28 30,
 qr 31 (.ext (.t 28) 0),
 qr 32 (.ext (.t 28) 1),
 qm 9 31,
 qm 10 32])
 (.seq (.reg [qm 33 7,
 qr 34 (.bin .add (.k (.s [40])) (.t 33)),
 qr 35 (.bin .add (.t 34) (.k (.s [44, 32]))),
 qm 36 9,
 qr 37 (.bin .add (.t 35) (.t 36)),
 qr 38 (.bin .add (.t 37) (.k (.s [41]))),
 qm 2 38,
 qr 3 (.mv (.k (.i .i64 0)))])
 (.ret)))))))
def cS (z : Int) (k : Nat) (p : Bool) : List UInt8 := if p then qpV (loQ z k).num (loQ z k).den else 40 :: (qpV (loQ z k).num (loQ z k).den ++ ([44, 32] ++ (qpV (loQ (z + 1) k).num (loQ (z + 1) k).den ++ [41])))
theorem qS_len {z : Int} {d m : Nat} (hz : z.natAbs < B ^ m) (hd : d < B ^ m) : (qS z d).length ≤ 128 * m + 4 := by
  have h1 := zS_len hz
  have h2 := decS_len hd
  unfold qS
  split
  · omega
  · rw [List.length_append, List.length_cons]; omega
theorem qpV_len {z : Int} {d m : Nat} (hz : z.natAbs < B ^ m) (hd : d < B ^ m) : (qpV z d).length ≤ 128 * m + 4 := by
  unfold qpV
  split
  · simp
  · exact qS_len (Nat.lt_of_le_of_lt (rz_le' _ _) hz) (Nat.lt_of_le_of_lt (rden_le _ _) hd)
theorem qprintR {v : V} {p : Rat} {m : Nat} (hv : Rr v p m) (hm : m ≤ 10000000) (he : v = rN p.num p.den) : AFun Tryz.prog J0 73 [v] (.t [.s (qpV p.num p.den), .i .i64 0]) := by
  obtain ⟨h1, h2⟩ := Rr_num hv
  have h := qprint_spec (decide (p.num < 0)) (dg B p.num.natAbs) (dg B p.den) m hm (Wd_dg _) (Wd_dg _) (dlen h1) (dlen h2)
  rw [zv_N, nv_dgB, re_p p.den_nz] at h
  rw [he]
  exact h
theorem cprint_spec (s : Bool) (a : List Nat) (k m : Nat) (p : Bool) (hk : k ≤ 1048576) (ha : Wd a) (la : a.length ≤ m) (hm : 20000 ≤ m) (hm1 : m ≤ 2000000) : AFun Tryz.prog J0 32 [cL s a (k : Int) p] (.t [.s (cS (zv s a) k p), .i .i64 0]) := by
  obtain ⟨h1, g1, g2⟩ := cends_spec s a k m p hk ha la hm hm1
  have h2 := qprintR g1 (by omega) rfl
  have h3 := qprintR g2 (by omega) rfl
  obtain ⟨b1, b2⟩ := Rr_num g1
  obtain ⟨b3, b4⟩ := Rr_num g2
  have l1 := qpV_len b1 b2
  have l2 := qpV_len b3 b4
  unfold cS
  clear g1 g2 b1 b2 b3 b4
  cases p with
  | true =>
    show AFun Tryz.prog J0 32 [cL s a (k : Int) true] (.t [.s (qpV (loQ (zv s a) k).num (loQ (zv s a) k).den), .i .i64 0])
    generalize qpV (loQ (zv s a) k).num (loQ (zv s a) k).den = u at *
    generalize loQ (zv s a) k = L at *
    generalize loQ (hiN (zv s a) true) k = H at *
    generalize (k : Int) = kk at *
    refine mkQ fol J0s Tryz.func32 a32 ?_
    unfold a32
    simp only [init_eq, initE, qm, qr, qn]
    exact wdQ @bz_C6
  | false =>
    show AFun Tryz.prog J0 32 [cL s a (k : Int) false] (.t [.s (40 :: (qpV (loQ (zv s a) k).num (loQ (zv s a) k).den ++ ([44, 32] ++ (qpV (loQ (hiN (zv s a) false) k).num (loQ (hiN (zv s a) false) k).den ++ [41])))), .i .i64 0])
    generalize qpV (loQ (zv s a) k).num (loQ (zv s a) k).den = u at *
    generalize qpV (loQ (hiN (zv s a) false) k).num (loQ (hiN (zv s a) false) k).den = v at *
    generalize loQ (zv s a) k = L at *
    generalize loQ (hiN (zv s a) false) k = H at *
    generalize (k : Int) = kk at *
    have e1 : ([40] : List UInt8).length + u.length ≤ 9223372036854775807 := by rw [List.length_singleton]; omega
    have e2 : (([40] : List UInt8) ++ u).length + ([44, 32] : List UInt8).length ≤ 9223372036854775807 := by simp only [List.length_append, List.length_cons, List.length_nil]; omega
    have e3 : (([40] : List UInt8) ++ u ++ [44, 32]).length + v.length ≤ 9223372036854775807 := by simp only [List.length_append, List.length_cons, List.length_nil]; omega
    have e4 : (([40] : List UInt8) ++ u ++ [44, 32] ++ v).length + ([41] : List UInt8).length ≤ 9223372036854775807 := by simp only [List.length_append, List.length_cons, List.length_nil]; omega
    have e5 : ([40] : List UInt8) ++ u ++ [44, 32] ++ v ++ [41] = 40 :: (u ++ ([44, 32] ++ (v ++ [41]))) := by simp
    refine mkQ fol J0s Tryz.func32 a32 ?_
    unfold a32
    simp only [init_eq, initE, qm, qr, qn]
    exact wdQ (ai @e5 (ai @e4 (ai @e3 (ai @e2 (ai @e1 @bz_C6)))))
end Go.Proofs.YtfcpigjmagbnkaaGreatDoor
