/-
  surdref23: values.
-/
import Derived.Test.YteaiegppmbcibaaR23b
namespace Go.Proofs.Yteaiegppmbcibaa
open Go Go.RowKit Ab
set_option linter.unusedSimpArgs false
set_option linter.unusedVariables false
set_option maxHeartbeats 10000000
theorem bz_R23d : type_of% (And.intro @W_len (And.intro @D_len (And.intro @Nat.div_one (And.intro @Nat.mul_one (And.intro @tn_nat (And.intro @W_nf (And.intro @D_nf (And.intro @W_nil (And.intro @D_nil (And.intro @wi (And.intro @nf_g (And.intro @Bool.false_and (And.intro @W_cell (And.intro @ZC_cell (@ZC_nil))))))))))))))) := And.intro @W_len (And.intro @D_len (And.intro @Nat.div_one (And.intro @Nat.mul_one (And.intro @tn_nat (And.intro @W_nf (And.intro @D_nf (And.intro @W_nil (And.intro @D_nil (And.intro @wi (And.intro @nf_g (And.intro @Bool.false_and (And.intro @W_cell (And.intro @ZC_cell (@ZC_nil))))))))))))))
theorem horner_snoc (z : GZ) (c : Int) : ∀ (l : List Int), horner z (l ++ [c]) = gadd (horner z l) (gmul (c, 0) (gpow z l.length))
  | [] => by simp [horner, gadd, gmul, gpow]
  | x :: l => by
    simp only [List.cons_append, horner, horner_snoc z c l, List.length_cons, gpow]
    rw [gmul_add, gmul_assoc]
    unfold gadd; simp only [Prod.mk.injEq]; omega
def powr (S : Nat) : Nat → Nat
  | 0 => 1
  | i + 1 => if powr S i < SM then powr S i * S else powr S i
def atr (S : Nat) (z : GZ) : Nat → GZ
  | 0 => (1, 0)
  | i + 1 => if powr S i < SM then gmul (atr S z i) z else atr S z i
theorem powr_ok {S : Nat} (hS : 1 ≤ S) : ∀ {i : Nat}, powr S i < SM → powr S i = S ^ i ∧ ∀ z, atr S z i = gpow z i
  | 0, _ => ⟨rfl, fun _ => rfl⟩
  | i + 1, h => by
    have h1 : powr S i < SM := by
      rcases Nat.lt_or_ge (powr S i) SM with h2 | h2
      · exact h2
      · rw [powr, if_neg (by omega)] at h; exact h
    obtain ⟨e1, e2⟩ := powr_ok hS h1
    refine ⟨by rw [powr, if_pos h1, e1, Nat.pow_succ], fun z => by rw [atr, if_pos h1, e2]; rfl⟩
theorem powr_big {S : Nat} (hS : 1 ≤ S) : ∀ {i : Nat}, ¬ powr S i < SM → ¬ S ^ i < SM
  | 0, h => fun _ => h (by rw [powr]; decide)
  | i + 1, h => fun h3 => by
    rcases Nat.lt_or_ge (powr S i) SM with h1 | h1
    · rw [powr, if_pos h1, (powr_ok hS h1).1, ← Nat.pow_succ] at h; exact h h3
    · exact powr_big hS (by omega) (pow_small hS (Nat.le_succ i) h3)
theorem powr_lt {S : Nat} (hS : S < SM) : ∀ i, powr S i < SM * SM
  | 0 => by rw [powr]; decide
  | i + 1 => by
    rw [powr]
    split
    · rename_i h; exact Nat.mul_lt_mul_of_lt_of_lt h hS
    · exact powr_lt hS i
theorem atr_sz {S : Nat} {z : GZ} (hz : gsz z ≤ S) : ∀ i, gsz (atr S z i) ≤ powr S i
  | 0 => by rw [atr, powr]; decide
  | i + 1 => by
    rw [atr, powr]
    split
    · exact Nat.le_trans (gsz_mul _ _) (Nat.mul_le_mul (atr_sz hz i) hz)
    · exact atr_sz hz i
theorem SMSM : SM * SM < B ^ 2 := by decide
theorem ZB_sz {z : GZ} {m : Nat} (h : gsz z < B ^ m) : ZB z m := by unfold gsz at h; exact ⟨by omega, by omega⟩
theorem ZB_le {z : GZ} {m n : Nat} (h : ZB z m) (hn : m ≤ n) : ZB z n := ⟨Nat.lt_of_lt_of_le h.1 (Nat.pow_le_pow_right (by decide) hn), Nat.lt_of_lt_of_le h.2 (Nat.pow_le_pow_right (by decide) hn)⟩
theorem Ble {u m n : Nat} (h : u < B ^ m) (hn : m ≤ n) : u < B ^ n := Nat.lt_of_lt_of_le h (Nat.pow_le_pow_right (by decide) hn)
theorem mul23R (s : Bool) (a : List Nat) (y : GZ) (m : Nat) (hm : m ≤ 10000000) (h1 : 1 ≤ m) (ha : Wd a) (la : a.length ≤ m) (hy : ZB y m) : AFun Try.prog J0 32 [.g [.b s, .l 1 (W a), .b false, .l 1 []], LV y] (LV (gmul (zv s a, 0) y)) := by
  have q1 := hzmul_spec s (decide (y.1 < 0)) a (dg B y.1.natAbs) m (by omega) ha (Wd_dg _) la (dlen hy.1)
  have q3 := hzmul_spec s (decide (y.2 < 0)) a (dg B y.2.natAbs) m (by omega) ha (Wd_dg _) la (dlen hy.2)
  have q2 := hmulZ (x := 0) (m := m) (Nat.pow_pos (by decide)) hy.2 (by omega)
  have q4 := hmulZ (x := 0) (m := m) (Nat.pow_pos (by decide)) hy.1 (by omega)
  rw [zv_N] at q1 q3
  have hx : (zv s a).natAbs < B ^ m := zv_lt ha la
  have p5 := hsubZ (zprod hx hy.1) (zprod (a := 0) (m := m) (Nat.pow_pos (by decide)) hy.2) (by omega)
  have p6 := haddZ (zprod hx hy.2) (zprod (a := 0) (m := m) (Nat.pow_pos (by decide)) hy.1) (by omega)
  rw [show zN (0 : Int) = .g [.b false, .l 1 []] from by show V.g [.b (decide ((0 : Int) < 0)), .l 1 (W (dg B 0))] = _; rw [dg_zero]; rfl] at q2 q4
  show AFun Try.prog J0 32 [.g [.b s, .l 1 (W a), .b false, .l 1 []], LV y] (LZ (zv s a * y.1 - 0 * y.2) (zv s a * y.2 + 0 * y.1))
  generalize zv s a * y.1 = a1 at *
  generalize (0 : Int) * y.2 = a2 at *
  generalize zv s a * y.2 = a3 at *
  generalize (0 : Int) * y.1 = a4 at *
  generalize a1 - a2 = e at *
  generalize a3 + a4 = f at *
  simp only [LV, LZ]
  refine mkcQ fol J0s Try.func32 a32 [.c 4 true 4] ?_
  unfold a32
  simp only [init_eq, initE, qm, qr, qn]
  exact wcQ @bz_R23d
def a12 : AC := .seq (.reg [qr 3 (.bx 40 (.t 1)),
 qr 4 (.al 40 [(.i .i64 0), (.i .i64 0)]),
 qr 5 (.mv (.k (.i .i64 0)))])
 (.seq (.reg [qr 12 (.ld true 2 (.t 3)),
 qr 13 (.call 25 [(1, (.t 12))]),
 qr 14 (.call 24 [(1, (.t 13))]),
 qm 6 14])
 (.seq (.seq (.reg [qm 15 6,
 qr 16 (.call 26 [(1, (.t 15))]),
 qr 17 (.un .not (.t 16))])
 (.cond (.t 17)
 (.seq (.reg [qr 18 (.bld [(.i .i64 0), (.i .i64 0)] []),
 qn (.st 2 (.t 4) (.t 18)),
 qr 5 (.mv (.k (.i .i64 13)))])
 (.ret))
 (.skip)))
 (.seq (.seq (.reg [qm 19 6,
 qr 20 (.call 27 [(1, (.t 19))])])
 (.cond (.t 20)
 (.reg [qr 21 (.call 28 [(1, (.k (.i .i64 1)))]),
 qm 6 21])
 (.skip)))
 (.seq (.reg [qr 22 (.call 28 [(1, (.k (.i .i64 0)))]),
 qr 23 (.call 28 [(1, (.k (.i .i64 1)))]),
 qm 7 22,
 qm 8 23])
 (.seq (.reg [qr 24 (.bld [(.i .i64 0), (.i .i64 0)] []),
 qr 25 (.call 25 [(1, (.t 24))]),
 qr 26 (.bld [(.i .i64 0), (.i .i64 0)] [(0, 1, (.k (.i .i64 1)))]),
 qr 27 (.call 25 [(1, (.t 26))]),
 qr 9 (.al 73 [(.b false), (.l 1 []), (.b false), (.l 1 [])]),
 qr 10 (.al 73 [(.b false), (.l 1 []), (.b false), (.l 1 [])]),
 qn (.st 4 (.t 9) (.t 25)),
 qn (.st 4 (.t 10) (.t 27))])
 (.seq (.seq (.reg [qr 11 (.mv (.k (.i .i64 0)))])
 (.blk 0
 (.loop
 (.seq (.seq (.reg [qm 28 11,
 qm 29 0,
 qr 30 (.len (.t 29)),
 qr 31 (.bin .lss (.t 28) (.t 30))])
 (.cond (.t 31)
 (.skip)
 (.exit 0)))
 (.seq (.blk 1
 (.seq (.seq (.reg [qm 34 0,
 qm 35 11,
 qr 36 (.idx 2 (.t 34) (.t 35)),
 qr 37 (.fad 1 (.t 36)),
 qr 38 (.ld false 1 (.t 37)),
 qr 39 (.call 27 [(1, (.t 38))]),
 qr 40 (.un .not (.t 39))])
 (.cond (.t 40)
 (.seq (.seq (.reg [qm 41 8,
 qr 42 (.call 26 [(1, (.t 41))]),
 qr 43 (.un .not (.t 42))])
 (.cond (.t 43)
 (.seq (.reg [qr 44 (.bld [(.i .i64 0), (.i .i64 0)] []),
 qn (.st 2 (.t 4) (.t 44)),
 qr 5 (.mv (.k (.i .i64 13)))])
 (.ret))
 (.skip)))
 (.seq (.reg [qm 45 7,
 qm 46 0,
 qm 47 11,
 qr 48 (.idx 2 (.t 46) (.t 47)),
 qr 49 (.fad 1 (.t 48)),
 qr 50 (.ld false 1 (.t 49)),
 qm 51 8,
 qr 52 (.call 30 [(1, (.t 50)), (1, (.t 51))]),
 qr 53 (.call 29 [(1, (.t 45)), (1, (.t 52))]),
 qm 7 53])
 (.seq (.seq (.reg [qm 54 7,
 qr 55 (.call 26 [(1, (.t 54))]),
 qr 56 (.un .not (.t 55))])
 (.cond (.t 56)
 (.seq (.reg [qr 57 (.bld [(.i .i64 0), (.i .i64 0)] []),
 qn (.st 2 (.t 4) (.t 57)),
 qr 5 (.mv (.k (.i .i64 13)))])
 (.ret))
 (.skip)))
 (.dregx [(9, 62), (9, 63), (62, 10), (63, 10)] [qr 58 (.ld true 4 (.t 9)),
 qm 59 0,
 qm 60 11,
 qr 61 (.idx 2 (.t 59) (.t 60)),
 qr 62 (.ld true 2 (.t 61)),
 qr 63 (.call 18 [(1, (.k (.i .i64 0)))]),
 qr 64 (.bld [(.b false), (.l 1 []), (.b false), (.l 1 [])] [(0, 2, (.t 62)), (2, 2, (.t 63))]),
 qr 65 (.ld true 4 (.t 10)),
 qr 66 (.call 32 [(1, (.t 64)), (1, (.t 65))]),
 qr 67 (.call 31 [(1, (.t 58)), (1, (.t 66))]),
 qn (.st 4 (.t 9) (.t 67))]))))
 (.skip)))
 (.seq (.reg [qm 68 8,
 qr 69 (.call 26 [(1, (.t 68))])])
 (.cond (.t 69)
 (.seq (.reg [qm 70 8,
 qm 71 6,
 qr 72 (.call 30 [(1, (.t 70)), (1, (.t 71))]),
 qm 8 72])
 (.dreg [qr 73 (.ld true 4 (.t 10)),
 qr 74 (.ld true 2 (.t 3)),
 qr 75 (.call 25 [(1, (.t 74))]),
 qr 76 (.call 32 [(1, (.t 73)), (1, (.t 75))]),
 qn (.st 4 (.t 10) (.t 76))]))
 (.skip)))))
 (.reg [qm 32 11,
 qr 33 (.bin .add (.t 32) (.k (.i .i64 1))),
 qm 11 33]))))))
 (.seq (.reg [qr 77 (.ld true 4 (.t 9)),
 qr 78 (.call 33 [(1, (.t 77))]),
 qn (.st 2 (.t 4) (.t 78)),
 qr 5 (.mv (.k (.i .i64 0)))])
 (.ret))))))))
set_option maxRecDepth 100000 in
theorem rvalS (l : List (Bool × List Nat)) (m : Nat) (hm : m ≤ 2000000) (hl : ZOk l m) (z : GZ) (hz : Pz z) : AFun Try.prog J0 12 [.l 2 (ZC l), nV z] (.t [nV (vF (zcs l) z), .i .i64 (vE (zcs l) z)]) := by
  obtain ⟨r1, hr1⟩ : ∃ r, r = (vF (zcs l) z).1 := ⟨_, rfl⟩
  obtain ⟨r2, hr2⟩ : ∃ r, r = (vF (zcs l) z).2 := ⟨_, rfl⟩
  obtain ⟨e, he0⟩ : ∃ e, e = vE (zcs l) z := ⟨_, rfl⟩
  have p1 := of23_spec z hz
  have p2 := size23_spec z 1 (by decide) (ZB_pi hz)
  have p3 := small23_spec (gsz z) 2 (by decide) (by decide) (gsz_B2 hz)
  have p4 := hzeroN (gsz_B2 hz) (by decide)
  have w1 := (hword_spec 1 (by decide)).frozen
  have w0 := (hword_spec 0 (by decide)).frozen
  have o0 := of23_spec (0, 0) (by unfold Pi; decide)
  have o1 := of23_spec (1, 0) (by unfold Pi; decide)
  have fails : ¬ vOk (zcs l) z → r1 = 0 ∧ r2 = 0 ∧ e = 13 := fun h => by
    rw [hr1, hr2, he0, show vF (zcs l) z = (0, 0) from if_neg h, show vE (zcs l) z = 13 from if_neg h]; exact ⟨rfl, rfl, rfl⟩
  simp only [nV, LV, LZ] at p1 p2 o0 o1 ⊢
  rw [← hr1, ← hr2, ← he0]
  by_cases h1 : gsz z < SM
  · rw [decide_eq_true h1] at p3
    obtain ⟨S, hS⟩ : ∃ S, S = max (gsz z) 1 := ⟨_, rfl⟩
    have hS1 : 1 ≤ S := by omega
    have hS2 : S < SM := by simp only [SM] at *; omega
    have hzS : gsz z ≤ S := by omega
    have nok : ∀ i, ¬ wsum S ((zcs l).take i) < SM → r1 = 0 ∧ r2 = 0 ∧ e = 13 := fun i h => fails (not_vOk (by rw [← hS]; exact h))
    obtain ⟨n, hn⟩ : ∃ n, n = l.length := ⟨_, rfl⟩
    have hql : (ZC l).length / 2 = n := by rw [ZC_len]; omega
    have hqz : (ZC l).length = n * 2 := by rw [ZC_len]; omega
    have hd : n * 2 / 2 = n := by omega
    have hcl := zcs_len l
    have hlm : l.length ≤ m := hl.1
    have hZ0 := hZ_spec 0 (by decide) (by decide)
    rw [show zN (0 : Int) = .g [.b false, .l 1 []] from by show V.g [.b (decide ((0 : Int) < 0)), .l 1 (W (dg B 0))] = _; rw [dg_zero]; rfl] at hZ0
    rcases Nat.eq_zero_or_pos (gsz z) with hg0 | hg0
    · have hSe : S = 1 := by omega
      rw [decide_eq_true hg0] at p4
      refine mkcQ fol J0s Try.func12 a12 [.c 4 true 2, .t 5] ?_
      unfold a12
      simp only [init_eq, initE, qm, qr, qn]
      refine wkQ @bz_R23d ?_
      refine vm_loopA [] Nat (fun i => ⟨[(0, .l 2 (ZC l)), (3, .pt 0 0), (4, .pt 1 0), (6, .l 1 (W (dg B S))), (7, .l 1 (W (dg B (wsum S ((zcs l).take i))))), (8, .l 1 (W (dg B (powr S i)))), (9, .pt 2 0), (10, .pt 3 0), (11, .i .i64 (i : Int))],
          [(0, some ⟨40, 2, [.i .i64 z.1, .i .i64 z.2], true, true⟩), (1, some ⟨40, 2, [.i .i64 0, .i .i64 0], true, true⟩),
           (2, some ⟨73, 4, [.b (decide ((horner z ((zcs l).take i)).1 < 0)), .l 1 (W (dg B (horner z ((zcs l).take i)).1.natAbs)), .b (decide ((horner z ((zcs l).take i)).2 < 0)), .l 1 (W (dg B (horner z ((zcs l).take i)).2.natAbs))], true, true⟩),
           (3, some ⟨73, 4, [.b (decide ((atr S z i).1 < 0)), .l 1 (W (dg B (atr S z i).1.natAbs)), .b (decide ((atr S z i).2 < 0)), .l 1 (W (dg B (atr S z i).2.natAbs))], true, true⟩)], 4⟩)
        (fun i => i ≤ n ∧ wsum S ((zcs l).take i) < SM) (fun i => n - i) 0 ⟨Nat.zero_le _, by rw [List.take_zero]; exact (by decide : 0 < SM)⟩ (by exact leQ) (by
        simp (disch := (first | omega | assumption)) only [Sl, Sa, Sw, ↓reduceIte, Nat.reduceEqDiff, Nat.reduceLT, List.all_nil, List.all_cons, Nat.reduceBneDiff, Nat.reduceAdd, bne_iff_ne, ne_eq, reduceCtorEq, not_false_eq_true, not_true_eq_false, Bool.and_true, Bool.true_and, and_true, true_and, and_self, i_eq]
        rw [List.take_zero]
        try rw [hSe]
        repeat' first | rfl | omega | (simp only [List.length_append, List.length_cons, List.length_nil]; done) | apply And.intro) ?_
      rintro i ⟨hi, hw⟩ Q' hQ he hr
      by_cases hin1 : (i : Int) < (n : Int)
      · have hic : i < l.length := by omega
        obtain ⟨row1, row2⟩ := ZC_row l i hic
        have hg := zcs_get l i hic
        obtain ⟨wa, la⟩ := hl.2 _ (getD_mem hic)
        have hws := wsum_take_succ S (zcs l) i (by omega)
        have hsnoc := take_snoc (zcs l) i (by omega)
        have hhs := horner_snoc z ((zcs l).getD i 0) ((zcs l).take i)
        rw [← hsnoc, List.length_take, Nat.min_eq_left (by omega)] at hhs
        have hh0 : (zcs l).getD i 0 = 0 → horner z ((zcs l).take (i + 1)) = horner z ((zcs l).take i) := fun h => by
          rw [hsnoc, h]; exact horner_app0 z _ 1
        have hcn : ((zcs l).getD i 0).natAbs = nv B (l.getD i (false, [])).2 := by rw [hg]; exact zv_abs _ _
        have hzc : zv (l.getD i (false, [])).1 (l.getD i (false, [])).2 = (zcs l).getD i 0 := hg.symm
        have nok1 := nok (i + 1)
        generalize (zcs l).getD i 0 = c at *
        have q0 := hzero_spec (l.getD i (false, [])).2 wa (by omega)
        have hpl := powr_lt hS2 i
        have hp2 : powr S i < B ^ 2 := Nat.lt_trans hpl SMSM
        have hS2' : S < B ^ 2 := Ble (SM_B1 hS2) (by decide)
        have q1 := small23_spec (powr S i) 2 (by decide) (by decide) hp2
        have q2 := (hmul_spec (l.getD i (false, [])).2 (dg B (powr S i)) wa (Wd_dg _) (by omega) (Nat.le_trans (dlen hp2) (by omega))).frozen
        rw [nv_dgB] at q2
        have q5 := mul23R (l.getD i (false, [])).1 (l.getD i (false, [])).2 (atr S z i) (m + 2) (by omega) (by omega) wa (by omega) (ZB_le (ZB_sz (Nat.lt_of_le_of_lt (atr_sz hzS i) hp2)) (by omega))
        rw [hzc] at q5
        have hnl : nv B (l.getD i (false, [])).2 < B ^ m := nvlt wa la
        rw [← hcn] at q0 q2 hnl
        have hprod : c.natAbs * powr S i < B ^ (m + 2) := by rw [Nat.pow_add]; exact Nat.mul_lt_mul_of_lt_of_lt hnl hp2
        have hwB : wsum S ((zcs l).take i) < B ^ (m + 2) := Ble (SM_B1 hw) (by omega)
        have q3 := (haddN hwB hprod (by omega)).frozen
        have q4 := small23_spec (wsum S ((zcs l).take i) + c.natAbs * powr S i) (m + 2 + 1) (by omega) (by omega) (padd hwB hprod)
        have q7 := mul23_spec (atr S z i) z 2 (by decide) (ZB_sz (Nat.lt_of_le_of_lt (atr_sz hzS i) hp2)) (ZB_le (ZB_pi hz) (by decide))
        have q8 := (hmulN hp2 hS2' (by decide)).frozen
        have hpow := powr_ok (i := i) hS1
        have hpb := powr_big (i := i) hS1
        have hpow2 : powr S i < SM → atr S z i = gpow z i := fun h => (hpow h).2 z
        have hpu : powr S (i + 1) = if powr S i < SM then powr S i * S else powr S i := rfl
        have hau : atr S z (i + 1) = if powr S i < SM then gmul (atr S z i) z else atr S z i := rfl
        have hhz : gsz (horner z ((zcs l).take i)) < SM := Nat.lt_of_le_of_lt (horner_sz z hzS _) hw
        have hgs : gsz (gmul (c, 0) (atr S z i)) ≤ c.natAbs * powr S i := Nat.le_trans (gsz_mul _ _) (Nat.mul_le_mul (by unfold gsz; simp) (atr_sz hzS i))
        have q6 := fun h => add23_spec (horner z ((zcs l).take i)) (gmul (c, 0) (atr S z i)) 1 (by decide) (ZB_small hhz) (ZB_small (Nat.lt_of_le_of_lt hgs h))
        generalize l.getD i (false, []) = p at *
        generalize atr S z i = at0 at *
        generalize gmul at0 z = at1 at *
        obtain ⟨M, hM⟩ : ∃ M, M = gmul (c, 0) at0 := ⟨_, rfl⟩
        rw [← hM] at q5 q6 hgs
        by_cases hc0 : c.natAbs = 0
        · have hc : c = 0 := by omega
          subst hc
          rw [decide_eq_true hc0] at q0
          have hws0 : wsum S ((zcs l).take (i + 1)) = wsum S ((zcs l).take i) := by rw [hws]; simp
          have hw' : wsum S ((zcs l).take (i + 1)) < SM := by rw [hws0]; exact hw
          have hh := hh0 rfl
          by_cases hps : powr S i < SM
          · rw [decide_eq_true hps] at q1
            rw [if_pos hps] at hpu hau
            simp only [LV, LZ] at q7
            refine wkQ (ai @row2 (ai @row1 (ai @hd (ai @hqz (ai @hin1 @bz_R23d))))) ?_
            refine hQ _ (i + 1) ⟨by omega, hw'⟩ (by omega) ?_
            simp (disch := (first | omega | assumption)) only [Sl, Sa, Sw, ↓reduceIte, Nat.reduceEqDiff, Nat.reduceLT, List.all_nil, List.all_cons, Nat.reduceBneDiff, Nat.reduceAdd, bne_iff_ne, ne_eq, reduceCtorEq, not_false_eq_true, not_true_eq_false, Bool.and_true, Bool.true_and, and_true, true_and, and_self, i_eq]
            rw [hws0, hh, hpu, hau]
            repeat' first | rfl | omega | (simp only [List.length_append, List.length_cons, List.length_nil]; done) | apply And.intro
          · rw [decide_eq_false hps] at q1
            rw [if_neg hps] at hpu hau
            refine wkQ (ai @row2 (ai @row1 (ai @hd (ai @hqz (ai @hin1 @bz_R23d))))) ?_
            refine hQ _ (i + 1) ⟨by omega, hw'⟩ (by omega) ?_
            simp (disch := (first | omega | assumption)) only [Sl, Sa, Sw, ↓reduceIte, Nat.reduceEqDiff, Nat.reduceLT, List.all_nil, List.all_cons, Nat.reduceBneDiff, Nat.reduceAdd, bne_iff_ne, ne_eq, reduceCtorEq, not_false_eq_true, not_true_eq_false, Bool.and_true, Bool.true_and, and_true, true_and, and_self, i_eq]
            rw [hws0, hh, hpu, hau]
            repeat' first | rfl | omega | (simp only [List.length_append, List.length_cons, List.length_nil]; done) | apply And.intro
        · rw [decide_eq_false hc0] at q0
          by_cases hps : powr S i < SM
          · obtain ⟨hps1, hps2⟩ := hpow hps
            rw [decide_eq_true hps] at q1
            rw [if_pos hps] at hpu hau
            have ht : wsum S ((zcs l).take i) + c.natAbs * powr S i = wsum S ((zcs l).take (i + 1)) := by rw [hws, hps1, Nat.mul_comm]
            rw [ht] at q3 q4
            by_cases hw2 : wsum S ((zcs l).take (i + 1)) < SM
            · rw [decide_eq_true hw2] at q4
              have q6' := q6 (by omega)
              obtain ⟨H, hH⟩ : ∃ H, H = horner z ((zcs l).take (i + 1)) := ⟨_, rfl⟩
              have hHM : gadd (horner z ((zcs l).take i)) M = H := by rw [hH, hhs, hM, hpow2 hps]
              rw [hHM] at q6'
              simp only [LV, LZ] at q5 q6' q7
              have zc1 := q6'
              refine wkQ (ai @row2 (ai @row1 (ai @hd (ai @hqz (ai @hin1 @bz_R23d))))) ?_
              refine hQ _ (i + 1) ⟨by omega, hw2⟩ (by omega) ?_
              simp (disch := (first | omega | assumption)) only [Sl, Sa, Sw, ↓reduceIte, Nat.reduceEqDiff, Nat.reduceLT, List.all_nil, List.all_cons, Nat.reduceBneDiff, Nat.reduceAdd, bne_iff_ne, ne_eq, reduceCtorEq, not_false_eq_true, not_true_eq_false, Bool.and_true, Bool.true_and, and_true, true_and, and_self, i_eq]
              rw [← hH, hpu, hau]
              repeat' first | rfl | omega | (simp only [List.length_append, List.length_cons, List.length_nil]; done) | apply And.intro
            · rw [decide_eq_false hw2] at q4
              obtain ⟨rfl, rfl, rfl⟩ := nok1 hw2
              refine wkQ (ai @row2 (ai @row1 (ai @hd (ai @hqz (ai @hin1 @bz_R23d))))) ?_
              refine hr _ ?_
              exact rcQ @bz_R23d
          · rw [decide_eq_false hps] at q1
            obtain ⟨rfl, rfl, rfl⟩ := nok1 (by have := big_p hc0 (hpb hps); omega)
            refine wkQ (ai @row2 (ai @row1 (ai @hd (ai @hqz (ai @hin1 @bz_R23d))))) ?_
            refine hr _ ?_
            exact rcQ @bz_R23d
      · obtain rfl : i = n := by omega
        rw [show (zcs l).take i = zcs l from by rw [hn, ← hcl, List.take_length]] at hw ⊢
        have hok : vOk (zcs l) z := ⟨h1, by rw [← hS]; exact hw⟩
        obtain rfl : e = 0 := by rw [he0]; exact if_pos hok
        rw [show vF (zcs l) z = horner z (zcs l) from if_pos hok] at hr1 hr2
        have hlast := num23_spec (horner z (zcs l)) (gsz_parts (Nat.lt_of_le_of_lt (horner_sz z hzS _) hw))
        simp only [nV, LV, LZ] at hlast
        rw [← hr1, ← hr2] at hlast ⊢
        refine spQ (ai @hql (ai @hin1 @bz_R23d)) ?_
        refine he _ _ ?_
        exact wcQ @bz_R23d
    · have hSg : gsz z = S := by omega
      rw [decide_eq_false (by omega)] at p4
      rw [hSg] at p2 p3 p4
      refine mkcQ fol J0s Try.func12 a12 [.c 4 true 2, .t 5] ?_
      unfold a12
      simp only [init_eq, initE, qm, qr, qn]
      refine wkQ @bz_R23d ?_
      refine vm_loopA [] Nat (fun i => ⟨[(0, .l 2 (ZC l)), (3, .pt 0 0), (4, .pt 1 0), (6, .l 1 (W (dg B S))), (7, .l 1 (W (dg B (wsum S ((zcs l).take i))))), (8, .l 1 (W (dg B (powr S i)))), (9, .pt 2 0), (10, .pt 3 0), (11, .i .i64 (i : Int))],
          [(0, some ⟨40, 2, [.i .i64 z.1, .i .i64 z.2], true, true⟩), (1, some ⟨40, 2, [.i .i64 0, .i .i64 0], true, true⟩),
           (2, some ⟨73, 4, [.b (decide ((horner z ((zcs l).take i)).1 < 0)), .l 1 (W (dg B (horner z ((zcs l).take i)).1.natAbs)), .b (decide ((horner z ((zcs l).take i)).2 < 0)), .l 1 (W (dg B (horner z ((zcs l).take i)).2.natAbs))], true, true⟩),
           (3, some ⟨73, 4, [.b (decide ((atr S z i).1 < 0)), .l 1 (W (dg B (atr S z i).1.natAbs)), .b (decide ((atr S z i).2 < 0)), .l 1 (W (dg B (atr S z i).2.natAbs))], true, true⟩)], 4⟩)
        (fun i => i ≤ n ∧ wsum S ((zcs l).take i) < SM) (fun i => n - i) 0 ⟨Nat.zero_le _, by rw [List.take_zero]; exact (by decide : 0 < SM)⟩ (by exact leQ) (by
        simp (disch := (first | omega | assumption)) only [Sl, Sa, Sw, ↓reduceIte, Nat.reduceEqDiff, Nat.reduceLT, List.all_nil, List.all_cons, Nat.reduceBneDiff, Nat.reduceAdd, bne_iff_ne, ne_eq, reduceCtorEq, not_false_eq_true, not_true_eq_false, Bool.and_true, Bool.true_and, and_true, true_and, and_self, i_eq]
        rw [List.take_zero]
        try rw [hSe]
        repeat' first | rfl | omega | (simp only [List.length_append, List.length_cons, List.length_nil]; done) | apply And.intro) ?_
      rintro i ⟨hi, hw⟩ Q' hQ he hr
      by_cases hin1 : (i : Int) < (n : Int)
      · have hic : i < l.length := by omega
        obtain ⟨row1, row2⟩ := ZC_row l i hic
        have hg := zcs_get l i hic
        obtain ⟨wa, la⟩ := hl.2 _ (getD_mem hic)
        have hws := wsum_take_succ S (zcs l) i (by omega)
        have hsnoc := take_snoc (zcs l) i (by omega)
        have hhs := horner_snoc z ((zcs l).getD i 0) ((zcs l).take i)
        rw [← hsnoc, List.length_take, Nat.min_eq_left (by omega)] at hhs
        have hh0 : (zcs l).getD i 0 = 0 → horner z ((zcs l).take (i + 1)) = horner z ((zcs l).take i) := fun h => by
          rw [hsnoc, h]; exact horner_app0 z _ 1
        have hcn : ((zcs l).getD i 0).natAbs = nv B (l.getD i (false, [])).2 := by rw [hg]; exact zv_abs _ _
        have hzc : zv (l.getD i (false, [])).1 (l.getD i (false, [])).2 = (zcs l).getD i 0 := hg.symm
        have nok1 := nok (i + 1)
        generalize (zcs l).getD i 0 = c at *
        have q0 := hzero_spec (l.getD i (false, [])).2 wa (by omega)
        have hpl := powr_lt hS2 i
        have hp2 : powr S i < B ^ 2 := Nat.lt_trans hpl SMSM
        have hS2' : S < B ^ 2 := Ble (SM_B1 hS2) (by decide)
        have q1 := small23_spec (powr S i) 2 (by decide) (by decide) hp2
        have q2 := (hmul_spec (l.getD i (false, [])).2 (dg B (powr S i)) wa (Wd_dg _) (by omega) (Nat.le_trans (dlen hp2) (by omega))).frozen
        rw [nv_dgB] at q2
        have q5 := mul23R (l.getD i (false, [])).1 (l.getD i (false, [])).2 (atr S z i) (m + 2) (by omega) (by omega) wa (by omega) (ZB_le (ZB_sz (Nat.lt_of_le_of_lt (atr_sz hzS i) hp2)) (by omega))
        rw [hzc] at q5
        have hnl : nv B (l.getD i (false, [])).2 < B ^ m := nvlt wa la
        rw [← hcn] at q0 q2 hnl
        have hprod : c.natAbs * powr S i < B ^ (m + 2) := by rw [Nat.pow_add]; exact Nat.mul_lt_mul_of_lt_of_lt hnl hp2
        have hwB : wsum S ((zcs l).take i) < B ^ (m + 2) := Ble (SM_B1 hw) (by omega)
        have q3 := (haddN hwB hprod (by omega)).frozen
        have q4 := small23_spec (wsum S ((zcs l).take i) + c.natAbs * powr S i) (m + 2 + 1) (by omega) (by omega) (padd hwB hprod)
        have q7 := mul23_spec (atr S z i) z 2 (by decide) (ZB_sz (Nat.lt_of_le_of_lt (atr_sz hzS i) hp2)) (ZB_le (ZB_pi hz) (by decide))
        have q8 := (hmulN hp2 hS2' (by decide)).frozen
        have hpow := powr_ok (i := i) hS1
        have hpb := powr_big (i := i) hS1
        have hpow2 : powr S i < SM → atr S z i = gpow z i := fun h => (hpow h).2 z
        have hpu : powr S (i + 1) = if powr S i < SM then powr S i * S else powr S i := rfl
        have hau : atr S z (i + 1) = if powr S i < SM then gmul (atr S z i) z else atr S z i := rfl
        have hhz : gsz (horner z ((zcs l).take i)) < SM := Nat.lt_of_le_of_lt (horner_sz z hzS _) hw
        have hgs : gsz (gmul (c, 0) (atr S z i)) ≤ c.natAbs * powr S i := Nat.le_trans (gsz_mul _ _) (Nat.mul_le_mul (by unfold gsz; simp) (atr_sz hzS i))
        have q6 := fun h => add23_spec (horner z ((zcs l).take i)) (gmul (c, 0) (atr S z i)) 1 (by decide) (ZB_small hhz) (ZB_small (Nat.lt_of_le_of_lt hgs h))
        generalize l.getD i (false, []) = p at *
        generalize atr S z i = at0 at *
        generalize gmul at0 z = at1 at *
        obtain ⟨M, hM⟩ : ∃ M, M = gmul (c, 0) at0 := ⟨_, rfl⟩
        rw [← hM] at q5 q6 hgs
        by_cases hc0 : c.natAbs = 0
        · have hc : c = 0 := by omega
          subst hc
          rw [decide_eq_true hc0] at q0
          have hws0 : wsum S ((zcs l).take (i + 1)) = wsum S ((zcs l).take i) := by rw [hws]; simp
          have hw' : wsum S ((zcs l).take (i + 1)) < SM := by rw [hws0]; exact hw
          have hh := hh0 rfl
          by_cases hps : powr S i < SM
          · rw [decide_eq_true hps] at q1
            rw [if_pos hps] at hpu hau
            simp only [LV, LZ] at q7
            refine wkQ (ai @row2 (ai @row1 (ai @hd (ai @hqz (ai @hin1 @bz_R23d))))) ?_
            refine hQ _ (i + 1) ⟨by omega, hw'⟩ (by omega) ?_
            simp (disch := (first | omega | assumption)) only [Sl, Sa, Sw, ↓reduceIte, Nat.reduceEqDiff, Nat.reduceLT, List.all_nil, List.all_cons, Nat.reduceBneDiff, Nat.reduceAdd, bne_iff_ne, ne_eq, reduceCtorEq, not_false_eq_true, not_true_eq_false, Bool.and_true, Bool.true_and, and_true, true_and, and_self, i_eq]
            rw [hws0, hh, hpu, hau]
            repeat' first | rfl | omega | (simp only [List.length_append, List.length_cons, List.length_nil]; done) | apply And.intro
          · rw [decide_eq_false hps] at q1
            rw [if_neg hps] at hpu hau
            refine wkQ (ai @row2 (ai @row1 (ai @hd (ai @hqz (ai @hin1 @bz_R23d))))) ?_
            refine hQ _ (i + 1) ⟨by omega, hw'⟩ (by omega) ?_
            simp (disch := (first | omega | assumption)) only [Sl, Sa, Sw, ↓reduceIte, Nat.reduceEqDiff, Nat.reduceLT, List.all_nil, List.all_cons, Nat.reduceBneDiff, Nat.reduceAdd, bne_iff_ne, ne_eq, reduceCtorEq, not_false_eq_true, not_true_eq_false, Bool.and_true, Bool.true_and, and_true, true_and, and_self, i_eq]
            rw [hws0, hh, hpu, hau]
            repeat' first | rfl | omega | (simp only [List.length_append, List.length_cons, List.length_nil]; done) | apply And.intro
        · rw [decide_eq_false hc0] at q0
          by_cases hps : powr S i < SM
          · obtain ⟨hps1, hps2⟩ := hpow hps
            rw [decide_eq_true hps] at q1
            rw [if_pos hps] at hpu hau
            have ht : wsum S ((zcs l).take i) + c.natAbs * powr S i = wsum S ((zcs l).take (i + 1)) := by rw [hws, hps1, Nat.mul_comm]
            rw [ht] at q3 q4
            by_cases hw2 : wsum S ((zcs l).take (i + 1)) < SM
            · rw [decide_eq_true hw2] at q4
              have q6' := q6 (by omega)
              obtain ⟨H, hH⟩ : ∃ H, H = horner z ((zcs l).take (i + 1)) := ⟨_, rfl⟩
              have hHM : gadd (horner z ((zcs l).take i)) M = H := by rw [hH, hhs, hM, hpow2 hps]
              rw [hHM] at q6'
              simp only [LV, LZ] at q5 q6' q7
              have zc2 := q6'
              refine wkQ (ai @row2 (ai @row1 (ai @hd (ai @hqz (ai @hin1 @bz_R23d))))) ?_
              refine hQ _ (i + 1) ⟨by omega, hw2⟩ (by omega) ?_
              simp (disch := (first | omega | assumption)) only [Sl, Sa, Sw, ↓reduceIte, Nat.reduceEqDiff, Nat.reduceLT, List.all_nil, List.all_cons, Nat.reduceBneDiff, Nat.reduceAdd, bne_iff_ne, ne_eq, reduceCtorEq, not_false_eq_true, not_true_eq_false, Bool.and_true, Bool.true_and, and_true, true_and, and_self, i_eq]
              rw [← hH, hpu, hau]
              repeat' first | rfl | omega | (simp only [List.length_append, List.length_cons, List.length_nil]; done) | apply And.intro
            · rw [decide_eq_false hw2] at q4
              obtain ⟨rfl, rfl, rfl⟩ := nok1 hw2
              refine wkQ (ai @row2 (ai @row1 (ai @hd (ai @hqz (ai @hin1 @bz_R23d))))) ?_
              refine hr _ ?_
              exact rcQ @bz_R23d
          · rw [decide_eq_false hps] at q1
            obtain ⟨rfl, rfl, rfl⟩ := nok1 (by have := big_p hc0 (hpb hps); omega)
            refine wkQ (ai @row2 (ai @row1 (ai @hd (ai @hqz (ai @hin1 @bz_R23d))))) ?_
            refine hr _ ?_
            exact rcQ @bz_R23d
      · obtain rfl : i = n := by omega
        rw [show (zcs l).take i = zcs l from by rw [hn, ← hcl, List.take_length]] at hw ⊢
        have hok : vOk (zcs l) z := ⟨h1, by rw [← hS]; exact hw⟩
        obtain rfl : e = 0 := by rw [he0]; exact if_pos hok
        rw [show vF (zcs l) z = horner z (zcs l) from if_pos hok] at hr1 hr2
        have hlast := num23_spec (horner z (zcs l)) (gsz_parts (Nat.lt_of_le_of_lt (horner_sz z hzS _) hw))
        simp only [nV, LV, LZ] at hlast
        rw [← hr1, ← hr2] at hlast ⊢
        refine spQ (ai @hql (ai @hin1 @bz_R23d)) ?_
        refine he _ _ ?_
        exact wcQ @bz_R23d
  · rw [decide_eq_false h1] at p3
    obtain ⟨rfl, rfl, rfl⟩ := fails fun h => h1 h.1
    refine mkcQ fol J0s Try.func12 a12 [.c 4 true 2, .t 5] ?_
    unfold a12
    simp only [init_eq, initE, qm, qr, qn]
    refine wkQ @bz_R23d ?_
    exact rcQ @bz_R23d
end Go.Proofs.Yteaiegppmbcibaa
