/-
  QqTexts: the law's walk.
-/
import Derived.Test.YthldhonccnajoaaGreatDoorQT1
import Derived.Test.YthldhonccnajoaaGreatDoorQT4
import Derived.Test.YthldhonccnajoaaGreatDoorQTD
import Derived.Test.YthldhonccnajoaaGreatDoorQSE
import Derived.Test.YthldhonccnajoaaGreatDoorLQTk
namespace Go.Proofs.YthldhonccnajoaaGreatDoor
open Go Go.RowKit Ab
set_option linter.unusedSimpArgs false
set_option linter.unusedVariables false
set_option maxHeartbeats 10000000
theorem bz_LQTexts : type_of% (And.intro @W_len (And.intro @D_len (And.intro @Nat.div_one (And.intro @Nat.mul_one (And.intro @tn_nat (And.intro @W_nf (And.intro @D_nf (And.intro @W_nil (And.intro @D_nil (And.intro @wi (And.intro @nf_g (And.intro @Bool.false_and (@W_cell))))))))))))) := And.intro @W_len (And.intro @D_len (And.intro @Nat.div_one (And.intro @Nat.mul_one (And.intro @tn_nat (And.intro @W_nf (And.intro @D_nf (And.intro @W_nil (And.intro @D_nil (And.intro @wi (And.intro @nf_g (And.intro @Bool.false_and (@W_cell))))))))))))
theorem smp_bnd {z w : Int} {d e m : Nat} (hd : d ≠ 0) (he : e ≠ 0) (c1 : Nat.gcd z.natAbs d = 1) (c2 : Nat.gcd w.natAbs e = 1) (h : z * (e : Int) ≤ w * (d : Int)) (bz : z.natAbs < B ^ m) (bw : w.natAbs < B ^ m) (bd : d < B ^ m) (be : e < B ^ m) (hm : 1 ≤ m) : (smp z d w e).1.natAbs < B ^ m ∧ (smp z d w e).2 < B ^ m := by
  unfold smp
  split
  · exact ⟨Nat.pow_pos B0, Nat.lt_of_lt_of_le (by decide : 1 < B ^ 1) (Nat.pow_le_pow_right B0 hm)⟩
  · rename_i h0
    split
    · rename_i hw
      have hz : z < 0 := by
        rcases (by omega : z < 0 ∨ 0 ≤ z) with h1 | h1
        · exact h1
        · exfalso
          have h3 : 0 ≤ z * (e : Int) := Int.mul_nonneg h1 (by omega)
          have h4 : w * (d : Int) < 0 := Int.mul_neg_of_neg_of_pos hw (by omega)
          omega
      obtain ⟨_, _, _, p4, p5, _⟩ := btw_ok (e + d) w.natAbs e z.natAbs d (ends_neg hz hw hd he c1 c2 h) (Nat.le_refl _)
      refine ⟨?_, Nat.lt_of_le_of_lt p5 be⟩
      show (-((btw (e + d) w.natAbs e z.natAbs d).1 : Int)).natAbs < _
      rw [Int.natAbs_neg, Int.natAbs_natCast]
      exact Nat.lt_of_le_of_lt p4 bw
    · have hw : 0 ≤ w := by omega
      have hz : 0 < z := by omega
      have hw2 : 0 < w := by
        rcases (by omega : 0 < w ∨ w ≤ 0) with h1 | h1
        · exact h1
        · exfalso
          have h3 : 0 < z * (e : Int) := Int.mul_pos hz (by omega)
          have h4 : w * (d : Int) ≤ 0 := Int.mul_nonpos_of_nonpos_of_nonneg h1 (by omega)
          omega
      obtain ⟨_, _, _, p4, p5, _⟩ := btw_ok (d + e) z.natAbs d w.natAbs e (ends_pos hz hw2 hd he c1 c2 h) (Nat.le_refl _)
      exact ⟨Nat.lt_of_le_of_lt p4 bz, Nat.lt_of_le_of_lt p5 bd⟩
theorem simp_both (s t : Bool) (a b d e : List Nat) (ha : Wd a) (hb : Wd b) (hd : Wd d) (he : Wd e) (la : a.length ≤ 12) (lb : b.length ≤ 12) (ld : d.length ≤ 12) (le : e.length ≤ 12) :
    ∃ (us : Bool) (ua ud : List Nat) (er : Int), ua.length ≤ 16385 ∧ ud.length ≤ 16385 ∧ AFun Tryz.prog J0 6 [rL s a d, rL t b e] (.t [rL us ua ud, .i .i64 er]) ∧ AFun Tryz.prog J0 8 [rL s a d, rL t b e] (.t [rL us ua ud, .i .i64 er]) := by
  by_cases bad : nv B d * nv B e = 0
  · exact ⟨false, [], [], 1, by simp, by simp, qsimp_e s t a b d e 16385 (by decide) ha hb hd he (by omega) (by omega) (by omega) (by omega) bad, rsimp_e s t a b d e 16385 (by decide) hd he (by omega) (by omega) bad⟩
  · by_cases hgt : 0 < cz (zv s a * (nv B e : Int)) (zv t b * (nv B d : Int))
    · exact ⟨false, [], [], 7, by simp, by simp, qsimp_gt s t a b d e 16385 (by decide) ha hb hd he (by omega) (by omega) (by omega) (by omega) bad hgt, rsimp_gt s t a b d e 16385 (by decide) ha hb hd he (by omega) (by omega) (by omega) (by omega) bad hgt⟩
    · have h0 : nv B d ≠ 0 := fun h => bad (by rw [h, Nat.zero_mul])
      have h1 : nv B e ≠ 0 := fun h => bad (by rw [h, Nat.mul_zero])
      have hle : zv s a * (nv B e : Int) ≤ zv t b * (nv B d : Int) := by rw [cz_gt] at hgt; omega
      have x1 := qsimp_spec s t a b d e 16385 (by decide) (by decide) ha hb hd he (by omega) (by omega) (by omega) (by omega) h0 h1 hle
      have x2 := rsimp_spec s t a b d e 16385 (by decide) (by decide) ha hb hd he (by omega) (by omega) (by omega) (by omega) h0 h1 hle
      obtain ⟨M, hM⟩ : ∃ M : Nat, M = 16385 := ⟨_, rfl⟩
      obtain ⟨q1, q2⟩ := smp_bnd (m := M) (rden_pos (z := zv s a) h0) (rden_pos (z := zv t b) h1) (r_co _ h0) (r_co _ h1) ((r_le h0 h1).2 hle) (Nat.lt_of_le_of_lt (rz_le' _ _) (zv_lt ha (by omega))) (Nat.lt_of_le_of_lt (rz_le' _ _) (zv_lt hb (by omega))) (Nat.lt_of_le_of_lt (rden_le _ _) (nvlt hd (by omega))) (Nat.lt_of_le_of_lt (rden_le _ _) (nvlt he (by omega))) (by omega)
      exact ⟨_, _, _, 0, by have := dlen q1; omega, by have := dlen q2; omega, x1, x2⟩
theorem pq_form (s : List UInt8) (M : Nat) (h1 : (topT (bdT s)).length ≤ 16 * M) (h2 : (undT (bdT s)).length ≤ 16 * M) : ∃ us ua ud, pqV s = rL us ua ud ∧ ua.length ≤ M + 1 ∧ ud.length ≤ M + 1 := by
  by_cases hk : okQ s = true ∧ denQ s ≠ 0
  · obtain ⟨d1, d2⟩ := okQ_dig hk.1
    have n1 : (zI (ngT s) (numQ s)).natAbs < B ^ (M + 1) := by rw [zI_abs]; exact numT_m d1 h1
    have n2 : denQ s < B ^ (M + 1) := by
      unfold denQ
      split
      · rename_i hm; exact numT_m (d2 hm) h2
      · exact Nat.lt_of_lt_of_le (by decide : 1 < B ^ 1) (Nat.pow_le_pow_right B0 (by omega))
    exact ⟨_, _, _, if_pos hk, dlen (Nat.lt_of_le_of_lt (rz_le' _ _) n1), dlen (Nat.lt_of_le_of_lt (rden_le _ _) n2)⟩
  · exact ⟨false, [], [], if_neg hk, by simp, by simp⟩
theorem bdT_le (s : List UInt8) : (bdT s).length ≤ s.length := by
  unfold bdT; split
  · rw [List.length_drop]; omega
  · exact Nat.le_refl _
theorem qpV_len {z : Int} {d m : Nat} (hz : z.natAbs < B ^ m) (hd : d < B ^ m) : (qpV z d).length ≤ 128 * m + 4 := by
  unfold qpV
  split
  · simp
  · have l1 := zS_len (Nat.lt_of_le_of_lt (rz_le' z d) hz)
    have l2 := decS_len (Nat.lt_of_le_of_lt (rden_le z d) hd)
    unfold qS
    split
    · omega
    · rw [List.length_append, List.length_cons]; omega
def a3 : AC := .seq (.reg [qr 1 (.bx 30 (.t 0)),
 qr 2 (.mv (.k (.b false)))])
 (.seq (.seq (.reg [qr 9 (.call 4 []),
 qr 10 (.un .not (.t 9))])
 (.cond (.t 10)
 (.seq (.reg [qr 2 (.mv (.k (.b false)))])
 (.ret))
 (.skip)))
 (.seq (.reg [qr 11 (.ld true 18 (.t 1)),
 qr 12 (.call 5 [(1, (.t 11))]),
 qn (.st 18 (.t 1) (.t 12))])
 (.seq (.dreg [qr 14 (.fad 0 (.t 1)),
 qr 15 (.ld true 3 (.t 14)),
 qr 16 (.call 7 [(1, (.t 15))]),
 qr 17 (.fad 3 (.t 1)),
 qr 18 (.ld true 3 (.t 17)),
 qr 19 (.call 7 [(1, (.t 18))]),
 qr 20 (.call 6 [(1, (.t 16)), (1, (.t 19))]),
 qm 13 20,
 qr 21 (.ext (.t 13) 0),
 qr 22 (.ext (.t 13) 1),
 qr 3 (.al 27 [(.b false), (.l 1 []), (.l 1 [])]),
 qn (.st 3 (.t 3) (.t 21)),
 qm 4 22])
 (.seq (.reg [qr 24 (.fad 0 (.t 1)),
 qr 25 (.ld true 3 (.t 24)),
 qr 26 (.fad 3 (.t 1)),
 qr 27 (.ld true 3 (.t 26)),
 qr 28 (.call 8 [(1, (.t 25)), (1, (.t 27))]),
 qm 23 28,
 qr 29 (.ext (.t 23) 0),
 qr 30 (.ext (.t 23) 1),
 qr 5 (.al 27 [(.b false), (.l 1 []), (.l 1 [])]),
 qn (.st 3 (.t 5) (.t 29)),
 qm 6 30])
 (.seq (.seq (.reg [qr 31 (.ld true 3 (.t 3)),
 qr 32 (.ld true 3 (.t 5)),
 qm 33 4,
 qm 34 6,
 qr 35 (.call 9 [(1, (.t 31)), (1, (.t 32)), (1, (.t 33)), (1, (.t 34))]),
 qr 36 (.un .not (.t 35))])
 (.cond (.t 36)
 (.seq (.reg [qr 2 (.mv (.k (.b false)))])
 (.ret))
 (.skip)))
 (.seq (.reg [qr 38 (.fad 0 (.t 1)),
 qr 39 (.ld true 3 (.t 38)),
 qr 40 (.call 7 [(1, (.t 39))]),
 qr 41 (.call 10 [(1, (.t 40))]),
 qm 37 41,
 qr 42 (.ext (.t 37) 0),
 qr 43 (.ext (.t 37) 1),
 qm 7 42,
 qm 4 43])
 (.seq (.reg [qr 45 (.fad 0 (.t 1)),
 qr 46 (.ld true 3 (.t 45)),
 qr 47 (.call 11 [(1, (.t 46))]),
 qm 44 47,
 qr 48 (.ext (.t 44) 0),
 qr 49 (.ext (.t 44) 1),
 qm 8 48,
 qm 6 49])
 (.seq (.seq (.reg [qm 50 7,
 qm 51 8,
 qr 52 (.bin .neq (.t 50) (.t 51)),
 qm 53 52,
 ⟨some 54, some (53, false), .mv (.t 4)⟩,
 ⟨some 55, some (53, false), .mv (.t 6)⟩,
 ⟨some 56, some (53, false), .bin .neq (.t 54) (.t 55)⟩,
 qr 57 (.pick (.t 53) (.k (.b true)) (.t 56))])
 (.cond (.t 57)
 (.seq (.reg [qr 2 (.mv (.k (.b false)))])
 (.ret))
 (.skip)))
 (.seq (.reg [qr 59 (.fad 17 (.t 1)),
 qr 60 (.ld false 1 (.t 59)),
 qr 61 (.call 12 [(1, (.t 60))]),
 qm 58 61,
 qr 62 (.ext (.t 58) 0),
 qr 63 (.ext (.t 58) 1),
 qn (.st 3 (.t 3) (.t 62)),
 qm 4 63])
 (.seq (.reg [qr 65 (.fad 17 (.t 1)),
 qr 66 (.ld false 1 (.t 65)),
 qr 67 (.call 13 [(1, (.t 66))]),
 qm 64 67,
 qr 68 (.ext (.t 64) 0),
 qr 69 (.ext (.t 64) 1),
 qn (.st 3 (.t 5) (.t 68)),
 qm 6 69])
 (.seq (.seq (.reg [qr 70 (.ld true 3 (.t 3)),
 qr 71 (.ld true 3 (.t 5)),
 qm 72 4,
 qm 73 6,
 qr 74 (.call 9 [(1, (.t 70)), (1, (.t 71)), (1, (.t 72)), (1, (.t 73))]),
 qr 75 (.un .not (.t 74))])
 (.cond (.t 75)
 (.seq (.reg [qr 2 (.mv (.k (.b false)))])
 (.ret))
 (.skip)))
 (.seq (.reg [qm 77 7,
 qr 78 (.call 12 [(1, (.t 77))]),
 qm 76 78,
 qr 79 (.ext (.t 76) 0),
 qr 80 (.ext (.t 76) 1),
 qn (.st 3 (.t 3) (.t 79)),
 qm 4 80])
 (.seq (.reg [qm 82 8,
 qr 83 (.call 13 [(1, (.t 82))]),
 qm 81 83,
 qr 84 (.ext (.t 81) 0),
 qr 85 (.ext (.t 81) 1),
 qn (.st 3 (.t 5) (.t 84)),
 qm 6 85])
 (.seq (.reg [qr 86 (.ld true 3 (.t 3)),
 qr 87 (.ld true 3 (.t 5)),
 qm 88 4,
 qm 89 6,
 qr 90 (.call 9 [(1, (.t 86)), (1, (.t 87)), (1, (.t 88)), (1, (.t 89))]),
 qm 2 90])
 (.ret)))))))))))))))
theorem qqTexts_spec (s0 s1 s2 s3 s4 : Bool) (aa0 d0 aa1 d1 aa2 d2 aa3 aa4 : List Nat) (n m k : Int) (l : List (Bool × List Nat × List Nat)) (st : List UInt8)
    (wa0 : Wd aa0) (wd0 : Wd d0) (wa1 : Wd aa1) (wd1 : Wd d1) (hst : st.length ≤ 1100000) :
    AFun Tryz.prog J0 3 [caseV s0 s1 s2 s3 s4 aa0 d0 aa1 d1 aa2 d2 aa3 aa4 n m k l st] (.b true) := by
  have hl := lless_spec s0 s1 s2 s3 s4 aa0 d0 aa1 d1 aa2 d2 aa3 aa4 n m k l st
  obtain ⟨b0, e, vb0, lb0⟩ := take12 wa0; rw [e] at hl
  obtain ⟨e0, e, ve0, le0⟩ := take12 wd0; rw [e] at hl
  obtain ⟨b1, e, vb1, lb1⟩ := take12 wa1; rw [e] at hl
  obtain ⟨e1, e, ve1, le1⟩ := take12 wd1; rw [e] at hl
  generalize aa2.take 12 = b2 at *
  generalize d2.take 12 = e2 at *
  generalize aa3.take 12 = b3 at *
  generalize aa4.take 12 = b4 at *
  generalize fewL l = ls at *
  clear wa0 wd0 wa1 wd1 e
  have hf := lfixed_spec
  have cA := lc_spec s0 b0 e0 (by omega) (by omega)
  have cB := lc_spec s1 b1 e1 (by omega) (by omega)
  obtain ⟨us, ua, ud, er, u1, u2, f1, f2⟩ := simp_both s0 s1 b0 b1 e0 e1 vb0 vb1 ve0 ve1 lb0 lb1 le0 le1
  have f3 := lsame_true us ua ud (by omega) (by omega) er
  have p1 := qprint_spec s0 b0 e0 12 (by decide) vb0 ve0 lb0 le0
  have p2 := rqprint_spec s0 b0 e0 12 (by decide) vb0 ve0 lb0 le0
  have hpl : (qpV (zv s0 b0) (nv B e0)).length ≤ 128 * 12 + 4 := qpV_len (zv_lt vb0 lb0) (nvlt ve0 le0)
  generalize qpV (zv s0 b0) (nv B e0) = tx at *
  generalize re (nv B e0) = re0 at *
  have t1 := top_len (bdT st)
  have t2 := und_len (bdT st)
  have t3 := bdT_le st
  have t4 := top_len (bdT tx)
  have t5 := und_len (bdT tx)
  have t6 := bdT_le tx
  have q1 := qparse_spec st (by omega) (by omega) (by omega)
  have q2 := rqparse_spec st (by omega) (by omega) (by omega)
  obtain ⟨vs, va, vd, ev, v1, v2⟩ := pq_form st 100000 (by omega) (by omega)
  rw [ev] at q1 q2
  have q3 := lsame_true vs va vd (by omega) (by omega) (pqE st)
  have r1 := qparse_spec tx (by omega) (by omega) (by omega)
  have r2 := rqparse_spec tx (by omega) (by omega) (by omega)
  obtain ⟨xs, xa, xd, ex, x1, x2⟩ := pq_form tx 100000 (by omega) (by omega)
  rw [ex] at r1 r2
  have r3 := lsame_true xs xa xd (by omega) (by omega) (pqE tx)
  generalize pqE st = pe at *
  generalize pqE tx = xe at *
  have bx : (tx == tx) = true := by simp
  clear ev ex
  refine mkQ fol J0s Tryz.func3 a3 ?_
  unfold a3
  simp only [init_eq, initE, qm, qr, qn]
  have zc1 := f1
  have zc2 := f2
  exact wdQ (ai @bx (ai @eqsA @bz_LQTexts))
end Go.Proofs.YthldhonccnajoaaGreatDoor
