/-
  Texts of rationals, read by the program.
-/
import Derived.Test.YtgejbndgakgfnaaGreatDoorQIX
import Derived.Test.YtgejbndgakgfnaaGreatDoorQ20
namespace Go.Proofs.YtgejbndgakgfnaaGreatDoor
open Go Go.RowKit Ab
set_option linter.unusedSimpArgs false
set_option linter.unusedVariables false
set_option maxHeartbeats 10000000
theorem bz_QT2 : type_of% (And.intro @W_len (And.intro @D_len (And.intro @Nat.div_one (And.intro @Nat.mul_one (And.intro @tn_nat (And.intro @W_nf (And.intro @D_nf (And.intro @W_nil (And.intro @D_nil (And.intro @wi (And.intro @nf_g (And.intro @Bool.false_and (@W_cell))))))))))))) := And.intro @W_len (And.intro @D_len (And.intro @Nat.div_one (And.intro @Nat.mul_one (And.intro @tn_nat (And.intro @W_nf (And.intro @D_nf (And.intro @W_nil (And.intro @D_nil (And.intro @wi (And.intro @nf_g (And.intro @Bool.false_and (@W_cell))))))))))))
theorem digV_nv {t : List UInt8} (h : ∀ c, c ∈ t → isDg c = true) : digV t = dg B (numT t) := if_pos (List.all_eq_true.2 h)
theorem digB_iff {t : List UInt8} : digB t = true ↔ t ≠ [] ∧ ∀ c, c ∈ t → isDg c = true := by
  unfold digB
  rw [Bool.and_eq_true, decide_eq_true_eq, List.all_eq_true]
theorem trT_len (t : List UInt8) : (trT t).length ≤ t.length + 1 := by
  unfold trT; split
  · simp
  · have : (trZ t).length ≤ t.length := by unfold trZ; exact (List.dropWhile_sublist _).length_le
    omega
def a55 : AC := .seq (.reg [qr 2 (.mv (.k .nl)),
 qr 3 (.mv (.k (.b false)))])
 (.seq (.seq (.reg [qm 7 0,
 qr 8 (.bin .eql (.t 7) (.k (.s [])))])
 (.cond (.t 8)
 (.seq (.reg [qr 2 (.mv (.k .nl)),
 qr 3 (.mv (.k (.b false)))])
 (.ret))
 (.skip)))
 (.seq (.seq (.reg [qm 9 0,
 qr 10 (.call 71 [(1, (.t 9)), (1, (.k (.s [48])))]),
 qm 4 10])
 (.seq (.reg [qm 11 4,
 qr 12 (.bin .neq (.t 11) (.k (.s [])))])
 (.cond (.t 12)
 (.reg [qm 13 4,
 qm 0 13])
 (.reg [qr 0 (.mv (.k (.s [48])))]))))
 (.seq (.reg [qm 15 0,
 qr 16 (.call 72 [(1, (.t 15))]),
 qm 14 16,
 qr 17 (.ext (.t 14) 0),
 qr 18 (.ext (.t 14) 1),
 qm 5 17,
 qm 6 18])
 (.seq (.reg [qm 19 5,
 qm 20 6,
 qr 21 (.bin .eql (.t 20) (.k (.i .i64 0))),
 qm 2 19,
 qm 3 21])
 (.ret)))))
theorem qdigits_spec (t : List UInt8) (ht : t.length ≤ 90000000) : AFun Tryz.prog J0 55 [.s t] (.t [.l 1 (W (digV t)), .b (digB t)]) := by
  by_cases h0 : t = []
  · subst h0
    have b0 : (([] : List UInt8) == []) = true := rfl
    have e1 : digV [] = [] := rfl
    have e2 : digB [] = false := rfl
    rw [e1, e2]
    refine mkQ fol J0s Tryz.func55 a55 ?_
    unfold a55
    simp only [init_eq, initE, qm, qr, qn]
    exact pdQ (ai @b0 @bz_QT2)
  · have b0 : (t == []) = false := by simpa using h0
    have h1 := triml_spec t (by omega)
    have h2 := rparse_spec (trT t) (by have := trT_len t; omega)
    obtain ⟨k1, k2⟩ := trT_ok t
    have hd : nuV (trT t) = digV t := by
      unfold nuV digV; rw [k1, k2]; rfl
    have hb : decide (nuE (trT t) = 0) = digB t := by
      unfold nuE digB
      rw [k1, decide_eq_true h0, Bool.true_and]
      cases t.all isDg <;> rfl
    rw [hd] at h2
    generalize digV t = v at *
    generalize digB t = bb at *
    have hcut : trT t = if trZ t = [] then [48] else trZ t := rfl
    generalize nuE (trT t) = er at *
    by_cases hz : trZ t = []
    · rw [if_pos hz] at hcut
      rw [hcut] at h2
      rw [hz] at h1
      have b1 : (([] : List UInt8) == []) = true := rfl
      refine mkQ fol J0s Tryz.func55 a55 ?_
      unfold a55
      simp only [init_eq, initE, qm, qr, qn]
      exact wdQ (ai @hb (ai @b1 (ai @b0 @bz_QT2)))
    · rw [if_neg hz] at hcut
      rw [hcut] at h2
      have b1 : (trZ t == []) = false := by simpa using hz
      generalize trZ t = z at *
      refine mkQ fol J0s Tryz.func55 a55 ?_
      unfold a55
      simp only [init_eq, initE, qm, qr, qn]
      exact wdQ (ai @hb (ai @b1 (ai @b0 @bz_QT2)))
def pqE (s : List UInt8) : Int := if okQ s then (if denQ s = 0 then 1 else 0) else 5
def pqV (s : List UInt8) : V := if okQ s = true ∧ denQ s ≠ 0 then rN (rz (zI (ngT s) (numQ s)) (denQ s)) (rden (zI (ngT s) (numQ s)) (denQ s)) else .g [.b false, .l 1 [], .l 1 []]
theorem pq_bad {s : List UInt8} (h : ¬ okQ s = true) : pqV s = .g [.b false, .l 1 [], .l 1 []] ∧ pqE s = 5 := ⟨if_neg (fun h' => h h'.1), if_neg h⟩
theorem pq_zero {s : List UInt8} (h : okQ s = true) (h0 : denQ s = 0) : pqV s = .g [.b false, .l 1 [], .l 1 []] ∧ pqE s = 1 := ⟨if_neg (fun h' => h'.2 h0), by unfold pqE; rw [if_pos h, if_pos h0]⟩
theorem pq_ok {s : List UInt8} (h : okQ s = true) (h0 : denQ s ≠ 0) : pqV s = rN (rz (zI (ngT s) (numQ s)) (denQ s)) (rden (zI (ngT s) (numQ s)) (denQ s)) ∧ pqE s = 0 := ⟨if_pos ⟨h, h0⟩, by unfold pqE; rw [if_pos h, if_neg h0]⟩
theorem numT_lt16' {t : List UInt8} (h : ∀ c, c ∈ t → isDg c = true) : numT t < B ^ (t.length / 16 + 1) := by
  have h1 := nv_lt (dgsT_lt h)
  have hl : (dgsT t).length = t.length := by unfold dgsT; rw [List.length_map, List.length_reverse]
  rw [hl] at h1
  refine Nat.lt_of_lt_of_le h1 (Nat.le_trans (Nat.pow_le_pow_left (by decide : 10 ≤ 2 ^ 4) _) ?_)
  rw [← Nat.pow_mul, B_two]
  exact Nat.pow_le_pow_right (by decide) (by omega)
theorem numT_m {t : List UInt8} {m : Nat} (h : ∀ c, c ∈ t → isDg c = true) (hm : t.length ≤ 16 * m) : numT t < B ^ (m + 1) := Nat.lt_of_lt_of_le (numT_lt16' h) (Nat.pow_le_pow_right B0 (by omega))
def a33 : AC := .seq (.reg [qr 2 (.al 27 [(.b false), (.l 1 []), (.l 1 [])]),
 qr 3 (.mv (.k (.i .i64 0)))])
 (.seq (.reg [qm 12 0,
 qr 13 (.call 53 [(1, (.t 12)), (1, (.k (.s [45])))]),
 qm 11 13,
 qr 14 (.ext (.t 11) 0),
 qr 15 (.ext (.t 11) 1),
 qm 0 14,
 qm 4 15])
 (.seq (.reg [qm 17 0,
 qr 18 (.call 54 [(1, (.t 17)), (1, (.k (.s [47])))]),
 qm 16 18,
 qr 19 (.ext (.t 16) 0),
 qr 20 (.ext (.t 16) 1),
 qr 21 (.ext (.t 16) 2),
 qm 5 19,
 qm 6 20,
 qm 7 21])
 (.seq (.reg [qm 23 5,
 qr 24 (.call 55 [(1, (.t 23))]),
 qm 22 24,
 qr 25 (.ext (.t 22) 0),
 qr 26 (.ext (.t 22) 1),
 qm 8 25,
 qm 9 26])
 (.seq (.seq (.reg [qm 27 9,
 qr 28 (.un .not (.t 27))])
 (.cond (.t 28)
 (.seq (.reg [qr 29 (.bld [(.b false), (.l 1 []), (.l 1 [])] []),
 qn (.st 3 (.t 2) (.t 29)),
 qr 3 (.mv (.k (.i .i64 5)))])
 (.ret))
 (.skip)))
 (.seq (.reg [qr 30 (.call 20 [(1, (.k (.i .u64 1)))]),
 qm 10 30])
 (.seq (.seq (.reg [qm 31 7])
 (.cond (.t 31)
 (.seq (.reg [qm 33 6,
 qr 34 (.call 55 [(1, (.t 33))]),
 qm 32 34,
 qr 35 (.ext (.t 32) 0),
 qr 36 (.ext (.t 32) 1),
 qm 10 35,
 qm 9 36])
 (.seq (.reg [qm 37 9,
 qr 38 (.un .not (.t 37))])
 (.cond (.t 38)
 (.seq (.reg [qr 39 (.bld [(.b false), (.l 1 []), (.l 1 [])] []),
 qn (.st 3 (.t 2) (.t 39)),
 qr 3 (.mv (.k (.i .i64 5)))])
 (.ret))
 (.skip))))
 (.skip)))
 (.seq (.seq (.reg [qm 40 10,
 qr 41 (.call 41 [(1, (.t 40))]),
 qr 42 (.bin .eql (.t 41) (.k (.i .i64 0)))])
 (.cond (.t 42)
 (.seq (.reg [qr 43 (.bld [(.b false), (.l 1 []), (.l 1 [])] []),
 qn (.st 3 (.t 2) (.t 43)),
 qr 3 (.mv (.k (.i .i64 1)))])
 (.ret))
 (.skip)))
 (.seq (.reg [qm 44 4,
 qm 45 8,
 qr 46 (.call 45 [(1, (.t 44)), (1, (.t 45))]),
 qm 47 10,
 qr 48 (.call 24 [(1, (.t 46)), (1, (.t 47))]),
 qn (.st 3 (.t 2) (.t 48)),
 qr 3 (.mv (.k (.i .i64 0)))])
 (.ret)))))))))
theorem qparse_spec (s : List UInt8) (hs : s.length ≤ 1000000000) (ht : (topT (bdT s)).length ≤ 90000000) (hu : (undT (bdT s)).length ≤ 90000000) : AFun Tryz.prog J0 33 [.s s] (.t [pqV s, .i .i64 (pqE s)]) := by
  have hb : (bdT s).length ≤ s.length := by
    unfold bdT; split
    · rw [List.length_drop]; omega
    · exact Nat.le_refl _
  have h1 := scutp_spec s hs
  have h2 := cut_spec (bdT s) (by omega)
  have h3 := qdigits_spec (topT (bdT s)) ht
  have h4 := qdigits_spec (undT (bdT s)) hu
  have o1 := (natOf_spec 1 (by decide)).frozen
  obtain ⟨M, hM⟩ : ∃ M : Nat, M = 5625000 := ⟨_, rfl⟩
  by_cases k1 : digB (topT (bdT s)) = true
  · have a1 := (digB_iff.1 k1).2
    rw [k1, digV_nv a1] at h3
    have n1 : numT (topT (bdT s)) < B ^ (M + 1) := numT_m a1 (by omega)
    have hnat := znat_spec (ngT s) (dg B (numT (topT (bdT s)))) (Wd_dg _) (Nat.le_trans (dlen n1) (by omega))
    rw [show zv (ngT s) (dg B (numT (topT (bdT s)))) = zI (ngT s) (numQ s) from by unfold zv; rw [nv_dgB]; rfl] at hnat
    have hzb : (zI (ngT s) (numQ s)).natAbs < B ^ (M + 1) := by rw [zI_abs]; exact n1
    by_cases k2 : mrT (bdT s) = true
    · rw [k2, if_pos rfl] at h2
      by_cases k3 : digB (undT (bdT s)) = true
      · have a2 := (digB_iff.1 k3).2
        rw [k3, digV_nv a2] at h4
        have hok : okQ s = true := by unfold okQ; rw [k1, k2, k3]; rfl
        have hde : denQ s = numT (undT (bdT s)) := if_pos k2
        have n2 : denQ s < B ^ (M + 1) := by rw [hde]; exact numT_m a2 (by omega)
        have hbt := natBits_spec (dg B (denQ s)) (Wd_dg _) (Nat.le_trans (dlen n2) (by omega))
        rw [nv_dgB] at hbt
        rw [← hde] at h4
        have z0 := bl_z (n := denQ s)
        by_cases h0 : denQ s = 0
        · obtain ⟨e1, e2⟩ := pq_zero hok h0
          rw [e1, e2]
          have hbz : ((bl (denQ s) : Nat) : Int) = 0 := z0.mpr h0
          generalize ((bl (denQ s) : Nat) : Int) = bb at *
          generalize dg B (denQ s) = dd at *
          generalize topT (bdT s) = tt at *
          generalize undT (bdT s) = uu at *
          generalize bdT s = bs at *
          refine mkcQ fol J0s Tryz.func33 a33 [.c 2 true 3, .t 3] ?_
          unfold a33
          simp only [init_eq, initE, qm, qr, qn]
          exact wcQ (ai @hbz @bz_QT2)
        · obtain ⟨e1, e2⟩ := pq_ok hok h0
          rw [e1, e2]
          have hbz : ¬ ((bl (denQ s) : Nat) : Int) = 0 := fun h => h0 (z0.mp h)
          have hr := qred_spec (decide (zI (ngT s) (numQ s) < 0)) (dg B (zI (ngT s) (numQ s)).natAbs) (dg B (denQ s)) (M + 1) (by omega) (Wd_dg _) (Wd_dg _) (dlen hzb) (dlen n2) (by rw [nv_dgB]; exact h0)
          rw [zv_N, nv_dgB] at hr
          generalize rz (zI (ngT s) (numQ s)) (denQ s) = zz at *
          generalize rden (zI (ngT s) (numQ s)) (denQ s) = zd at *
          generalize zI (ngT s) (numQ s) = z at *
          generalize ((bl (denQ s) : Nat) : Int) = bb at *
          generalize dg B (denQ s) = dd at *
          generalize dg B (numT (topT (bdT s))) = nn at *
          generalize topT (bdT s) = tt at *
          generalize undT (bdT s) = uu at *
          generalize bdT s = bs at *
          refine mkcQ fol J0s Tryz.func33 a33 [.c 2 true 3, .t 3] ?_
          unfold a33
          simp only [init_eq, initE, qm, qr, qn]
          exact wcQ (ai @hbz @bz_QT2)
      · have k3' : digB (undT (bdT s)) = false := by simpa using k3
        rw [k3'] at h4
        obtain ⟨e1, e2⟩ := pq_bad (s := s) (by unfold okQ; rw [k1, k2, k3']; decide)
        rw [e1, e2]
        generalize digV (undT (bdT s)) = dd at *
        generalize dg B (numT (topT (bdT s))) = nn at *
        generalize topT (bdT s) = tt at *
        generalize undT (bdT s) = uu at *
        generalize bdT s = bs at *
        refine mkcQ fol J0s Tryz.func33 a33 [.c 2 true 3, .t 3] ?_
        unfold a33
        simp only [init_eq, initE, qm, qr, qn]
        exact wcQ @bz_QT2
    · have k2' : mrT (bdT s) = false := by simpa using k2
      rw [k2', if_neg (by simp)] at h2
      have hok : okQ s = true := by unfold okQ; rw [k1, k2']; rfl
      have hde : denQ s = 1 := by unfold denQ; rw [if_neg k2]
      have h0 : denQ s ≠ 0 := by rw [hde]; decide
      obtain ⟨e1, e2⟩ := pq_ok hok h0
      rw [e1, e2, hde]
      have hB1 : 1 < B ^ (M + 1) := Nat.lt_of_lt_of_le (by decide : 1 < B ^ 1) (Nat.pow_le_pow_right B0 (by omega))
      have hbt := natBits_spec (dg B 1) (Wd_dg _) (Nat.le_trans (dlen hB1) (by omega))
      rw [nv_dgB] at hbt
      have hbz : ¬ ((bl 1 : Nat) : Int) = 0 := by decide
      have hr := qred_spec (decide (zI (ngT s) (numQ s) < 0)) (dg B (zI (ngT s) (numQ s)).natAbs) (dg B 1) (M + 1) (by omega) (Wd_dg _) (Wd_dg _) (dlen hzb) (dlen hB1) (by rw [nv_dgB]; decide)
      rw [zv_N, nv_dgB] at hr
      generalize rz (zI (ngT s) (numQ s)) 1 = zz at *
      generalize rden (zI (ngT s) (numQ s)) 1 = zd at *
      generalize zI (ngT s) (numQ s) = z at *
      generalize ((bl 1 : Nat) : Int) = bb at *
      generalize dg B (numT (topT (bdT s))) = nn at *
      generalize topT (bdT s) = tt at *
      generalize bdT s = bs at *
      refine mkcQ fol J0s Tryz.func33 a33 [.c 2 true 3, .t 3] ?_
      unfold a33
      simp only [init_eq, initE, qm, qr, qn]
      exact wcQ (ai @hbz @bz_QT2)
  · have k1' : digB (topT (bdT s)) = false := by simpa using k1
    rw [k1'] at h3
    obtain ⟨e1, e2⟩ := pq_bad (s := s) (by unfold okQ; rw [k1']; simp)
    rw [e1, e2]
    generalize (if mrT (bdT s) then undT (bdT s) else []) = uu at *
    generalize mrT (bdT s) = mm at *
    generalize digV (topT (bdT s)) = dd at *
    generalize topT (bdT s) = tt at *
    generalize bdT s = bs at *
    refine mkcQ fol J0s Tryz.func33 a33 [.c 2 true 3, .t 3] ?_
    unfold a33
    simp only [init_eq, initE, qm, qr, qn]
    exact wcQ @bz_QT2
end Go.Proofs.YtgejbndgakgfnaaGreatDoor
