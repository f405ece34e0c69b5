/-
  CellsNumbers: the law's walk.
-/
import Derived.Test.YtfcpigjmagbnkaaGreatDoorLCForms
import Derived.Test.YtfcpigjmagbnkaaGreatDoorC7
namespace Go.Proofs.YtfcpigjmagbnkaaGreatDoor
open Go Go.RowKit Ab
set_option linter.unusedSimpArgs false
set_option linter.unusedVariables false
set_option maxHeartbeats 10000000
theorem bz_LCNumbers : type_of% (And.intro @W_len (And.intro @D_len (And.intro @Nat.div_one (And.intro @Nat.mul_one (And.intro @tn_nat (And.intro @W_nf (And.intro @D_nf (And.intro @W_nil (And.intro @D_nil (And.intro @wi (And.intro @nf_g (And.intro @Bool.false_and (@W_cell))))))))))))) := And.intro @W_len (And.intro @D_len (And.intro @Nat.div_one (And.intro @Nat.mul_one (And.intro @tn_nat (And.intro @W_nf (And.intro @D_nf (And.intro @W_nil (And.intro @D_nil (And.intro @wi (And.intro @nf_g (And.intro @Bool.false_and (@W_cell))))))))))))
theorem sameR3 {p : Rat} {m : Nat} {v : V} (h : Rr v p m) (hm : m ≤ 100000000) : AFun Tryz.prog J0 23 [rN p.num p.den, rN p.num p.den] (.b true) := by
  obtain ⟨h1, h2⟩ := Rr_num h
  have l1 := dlen h1
  have l2 := dlen h2
  exact rSame_true _ _ _ (by omega) (by omega)
theorem exp_both (s : Bool) (a d : List Nat) (m : Nat) (hm : m ≤ 10000000) (ha : Wd a) (hd : Wd d) (la : a.length ≤ m) (ld : d.length ≤ m) : ∃ x y : Int, AFun Tryz.prog J0 8 [rL s a d] (.t [.i .i64 x, .i .i64 y]) ∧ AFun Tryz.prog J0 30 [rL s a d] (.t [.i .i64 x, .i .i64 y]) := by
  by_cases h0 : nv B d = 0
  · exact ⟨_, _, cexp_0 s a d m hm ha hd la ld h0, rcexp_0 s a d m hm hd ld h0⟩
  · by_cases hs : 0 < zv s a
    · obtain ⟨k, hk, _⟩ := fin_ex (u := nv B a) (d := nv B d) (fun h => by rw [zv_z.2 h] at hs; omega)
      exact ⟨_, _, cexp_k s a d k m hm ha hd la ld h0 hs hk, rcexp_k s a d k m hm ha hd la ld h0 hs hk⟩
    · exact ⟨_, _, cexp_s s a d m hm ha hd la ld h0 (by omega), rcexp_s s a d m hm ha hd la ld h0 (by omega)⟩
theorem holds_both (s : Bool) (a : List Nat) (k : Int) (m : Nat) (p : Bool) (t : Bool) (b d : List Nat) (ha : Wd a) (la : a.length ≤ m) (hb : Wd b) (hd : Wd d) (lb : b.length ≤ m) (ld : d.length ≤ m) (hm : 20000 ≤ m) (hm1 : m ≤ 2000000) : ∃ (x : Bool) (y : Int), AFun Tryz.prog J0 15 [cL s a k p, rL t b d] (.t [.b x, .i .i64 y]) ∧ AFun Tryz.prog J0 27 [cL s a k p, rL t b d] (.t [.b x, .i .i64 y]) := by
  by_cases h : hoE k (nv B d) = 0
  · unfold hoE at h
    by_cases h0 : ckE k = 0
    · rw [if_pos h0] at h
      by_cases h1 : nv B d = 0
      · rw [if_pos h1] at h; exact absurd h (by decide)
      · obtain ⟨k1, k2⟩ := ckE_z.1 h0
        obtain ⟨n, rfl⟩ : ∃ n : Nat, k = (n : Int) := ⟨k.toNat, by omega⟩
        exact ⟨_, _, cholds_spec s a n m p (by omega) ha la (Rr_raw (s := t) hb hd lb ld h1) hm hm1, rholds_spec s a n m p t b d (by omega) ha la hb hd lb ld h1 hm hm1⟩
    · rw [if_neg h0] at h; exact absurd h h0
  · exact ⟨_, _, choldsA_spec s a k m p t b d ha la hb hd lb ld h hm hm1, rholdsE_spec s a k p t b d hd (by omega) h⟩
theorem of_both (s : Bool) (a d : List Nat) (k : Int) (m : Nat) (ha : Wd a) (hd : Wd d) (la : a.length ≤ m) (ld : d.length ≤ m) (hm : 20000 ≤ m) (hm1 : m ≤ 2000000) : ∃ (x : Bool) (y : List Nat) (u : Int) (v : Bool) (w : Int), y.length ≤ 100000000 ∧ AFun Tryz.prog J0 13 [rL s a d, .i .i64 k] (.t [cL x y u v, .i .i64 w]) ∧ AFun Tryz.prog J0 29 [rL s a d, .i .i64 k] (.t [cL x y u v, .i .i64 w]) := by
  by_cases h : oeE (nv B d) k = 0
  · unfold oeE at h
    by_cases h1 : nv B d = 0
    · rw [if_pos h1] at h; exact absurd h (by decide)
    · rw [if_neg h1] at h
      obtain ⟨k1, k2⟩ := ckE_z.1 h
      obtain ⟨n, rfl⟩ : ∃ n : Nat, k = (n : Int) := ⟨k.toNat, by omega⟩
      have bl : (plZ (zv s a) (nv B d) n).natAbs < B ^ (m + 16384 + 1) := fl_abs (shlz (zv_lt (s := s) ha la) (by omega))
      exact ⟨_, _, _, _, _, Nat.le_trans (dlen bl) (by omega), cof_spec s a d n m (by omega) ha hd la ld h1 hm (by omega), rof_spec s a d n m (by omega) ha hd la ld h1 hm (by omega)⟩
  · exact ⟨false, [], 0, false, _, Nat.zero_le _, cofE_spec s a d k hd (by omega) h, rofE_spec s a d k hd (by omega) h⟩
theorem up_both (s : Bool) (a : List Nat) (k : Int) (p : Bool) (ha : Wd a) (la : a.length ≤ 1100000) : ∃ (x : Bool) (y : List Nat) (u : Int) (v : Bool) (w : Int), y.length ≤ 100000000 ∧ AFun Tryz.prog J0 14 [cL s a k p] (.t [cL x y u v, .i .i64 w]) ∧ AFun Tryz.prog J0 28 [cL s a k p] (.t [cL x y u v, .i .i64 w]) := by
  have h1 := cup_spec s a k p ha (by omega)
  have h2 := rcup_spec s a k 1100000 p ha la (by decide) (by decide)
  by_cases h : upE k = 0
  · rw [if_pos h] at h1 h2
    obtain ⟨M, hM⟩ : ∃ M : Nat, M = 1100000 := ⟨_, rfl⟩
    have bl : ((zv s a).fdiv 2).natAbs < B ^ (M + 1) := fl_abs (v := 2) (zv_lt ha (by omega))
    exact ⟨_, _, _, _, _, Nat.le_trans (dlen bl) (by omega), h1, h2⟩
  · rw [if_neg h] at h1 h2
    exact ⟨false, [], 0, false, _, Nat.zero_le _, h1, h2⟩
def a5 : AC := .seq (.reg [qr 3 (.bx 37 (.t 0)),
 qr 4 (.bx 27 (.t 1)),
 qr 6 (.mv (.k (.b false)))])
 (.seq (.seq (.reg [qr 22 (.call 7 []),
 qr 23 (.un .not (.t 22))])
 (.cond (.t 23)
 (.seq (.reg [qr 6 (.mv (.k (.b false)))])
 (.ret))
 (.skip)))
 (.seq (.reg [qr 24 (.ld true 4 (.t 3)),
 qr 25 (.call 21 [(1, (.t 24))]),
 qn (.st 4 (.t 3) (.t 25))])
 (.seq (.seq (.reg [qm 26 2,
 qr 27 (.bin .gtr (.t 26) (.k (.i .i64 3000))),
 qm 28 27,
 ⟨some 29, some (28, true), .mv (.t 2)⟩,
 ⟨some 30, some (28, true), .bin .leq (.t 29) (.k (.i .i64 1048576))⟩,
 qr 31 (.pick (.t 28) (.t 30) (.k (.b false)))])
 (.cond (.t 31)
 (.reg [qm 32 2,
 qr 33 (.bin .rem (.t 32) (.k (.i .i64 3000))),
 qm 2 33])
 (.skip)))
 (.seq (.reg [qr 34 (.ld true 4 (.t 3)),
 qr 35 (.call 22 [(1, (.t 34))]),
 qm 7 35])
 (.seq (.reg [qr 37 (.ld true 4 (.t 3)),
 qr 38 (.call 11 [(1, (.t 37))]),
 qm 36 38,
 qr 39 (.ext (.t 36) 0),
 qr 40 (.ext (.t 36) 1),
 qr 41 (.ext (.t 36) 2),
 qr 8 (.al 27 [(.b false), (.l 1 []), (.l 1 [])]),
 qr 9 (.al 27 [(.b false), (.l 1 []), (.l 1 [])]),
 qn (.st 3 (.t 8) (.t 39)),
 qn (.st 3 (.t 9) (.t 40)),
 qm 10 41])
 (.seq (.reg [qr 43 (.ld true 4 (.t 3)),
 qr 44 (.call 18 [(1, (.t 43))]),
 qm 42 44,
 qr 45 (.ext (.t 42) 0),
 qr 46 (.ext (.t 42) 1),
 qr 11 (.al 27 [(.b false), (.l 1 []), (.l 1 [])]),
 qn (.st 3 (.t 11) (.t 45)),
 qm 12 46])
 (.seq (.seq (.dreg [qm 47 10,
 qm 48 7,
 qr 49 (.bin .neq (.t 47) (.t 48)),
 qm 50 49,
 ⟨some 51, some (50, false), .mv (.t 12)⟩,
 ⟨some 52, some (50, false), .mv (.t 7)⟩,
 ⟨some 53, some (50, false), .bin .neq (.t 51) (.t 52)⟩,
 qr 54 (.pick (.t 50) (.k (.b true)) (.t 53)),
 qm 55 54,
 ⟨some 56, some (55, false), .mv (.t 7)⟩,
 ⟨some 57, some (55, false), .bin .eql (.t 56) (.k (.i .i64 0))⟩,
 ⟨some 58, some (55, false), .mv (.t 57)⟩,
 ⟨some 59, some (58, true), .ld true 3 (.t 8)⟩,
 ⟨some 60, some (58, true), .ld true 4 (.t 3)⟩,
 ⟨some 61, some (58, true), .call 24 [(1, (.t 60))]⟩,
 ⟨some 62, some (58, true), .call 23 [(1, (.t 59)), (1, (.t 61))]⟩,
 ⟨some 63, some (58, true), .un .not (.t 62)⟩,
 ⟨some 64, some (58, true), .mv (.t 63)⟩,
 ⟨some 65, some (64, false), .ld true 3 (.t 9)⟩,
 ⟨some 66, some (64, false), .ld true 4 (.t 3)⟩,
 ⟨some 67, some (64, false), .call 25 [(1, (.t 66))]⟩,
 ⟨some 68, some (64, false), .call 23 [(1, (.t 65)), (1, (.t 67))]⟩,
 ⟨some 69, some (64, false), .un .not (.t 68)⟩,
 ⟨some 70, some (58, true), .pick (.t 64) (.k (.b true)) (.t 69)⟩,
 ⟨some 71, some (58, true), .mv (.t 70)⟩,
 ⟨some 72, some (71, false), .ld true 3 (.t 11)⟩,
 ⟨some 73, some (71, false), .ld true 4 (.t 3)⟩,
 ⟨some 74, some (71, false), .call 26 [(1, (.t 73))]⟩,
 ⟨some 75, some (71, false), .call 23 [(1, (.t 72)), (1, (.t 74))]⟩,
 ⟨some 76, some (71, false), .un .not (.t 75)⟩,
 ⟨some 77, some (58, true), .pick (.t 71) (.k (.b true)) (.t 76)⟩,
 ⟨some 78, some (55, false), .pick (.t 58) (.t 77) (.k (.b false))⟩,
 qr 79 (.pick (.t 55) (.k (.b true)) (.t 78))])
 (.cond (.t 79)
 (.seq (.reg [qr 6 (.mv (.k (.b false)))])
 (.ret))
 (.skip)))
 (.seq (.reg [qr 81 (.ld true 4 (.t 3)),
 qr 82 (.ld true 3 (.t 4)),
 qr 83 (.call 27 [(1, (.t 81)), (1, (.t 82))]),
 qm 80 83,
 qr 84 (.ext (.t 80) 0),
 qr 85 (.ext (.t 80) 1),
 qm 13 84,
 qm 7 85])
 (.seq (.reg [qr 87 (.ld true 4 (.t 3)),
 qr 88 (.ld true 3 (.t 4)),
 qr 89 (.call 15 [(1, (.t 87)), (1, (.t 88))]),
 qm 86 89,
 qr 90 (.ext (.t 86) 0),
 qr 91 (.ext (.t 86) 1),
 qm 14 90,
 qm 10 91])
 (.seq (.seq (.reg [qm 92 13,
 qm 93 14,
 qr 94 (.eqb true (.t 92) (.t 93)),
 qm 95 94,
 ⟨some 96, some (95, false), .mv (.t 7)⟩,
 ⟨some 97, some (95, false), .mv (.t 10)⟩,
 ⟨some 98, some (95, false), .bin .neq (.t 96) (.t 97)⟩,
 qr 99 (.pick (.t 95) (.k (.b true)) (.t 98))])
 (.cond (.t 99)
 (.seq (.reg [qr 6 (.mv (.k (.b false)))])
 (.ret))
 (.skip)))
 (.seq (.reg [qr 101 (.ld true 4 (.t 3)),
 qr 102 (.call 28 [(1, (.t 101))]),
 qm 100 102,
 qr 103 (.ext (.t 100) 0),
 qr 104 (.ext (.t 100) 1),
 qr 15 (.al 37 [(.b false), (.l 1 []), (.i .i64 0), (.b false)]),
 qn (.st 4 (.t 15) (.t 103)),
 qm 7 104])
 (.seq (.reg [qr 106 (.ld true 4 (.t 3)),
 qr 107 (.call 14 [(1, (.t 106))]),
 qm 105 107,
 qr 108 (.ext (.t 105) 0),
 qr 109 (.ext (.t 105) 1),
 qr 16 (.al 37 [(.b false), (.l 1 []), (.i .i64 0), (.b false)]),
 qn (.st 4 (.t 16) (.t 108)),
 qm 10 109])
 (.seq (.seq (.reg [qr 110 (.ld true 4 (.t 15)),
 qr 111 (.ld true 4 (.t 16)),
 qr 112 (.call 16 [(1, (.t 110)), (1, (.t 111))]),
 qr 113 (.un .not (.t 112)),
 qm 114 113,
 ⟨some 115, some (114, false), .mv (.t 7)⟩,
 ⟨some 116, some (114, false), .mv (.t 10)⟩,
 ⟨some 117, some (114, false), .bin .neq (.t 115) (.t 116)⟩,
 qr 118 (.pick (.t 114) (.k (.b true)) (.t 117))])
 (.cond (.t 118)
 (.seq (.reg [qr 6 (.mv (.k (.b false)))])
 (.ret))
 (.skip)))
 (.seq (.reg [qr 120 (.ld true 3 (.t 4)),
 qm 121 2,
 qr 122 (.call 29 [(1, (.t 120)), (1, (.t 121))]),
 qm 119 122,
 qr 123 (.ext (.t 119) 0),
 qr 124 (.ext (.t 119) 1),
 qn (.st 4 (.t 15) (.t 123)),
 qm 7 124])
 (.seq (.reg [qr 126 (.ld true 3 (.t 4)),
 qm 127 2,
 qr 128 (.call 13 [(1, (.t 126)), (1, (.t 127))]),
 qm 125 128,
 qr 129 (.ext (.t 125) 0),
 qr 130 (.ext (.t 125) 1),
 qn (.st 4 (.t 16) (.t 129)),
 qm 10 130])
 (.seq (.seq (.reg [qr 131 (.ld true 4 (.t 15)),
 qr 132 (.ld true 4 (.t 16)),
 qr 133 (.call 16 [(1, (.t 131)), (1, (.t 132))]),
 qr 134 (.un .not (.t 133)),
 qm 135 134,
 ⟨some 136, some (135, false), .mv (.t 7)⟩,
 ⟨some 137, some (135, false), .mv (.t 10)⟩,
 ⟨some 138, some (135, false), .bin .neq (.t 136) (.t 137)⟩,
 qr 139 (.pick (.t 135) (.k (.b true)) (.t 138))])
 (.cond (.t 139)
 (.seq (.reg [qr 6 (.mv (.k (.b false)))])
 (.ret))
 (.skip)))
 (.seq (.reg [qr 141 (.ld true 3 (.t 4)),
 qr 142 (.call 30 [(1, (.t 141))]),
 qm 140 142,
 qr 143 (.ext (.t 140) 0),
 qr 144 (.ext (.t 140) 1),
 qm 17 143,
 qm 7 144])
 (.seq (.reg [qr 146 (.ld true 3 (.t 4)),
 qr 147 (.call 8 [(1, (.t 146))]),
 qm 145 147,
 qr 148 (.ext (.t 145) 0),
 qr 149 (.ext (.t 145) 1),
 qm 18 148,
 qm 10 149])
 (.seq (.reg [qr 151 (.ld true 4 (.t 3)),
 qr 152 (.call 31 [(1, (.t 151))]),
 qm 150 152,
 qr 153 (.ext (.t 150) 0),
 qr 154 (.ext (.t 150) 1),
 qm 19 153,
 qm 12 154])
 (.seq (.reg [qr 156 (.ld true 4 (.t 3)),
 qr 157 (.call 32 [(1, (.t 156))]),
 qm 155 157,
 qr 158 (.ext (.t 155) 0),
 qr 159 (.ext (.t 155) 1),
 qm 20 158,
 qm 21 159])
 (.seq (.reg [qm 160 17,
 qm 161 18,
 qr 162 (.bin .eql (.t 160) (.t 161)),
 qm 163 162,
 ⟨some 164, some (163, true), .mv (.t 7)⟩,
 ⟨some 165, some (163, true), .mv (.t 10)⟩,
 ⟨some 166, some (163, true), .bin .eql (.t 164) (.t 165)⟩,
 qr 167 (.pick (.t 163) (.t 166) (.k (.b false))),
 qm 168 167,
 ⟨some 169, some (168, true), .mv (.t 19)⟩,
 ⟨some 170, some (168, true), .mv (.t 20)⟩,
 ⟨some 171, some (168, true), .bin .eql (.t 169) (.t 170)⟩,
 qr 172 (.pick (.t 168) (.t 171) (.k (.b false))),
 qm 173 172,
 ⟨some 174, some (173, true), .mv (.t 12)⟩,
 ⟨some 175, some (173, true), .mv (.t 21)⟩,
 ⟨some 176, some (173, true), .bin .eql (.t 174) (.t 175)⟩,
 qr 177 (.pick (.t 173) (.t 176) (.k (.b false))),
 qm 6 177])
 (.ret))))))))))))))))))))))
set_option maxRecDepth 100000 in
theorem cellsNumbers_spec (s t : Bool) (a b d : List Nat) (k i : Int) (p : Bool) (ha : Wd a) (hb : Wd b) (hd : Wd d) (la : a.length ≤ 1100000) (lb : b.length ≤ 1100000) (ld : d.length ≤ 1100000) (k1 : -9223372036854775808 ≤ k) (k2 : k < 9223372036854775808) :
    AFun Tryz.prog J0 5 [cL s a k p, rL t b d, .i .i64 i] (.b true) := by
  have kn := cknown_spec
  have c1 := cnear_spec s a k p k1 k2
  generalize nrc k = k' at *
  obtain ⟨j, hj⟩ : ∃ j, j = nrc i := ⟨_, rfl⟩
  have e1 := rccheck_spec s a k' p
  obtain ⟨x1, x2, h1, h2⟩ := holds_both s a k' 1100000 p t b d ha la hb hd lb ld (by decide) (by decide)
  obtain ⟨u1, u2, u3, u4, u5, lu, u6, u7⟩ := up_both s a k' p ha la
  obtain ⟨o1, o2, o3, o4, o5, lo, o6, o7⟩ := of_both t b d j 1100000 hb hd lb ld (by decide) (by decide)
  obtain ⟨y1, y2, g1, g2⟩ := exp_both t b d 1100000 (by decide) hb hd lb ld
  have su := rcsame_true u1 u2 u3 u4 (by omega)
  have so := rcsame_true o1 o2 o3 o4 (by omega)
  have bb : (x1 == x1) = true := by cases x1 <;> rfl
  by_cases h0 : ckE k' = 0
  · rw [h0] at e1
    obtain ⟨q1, q2⟩ := ckE_z.1 h0
    obtain ⟨n, rfl⟩ : ∃ n : Nat, k' = (n : Int) := ⟨k'.toNat, by omega⟩
    obtain ⟨a1, a2, a3⟩ := cends_spec s a n 1100000 p (by omega) ha la (by decide) (by decide)
    obtain ⟨a4, a5⟩ := cmid_spec s a n 1100000 p (by omega) ha la (by decide) (by decide)
    obtain ⟨r1, _⟩ := rlow_spec s a n 1100000 p (by omega) ha la (by decide) (by decide)
    obtain ⟨r2, _⟩ := rhigh_spec s a n 1100000 p (by omega) ha la (by decide) (by decide)
    obtain ⟨r3, _⟩ := rmiddle_spec s a n 1100000 p (by omega) ha la (by decide) (by decide)
    have s1 := sameR3 a2 (by decide)
    have s2 := sameR3 a3 (by decide)
    have s3 := sameR3 a5 (by decide)
    have t1 := rcprint_spec s a n 1100000 p (by omega) ha la (by decide) (by decide)
    have t2 := cprint_spec s a n 1100000 p (by omega) ha la (by decide) (by decide)
    generalize cS (zv s a) n p = txt at *
    have t3 : (txt == txt) = true := beq_self_eq_true txt
    generalize (loQ (zv s a) n + loQ (hiN (zv s a) p) n) / 2 = M at *
    generalize loQ (zv s a) n = L at *
    generalize loQ (hiN (zv s a) p) n = H at *
    clear a2 a3 a5 h0
    by_cases c2 : 3000 < i
    · by_cases c3 : i ≤ 1048576
      · have hj2 : i.tmod 3000 = j := by rw [hj]; exact (if_pos ⟨c2, c3⟩).symm
        clear hj
        refine mkQ fol J0s Tryz.func5 a5 ?_
        unfold a5
        simp only [init_eq, initE, qm, qr, qn]
        have zc1 := r1
        have zc2 := r2
        have zc3 := r3
        have zc4 := u7
        have zc5 := u6
        have zc6 := o7
        have zc7 := o6
        have zc8 := g2
        have zc9 := g1
        exact wdQ (ai @hj2 (ai @c3 (ai @c2 (ai @t3 (ai @bb (ai @eqsA @bz_LCNumbers))))))
      · have hj2 : j = i := by rw [hj]; exact if_neg (by omega)
        subst hj2
        clear hj
        refine mkQ fol J0s Tryz.func5 a5 ?_
        unfold a5
        simp only [init_eq, initE, qm, qr, qn]
        have zc10 := r1
        have zc11 := r2
        have zc12 := r3
        have zc13 := u7
        have zc14 := u6
        have zc15 := o7
        have zc16 := o6
        have zc17 := g2
        have zc18 := g1
        exact wdQ (ai @c3 (ai @c2 (ai @t3 (ai @bb (ai @eqsA @bz_LCNumbers)))))
    · have hj2 : j = i := by rw [hj]; exact if_neg (by omega)
      subst hj2
      clear hj
      refine mkQ fol J0s Tryz.func5 a5 ?_
      unfold a5
      simp only [init_eq, initE, qm, qr, qn]
      have zc19 := r1
      have zc20 := r2
      have zc21 := r3
      have zc22 := u7
      have zc23 := u6
      have zc24 := o7
      have zc25 := o6
      have zc26 := g2
      have zc27 := g1
      exact wdQ (ai @c2 (ai @t3 (ai @bb (ai @eqsA @bz_LCNumbers))))
  · have a1 := cendsE_spec s a k' p h0
    have a4 := cmidE_spec s a k' p h0
    have t1 := rcprintE_spec s a k' p h0
    have t2 := cprintE_spec s a k' p h0
    generalize ckE k' = ek at *
    by_cases c2 : 3000 < i
    · by_cases c3 : i ≤ 1048576
      · have hj2 : i.tmod 3000 = j := by rw [hj]; exact (if_pos ⟨c2, c3⟩).symm
        clear hj
        refine mkQ fol J0s Tryz.func5 a5 ?_
        unfold a5
        simp only [init_eq, initE, qm, qr, qn]
        have zc28 := u7
        have zc29 := u6
        have zc30 := o7
        have zc31 := o6
        have zc32 := g2
        have zc33 := g1
        exact wdQ (ai @hj2 (ai @c3 (ai @c2 (ai @h0 (ai @bb (ai @eqsA @bz_LCNumbers))))))
      · have hj2 : j = i := by rw [hj]; exact if_neg (by omega)
        subst hj2
        clear hj
        refine mkQ fol J0s Tryz.func5 a5 ?_
        unfold a5
        simp only [init_eq, initE, qm, qr, qn]
        have zc34 := u7
        have zc35 := u6
        have zc36 := o7
        have zc37 := o6
        have zc38 := g2
        have zc39 := g1
        exact wdQ (ai @c3 (ai @c2 (ai @h0 (ai @bb (ai @eqsA @bz_LCNumbers)))))
    · have hj2 : j = i := by rw [hj]; exact if_neg (by omega)
      subst hj2
      clear hj
      refine mkQ fol J0s Tryz.func5 a5 ?_
      unfold a5
      simp only [init_eq, initE, qm, qr, qn]
      have zc40 := u7
      have zc41 := u6
      have zc42 := o7
      have zc43 := o6
      have zc44 := g2
      have zc45 := g1
      exact wdQ (ai @c2 (ai @h0 (ai @bb (ai @eqsA @bz_LCNumbers))))
end Go.Proofs.YtfcpigjmagbnkaaGreatDoor
