/-
  SurdField: the law's walk.
-/
import Derived.Test.YtgejbndgakgfnaaGreatDoorSF0
import Derived.Test.YtgejbndgakgfnaaGreatDoorQT5
import Derived.Test.YtgejbndgakgfnaaGreatDoorQ23
import Derived.Test.YtgejbndgakgfnaaGreatDoorQO
namespace Go.Proofs.YtgejbndgakgfnaaGreatDoor
open Go Go.RowKit Ab
set_option linter.unusedSimpArgs false
set_option linter.unusedVariables false
set_option maxHeartbeats 10000000
theorem bz_SF1 : type_of% (And.intro @W_len (And.intro @D_len (And.intro @Nat.div_one (And.intro @Nat.mul_one (And.intro @tn_nat (And.intro @W_nf (And.intro @D_nf (And.intro @W_nil (And.intro @D_nil (And.intro @wi (And.intro @nf_g (And.intro @Bool.false_and (@W_cell))))))))))))) := And.intro @W_len (And.intro @D_len (And.intro @Nat.div_one (And.intro @Nat.mul_one (And.intro @tn_nat (And.intro @W_nf (And.intro @D_nf (And.intro @W_nil (And.intro @D_nil (And.intro @wi (And.intro @nf_g (And.intro @Bool.false_and (@W_cell))))))))))))
theorem Rr_parts {v : V} {p : Rat} {m : Nat} (h : Rr v p m) : ∃ (s : Bool) (a d : List Nat), v = rL s a d ∧ a.length ≤ m ∧ d.length ≤ m := by
  obtain ⟨s, a, d, e, _, _, la, ld, _⟩ := h
  exact ⟨s, a, d, e, la, ld⟩
theorem qquo0 (s t : Bool) (a b d e : List Nat) (m : Nat) (hm : m ≤ 10000000) (ha : Wd a) (hb : Wd b) (hd : Wd d) (he : Wd e) (la : a.length ≤ m) (lb : b.length ≤ m) (ld : d.length ≤ m) (le : e.length ≤ m) (h : nv B d * nv B e ≠ 0) (h0 : zv t b = 0) :
    AFun Tryz.prog J0 34 [rL s a d, rL t b e] (.t [.g [.b false, .l 1 [], .l 1 []], .i .i64 1]) := by
  have := qquo_spec s t a b d e m hm ha hb hd he la lb ld le h
  rw [h0, Int.zero_mul, show (0 : Int).natAbs = 0 from rfl, rv_0, re_0] at this
  exact this
theorem cq_zero (q : Rat) : cq q 0 = 0 ↔ q = 0 := by unfold cq; grind
theorem cq_neg (p q : Rat) : (0 ≤ cq p q) = ¬ p < q := by
  unfold cq
  split
  · rename_i h; simp [h]
  · rename_i h
    split <;> simp [h]
theorem qdm (p q : Rat) (h : q ≠ 0) : p * q / q = p := by grind
theorem qpV_parts {z : Int} {d m : Nat} (hd : d ≠ 0) (hz : z.natAbs < B ^ m) (hdm : d < B ^ m) : (topT (bdT (qpV z d))).length ≤ 64 * m + 1 ∧ (undT (bdT (qpV z d))).length ≤ 64 * m + 1 := by
  have l1 := decS_len (Nat.lt_of_le_of_lt (rz_le' z d) hz)
  have l2 := decS_len (Nat.lt_of_le_of_lt (rden_le z d) hdm)
  rw [show qpV z d = qS (rz z d) (rden z d) from if_neg hd, (qS_bd _ _).2]
  split
  · obtain ⟨e1, _⟩ := parts_no (rz z d).natAbs
    rw [e1]
    refine ⟨l1, ?_⟩
    unfold undT
    rw [List.length_drop]; omega
  · obtain ⟨e1, e2, _⟩ := parts_two (rz z d).natAbs (rden z d)
    rw [e1, e2]
    exact ⟨l1, l2⟩
theorem qpV_tot {z : Int} {d m : Nat} (hz : z.natAbs < B ^ m) (hd : d < B ^ m) : (qpV z d).length ≤ 128 * m + 4 := by
  unfold qpV
  split
  · simp
  · have l1 := zS_len (Nat.lt_of_le_of_lt (rz_le' z d) hz)
    have l2 := decS_len (Nat.lt_of_le_of_lt (rden_le z d) hd)
    unfold qS
    split
    · omega
    · rw [List.length_append, List.length_cons]; omega
def a14 : AC := .seq (.reg [qr 3 (.bx 27 (.t 0)),
 qr 4 (.bx 27 (.t 1)),
 qr 5 (.bx 27 (.t 2)),
 qr 6 (.mv (.k (.b false)))])
 (.seq (.dreg [qr 26 (.ld true 3 (.t 3)),
 qr 27 (.call 9 [(1, (.t 26))]),
 qr 28 (.ld true 3 (.t 4)),
 qr 29 (.call 9 [(1, (.t 28))]),
 qr 30 (.call 12 [(1, (.t 27)), (1, (.t 29))]),
 qm 25 30,
 qr 31 (.ext (.t 25) 0),
 qr 32 (.ext (.t 25) 1),
 qr 7 (.al 27 [(.b false), (.l 1 []), (.l 1 [])]),
 qn (.st 3 (.t 7) (.t 31)),
 qm 8 32])
 (.seq (.reg [qr 34 (.ld true 3 (.t 7)),
 qr 35 (.call 30 [(1, (.t 34))]),
 qm 33 35,
 qr 36 (.ext (.t 33) 0),
 qr 37 (.ext (.t 33) 1),
 qm 9 36,
 qm 10 37])
 (.seq (.dreg [qr 39 (.ld true 3 (.t 3)),
 qr 40 (.call 9 [(1, (.t 39))]),
 qr 41 (.ld true 3 (.t 4)),
 qr 42 (.call 9 [(1, (.t 41))]),
 qr 43 (.call 31 [(1, (.t 40)), (1, (.t 42))]),
 qm 38 43,
 qr 44 (.ext (.t 38) 0),
 qr 45 (.ext (.t 38) 1),
 qm 11 44,
 qm 12 45])
 (.seq (.reg [qr 47 (.ld true 3 (.t 4)),
 qr 48 (.call 9 [(1, (.t 47))]),
 qr 49 (.call 30 [(1, (.t 48))]),
 qm 46 49,
 qr 50 (.ext (.t 46) 0),
 qr 51 (.ext (.t 46) 1),
 qm 13 50,
 qm 14 51])
 (.seq (.seq (.reg [qm 52 8,
 qr 53 (.bin .neq (.t 52) (.k (.i .i64 0))),
 qm 54 53,
 ⟨some 55, some (54, false), .mv (.t 10)⟩,
 ⟨some 56, some (54, false), .bin .neq (.t 55) (.k (.i .i64 0))⟩,
 qr 57 (.pick (.t 54) (.k (.b true)) (.t 56)),
 qm 58 57,
 ⟨some 59, some (58, false), .mv (.t 12)⟩,
 ⟨some 60, some (58, false), .bin .neq (.t 59) (.k (.i .i64 0))⟩,
 qr 61 (.pick (.t 58) (.k (.b true)) (.t 60)),
 qm 62 61,
 ⟨some 63, some (62, false), .mv (.t 14)⟩,
 ⟨some 64, some (62, false), .bin .neq (.t 63) (.k (.i .i64 0))⟩,
 qr 65 (.pick (.t 62) (.k (.b true)) (.t 64)),
 qm 66 65,
 ⟨some 67, some (66, false), .mv (.t 9)⟩,
 ⟨some 68, some (66, false), .mv (.t 11)⟩,
 ⟨some 69, some (66, false), .bin .neq (.t 67) (.t 68)⟩,
 qr 70 (.pick (.t 66) (.k (.b true)) (.t 69))])
 (.cond (.t 70)
 (.seq (.reg [qr 6 (.mv (.k (.b false)))])
 (.ret))
 (.skip)))
 (.seq (.reg [qr 72 (.ld true 3 (.t 3)),
 qr 73 (.call 9 [(1, (.t 72))]),
 qr 74 (.call 10 [(1, (.t 73))]),
 qm 71 74,
 qr 75 (.ext (.t 71) 0),
 qr 76 (.ext (.t 71) 1),
 qr 15 (.al 27 [(.b false), (.l 1 []), (.l 1 [])]),
 qn (.st 3 (.t 15) (.t 75)),
 qm 8 76])
 (.seq (.reg [qr 78 (.ld true 3 (.t 3)),
 qr 79 (.call 9 [(1, (.t 78))]),
 qr 80 (.call 32 [(1, (.t 79))]),
 qm 77 80,
 qr 81 (.ext (.t 77) 0),
 qr 82 (.ext (.t 77) 1),
 qm 16 81,
 qm 10 82])
 (.seq (.reg [qm 84 16,
 qr 85 (.call 33 [(1, (.t 84))]),
 qm 83 85,
 qr 86 (.ext (.t 83) 0),
 qr 87 (.ext (.t 83) 1),
 qr 17 (.al 27 [(.b false), (.l 1 []), (.l 1 [])]),
 qn (.st 3 (.t 17) (.t 86)),
 qm 12 87])
 (.seq (.seq (.reg [qm 88 8,
 qr 89 (.bin .neq (.t 88) (.k (.i .i64 0))),
 qm 90 89,
 ⟨some 91, some (90, false), .mv (.t 10)⟩,
 ⟨some 92, some (90, false), .bin .neq (.t 91) (.k (.i .i64 0))⟩,
 qr 93 (.pick (.t 90) (.k (.b true)) (.t 92)),
 qm 94 93,
 ⟨some 95, some (94, false), .mv (.t 12)⟩,
 ⟨some 96, some (94, false), .bin .neq (.t 95) (.k (.i .i64 0))⟩,
 qr 97 (.pick (.t 94) (.k (.b true)) (.t 96)),
 qm 98 97,
 ⟨some 99, some (98, false), .ld true 3 (.t 17)⟩,
 ⟨some 100, some (98, false), .ld true 3 (.t 15)⟩,
 ⟨some 101, some (98, false), .call 5 [(1, (.t 99)), (1, (.t 100))]⟩,
 ⟨some 102, some (98, false), .un .not (.t 101)⟩,
 qr 103 (.pick (.t 98) (.k (.b true)) (.t 102))])
 (.cond (.t 103)
 (.seq (.reg [qr 6 (.mv (.k (.b false)))])
 (.ret))
 (.skip)))
 (.seq (.dreg [qr 105 (.ld true 3 (.t 5)),
 qr 106 (.call 9 [(1, (.t 105))]),
 qr 107 (.ld true 3 (.t 4)),
 qr 108 (.call 9 [(1, (.t 107))]),
 qr 109 (.call 34 [(1, (.t 106)), (1, (.t 108))]),
 qm 104 109,
 qr 110 (.ext (.t 104) 0),
 qr 111 (.ext (.t 104) 1),
 qr 18 (.al 27 [(.b false), (.l 1 []), (.l 1 [])]),
 qn (.st 3 (.t 18) (.t 110)),
 qm 8 111])
 (.seq (.seq (.reg [qm 112 13,
 qr 113 (.bin .eql (.t 112) (.k (.i .i64 0)))])
 (.cond (.t 113)
 (.seq (.reg [qm 114 8,
 qr 115 (.bin .neq (.t 114) (.k (.i .i64 1)))])
 (.cond (.t 115)
 (.seq (.reg [qr 6 (.mv (.k (.b false)))])
 (.ret))
 (.skip)))
 (.seq (.reg [qm 116 8,
 qr 117 (.bin .neq (.t 116) (.k (.i .i64 0))),
 qm 118 117,
 ⟨some 119, some (118, false), .ld true 3 (.t 18)⟩,
 ⟨some 120, some (118, false), .ld true 3 (.t 15)⟩,
 ⟨some 121, some (118, false), .call 5 [(1, (.t 119)), (1, (.t 120))]⟩,
 ⟨some 122, some (118, false), .un .not (.t 121)⟩,
 qr 123 (.pick (.t 118) (.k (.b true)) (.t 122))])
 (.cond (.t 123)
 (.seq (.reg [qr 6 (.mv (.k (.b false)))])
 (.ret))
 (.skip)))))
 (.seq (.seq (.reg [qm 124 11,
 qr 125 (.bin .geq (.t 124) (.k (.i .i64 0)))])
 (.cond (.t 125)
 (.seq (.reg [qr 6 (.mv (.k (.b true)))])
 (.ret))
 (.skip)))
 (.seq (.dreg [qr 127 (.ld true 3 (.t 3)),
 qr 128 (.call 9 [(1, (.t 127))]),
 qr 129 (.ld true 3 (.t 4)),
 qr 130 (.call 9 [(1, (.t 129))]),
 qr 131 (.call 35 [(1, (.t 128)), (1, (.t 130))]),
 qm 126 131,
 qr 132 (.ext (.t 126) 0),
 qr 133 (.ext (.t 126) 1),
 qr 19 (.al 27 [(.b false), (.l 1 []), (.l 1 [])]),
 qn (.st 3 (.t 19) (.t 132)),
 qm 8 133])
 (.seq (.dreg [qr 135 (.ld true 3 (.t 3)),
 qr 136 (.call 9 [(1, (.t 135))]),
 qr 137 (.ld true 3 (.t 4)),
 qr 138 (.call 9 [(1, (.t 137))]),
 qr 139 (.call 36 [(1, (.t 136)), (1, (.t 138))]),
 qm 134 139,
 qr 140 (.ext (.t 134) 0),
 qr 141 (.ext (.t 134) 1),
 qr 20 (.al 27 [(.b false), (.l 1 []), (.l 1 [])]),
 qn (.st 3 (.t 20) (.t 140)),
 qm 10 141])
 (.seq (.seq (.reg [qm 142 8,
 qr 143 (.bin .neq (.t 142) (.k (.i .i64 0))),
 qm 144 143,
 ⟨some 145, some (144, false), .mv (.t 10)⟩,
 ⟨some 146, some (144, false), .bin .neq (.t 145) (.k (.i .i64 0))⟩,
 qr 147 (.pick (.t 144) (.k (.b true)) (.t 146))])
 (.cond (.t 147)
 (.seq (.reg [qr 6 (.mv (.k (.b false)))])
 (.ret))
 (.skip)))
 (.seq (.dreg [qr 149 (.ld true 3 (.t 3)),
 qr 150 (.call 9 [(1, (.t 149))]),
 qr 151 (.ld true 3 (.t 19)),
 qr 152 (.call 31 [(1, (.t 150)), (1, (.t 151))]),
 qm 148 152,
 qr 153 (.ext (.t 148) 0),
 qr 154 (.ext (.t 148) 1),
 qm 21 153,
 qm 8 154])
 (.seq (.dreg [qr 156 (.ld true 3 (.t 19)),
 qr 157 (.call 9 [(1, (.t 156))]),
 qr 158 (.ld true 3 (.t 4)),
 qr 159 (.call 9 [(1, (.t 158))]),
 qr 160 (.call 31 [(1, (.t 157)), (1, (.t 159))]),
 qm 155 160,
 qr 161 (.ext (.t 155) 0),
 qr 162 (.ext (.t 155) 1),
 qm 22 161,
 qm 10 162])
 (.seq (.dreg [qr 164 (.ld true 3 (.t 3)),
 qr 165 (.call 9 [(1, (.t 164))]),
 qr 166 (.ld true 3 (.t 20)),
 qr 167 (.call 31 [(1, (.t 165)), (1, (.t 166))]),
 qm 163 167,
 qr 168 (.ext (.t 163) 0),
 qr 169 (.ext (.t 163) 1),
 qm 23 168,
 qm 12 169])
 (.seq (.dreg [qr 171 (.ld true 3 (.t 20)),
 qr 172 (.call 9 [(1, (.t 171))]),
 qr 173 (.ld true 3 (.t 4)),
 qr 174 (.call 9 [(1, (.t 173))]),
 qr 175 (.call 31 [(1, (.t 172)), (1, (.t 174))]),
 qm 170 175,
 qr 176 (.ext (.t 170) 0),
 qr 177 (.ext (.t 170) 1),
 qm 24 176,
 qm 14 177])
 (.seq (.reg [qm 178 8,
 qr 179 (.bin .eql (.t 178) (.k (.i .i64 0))),
 qm 180 179,
 ⟨some 181, some (180, true), .mv (.t 10)⟩,
 ⟨some 182, some (180, true), .bin .eql (.t 181) (.k (.i .i64 0))⟩,
 qr 183 (.pick (.t 180) (.t 182) (.k (.b false))),
 qm 184 183,
 ⟨some 185, some (184, true), .mv (.t 12)⟩,
 ⟨some 186, some (184, true), .bin .eql (.t 185) (.k (.i .i64 0))⟩,
 qr 187 (.pick (.t 184) (.t 186) (.k (.b false))),
 qm 188 187,
 ⟨some 189, some (188, true), .mv (.t 14)⟩,
 ⟨some 190, some (188, true), .bin .eql (.t 189) (.k (.i .i64 0))⟩,
 qr 191 (.pick (.t 188) (.t 190) (.k (.b false))),
 qm 192 191,
 ⟨some 193, some (192, true), .mv (.t 21)⟩,
 ⟨some 194, some (192, true), .bin .lss (.t 193) (.k (.i .i64 0))⟩,
 qr 195 (.pick (.t 192) (.t 194) (.k (.b false))),
 qm 196 195,
 ⟨some 197, some (196, true), .mv (.t 22)⟩,
 ⟨some 198, some (196, true), .bin .lss (.t 197) (.k (.i .i64 0))⟩,
 qr 199 (.pick (.t 196) (.t 198) (.k (.b false))),
 qm 200 199,
 ⟨some 201, some (200, true), .mv (.t 23)⟩,
 ⟨some 202, some (200, true), .bin .leq (.t 201) (.k (.i .i64 0))⟩,
 qr 203 (.pick (.t 200) (.t 202) (.k (.b false))),
 qm 204 203,
 ⟨some 205, some (204, true), .mv (.t 24)⟩,
 ⟨some 206, some (204, true), .bin .leq (.t 205) (.k (.i .i64 0))⟩,
 qr 207 (.pick (.t 204) (.t 206) (.k (.b false))),
 qm 6 207])
 (.ret)))))))))))))))))))))
theorem tfo_spec (s t us : Bool) (a b d e ua ud : List Nat) (m : Nat) (hm : m ≤ 1100000) (hm1 : 16385 ≤ m) (ha : Wd a) (hb : Wd b) (hd : Wd d) (he : Wd e) (la : a.length ≤ m) (lb : b.length ≤ m) (ld : d.length ≤ m) (le : e.length ≤ m) (h0 : nv B d ≠ 0) (k0 : nv B e ≠ 0)
    (wu : Wd ua) (wd : Wd ud) (lu : ua.length ≤ m + m) (lud : ud.length ≤ m + m) (u0 : nv B ud ≠ 0) (hu : mkRat (zv us ua) (nv B ud) = mkRat (zv s a) (nv B d) * mkRat (zv t b) (nv B e)) :
    AFun Tryz.prog J0 14 [rL s a d, rL t b e, rL us ua ud] (.b true) := by
  have hv := Rr_raw (s := s) ha hd la ld h0
  have hw := Rr_raw (s := t) hb he lb le k0
  have cA := tcopyR_spec s a d (by omega) (by omega)
  have cB := tcopyR_spec t b e (by omega) (by omega)
  have cU := tcopyR_spec us ua ud (by omega) (by omega)
  have hzb := zv_lt (s := s) ha la
  have hdb := nvlt hd ld
  obtain ⟨d1, d2⟩ := qsubR hv hw (by omega)
  have s1 := qsignR d2 (by omega)
  rw [cq_sub] at s1
  obtain ⟨ds, da, dd, de, _, _⟩ := Rr_parts d2
  rw [de] at d1 s1
  have c1 := qcmpR hv hw (by omega)
  have s2 := qsignR hw (by omega)
  obtain ⟨n1, n2⟩ := qnormR hv (by omega)
  have p1 := qprint_spec s a d m (by omega) ha hd la ld
  rw [re_p h0] at p1
  have t1 := qpV_tot hzb hdb
  obtain ⟨t2, t3⟩ := qpV_parts h0 hzb hdb
  have b1 := qparse_spec (qpV (zv s a) (nv B d)) (by omega) (by omega) (by omega)
  obtain ⟨pb1, pb2⟩ := pq_back (z := zv s a) h0
  rw [pb1, pb2, r_num h0, r_den h0] at b1
  have sm1 := tsameQ n2 (by omega)
  have qz : mkRat (zv t b) (nv B e) = 0 ↔ zv t b = 0 := by
    have := Rat.mkRat_ne_zero (n := zv t b) k0
    exact ⟨fun h => Classical.byContradiction fun hn => this.2 hn h, fun h => Classical.byContradiction fun hn => this.1 hn h⟩
  have hle : mkRat (zv s a) (nv B d) < mkRat (zv t b) (nv B e) → zv s a * (nv B e : Int) ≤ zv t b * (nv B d : Int) := fun h => Int.le_of_lt ((lt_q h0 k0).1 h)
  have hU : Rr (rL us ua ud) (mkRat (zv s a) (nv B d) * mkRat (zv t b) (nv B e)) (m + m) := ⟨us, ua, ud, rfl, wu, wd, lu, lud, u0, hu⟩
  have quo := fun hq => qquoR hU (Rr_up hw (by omega : m ≤ m + m)) (by omega) hq
  have quo0 := qquo0 us t ua b ud e (m + m) (by omega) wu hb wd he lu (by omega) lud (by omega) (Nat.mul_ne_zero u0 k0)
  obtain ⟨i1, i2⟩ := qmidR hv hw (by omega)
  have x1 := fun hle => qsimp_spec s t a b d e m hm (by omega) ha hb hd he la lb ld le h0 k0 hle
  have hs := fun hle => smp_law (rden_pos (z := zv s a) h0) (rden_pos (z := zv t b) k0) (r_co _ h0) (r_co _ k0) ((r_le h0 k0).2 hle)
  have bz : (rz (zv s a) (nv B d)).natAbs < B ^ m := Nat.lt_of_le_of_lt (rz_le' _ _) hzb
  have bd : rden (zv s a) (nv B d) < B ^ m := Nat.lt_of_le_of_lt (rden_le _ _) hdb
  have lo := fun (x : Int) (y : Nat) (hy : y ≠ 0) h => (le_q h0 hy).2 ((rz_le (zv s a) x y h0).1 h)
  have hi := fun (x : Int) (y : Nat) (hy : y ≠ 0) h => (le_q hy k0).2 ((rz_ge (zv t b) x y k0).1 h)
  generalize smp (rz (zv s a) (nv B d)) (rden (zv s a) (nv B d)) (rz (zv t b) (nv B e)) (rden (zv t b) (nv B e)) = tt at *
  generalize qpV (zv s a) (nv B d) = tx at *
  generalize mkRat (zv s a) (nv B d) = p at *
  generalize mkRat (zv t b) (nv B e) = q at *
  obtain ⟨ns, na, nd, ne, _, _⟩ := Rr_parts n2
  rw [ne] at n1 b1 sm1
  have z1 := cq_zero q
  have g1 := cq_neg p q
  by_cases hq : q = 0
  · have hqf : cq q 0 = 0 := z1.2 hq
    have q1 := quo0 (qz.1 hq)
    generalize cq q 0 = cz0 at *
    by_cases hc : 0 ≤ cq p q
    · generalize cq p q = c at *
      refine mkQ fol J0s Tryz.func14 a14 ?_
      unfold a14
      simp only [init_eq, initE, qm, qr, qn]
      have zc1 := d1
      have zc2 := n1
      exact wdQ (ai @hc (ai @hqf @bz_SF1))
    · have hpq : p < q := by
        rcases Classical.em (p < q) with h | h
        · exact h
        · exact absurd (g1.mpr h) hc
      have hneg : cq p q < 0 := by omega
      have hle' := hle hpq
      have y1 := x1 hle'
      have y2 := hs hle'
      have hp1 : (mkRat tt.1 tt.2).num = tt.1 := by rw [← r_num y2.n0]; exact rzN_co y2.co
      have hp2 : (mkRat tt.1 tt.2).den = tt.2 := by rw [← r_den y2.n0]; exact rdenN_co y2.co
      have hS : Rr (rN tt.1 tt.2) (mkRat tt.1 tt.2) m := by
        have := Rr_c (p := mkRat tt.1 tt.2) (m := m) (by rw [hp1]; exact Nat.lt_of_le_of_lt y2.bn bz) (by rw [hp2]; exact Nat.lt_of_le_of_lt y2.bd bd)
        rwa [hp1, hp2] at this
      have k2 := qcmpR hv hS (by omega)
      have k3 := qcmpR hS hw (by omega)
      have g2 : cq p (mkRat tt.1 tt.2) ≤ 0 := by rw [cq_le]; exact lo _ _ y2.n0 y2.lo
      have g3 : cq (mkRat tt.1 tt.2) q ≤ 0 := by rw [cq_le]; exact hi _ _ y2.n0 y2.hi
      have k4 := qcmpR (Rr_up hv (by omega : m ≤ m + m + 1)) i2 (by omega)
      have k5 := qcmpR i2 (Rr_up hw (by omega : m ≤ m + m + 1)) (by omega)
      rw [cq_mid1] at k4
      rw [cq_mid2] at k5
      obtain ⟨is', ia, id', ie, il1, il2⟩ := Rr_parts i2
      rw [ie] at i1 k4 k5
      obtain ⟨ss, sa, sd, se, sl1, sl2⟩ := Rr_parts hS
      rw [se] at y1 k2 k3
      have cM := tcopyR_spec is' ia id' (by omega) (by omega)
      have cN := tcopyR_spec ss sa sd (by omega) (by omega)
      generalize cq p (mkRat tt.1 tt.2) = w1 at *
      generalize cq (mkRat tt.1 tt.2) q = w2 at *
      generalize cq p q = c at *
      refine mkQ fol J0s Tryz.func14 a14 ?_
      unfold a14
      simp only [init_eq, initE, qm, qr, qn]
      have zc3 := d1
      have zc4 := n1
      have zc5 := i1
      exact wdQ (ai @g3 (ai @g2 (ai @hneg (ai @hc (ai @hqf @bz_SF1)))))
  · have hqf : ¬ cq q 0 = 0 := fun h => hq (z1.1 h)
    obtain ⟨q1, _⟩ := quo hq
    rw [qdm p q hq, ne] at q1
    generalize cq q 0 = cz0 at *
    by_cases hc : 0 ≤ cq p q
    · generalize cq p q = c at *
      refine mkQ fol J0s Tryz.func14 a14 ?_
      unfold a14
      simp only [init_eq, initE, qm, qr, qn]
      have zc6 := d1
      have zc7 := n1
      exact wdQ (ai @hc (ai @hqf @bz_SF1))
    · have hpq : p < q := by
        rcases Classical.em (p < q) with h | h
        · exact h
        · exact absurd (g1.mpr h) hc
      have hneg : cq p q < 0 := by omega
      have hle' := hle hpq
      have y1 := x1 hle'
      have y2 := hs hle'
      have hp1 : (mkRat tt.1 tt.2).num = tt.1 := by rw [← r_num y2.n0]; exact rzN_co y2.co
      have hp2 : (mkRat tt.1 tt.2).den = tt.2 := by rw [← r_den y2.n0]; exact rdenN_co y2.co
      have hS : Rr (rN tt.1 tt.2) (mkRat tt.1 tt.2) m := by
        have := Rr_c (p := mkRat tt.1 tt.2) (m := m) (by rw [hp1]; exact Nat.lt_of_le_of_lt y2.bn bz) (by rw [hp2]; exact Nat.lt_of_le_of_lt y2.bd bd)
        rwa [hp1, hp2] at this
      have k2 := qcmpR hv hS (by omega)
      have k3 := qcmpR hS hw (by omega)
      have g2 : cq p (mkRat tt.1 tt.2) ≤ 0 := by rw [cq_le]; exact lo _ _ y2.n0 y2.lo
      have g3 : cq (mkRat tt.1 tt.2) q ≤ 0 := by rw [cq_le]; exact hi _ _ y2.n0 y2.hi
      have k4 := qcmpR (Rr_up hv (by omega : m ≤ m + m + 1)) i2 (by omega)
      have k5 := qcmpR i2 (Rr_up hw (by omega : m ≤ m + m + 1)) (by omega)
      rw [cq_mid1] at k4
      rw [cq_mid2] at k5
      obtain ⟨is', ia, id', ie, il1, il2⟩ := Rr_parts i2
      rw [ie] at i1 k4 k5
      obtain ⟨ss, sa, sd, se, sl1, sl2⟩ := Rr_parts hS
      rw [se] at y1 k2 k3
      have cM := tcopyR_spec is' ia id' (by omega) (by omega)
      have cN := tcopyR_spec ss sa sd (by omega) (by omega)
      generalize cq p (mkRat tt.1 tt.2) = w1 at *
      generalize cq (mkRat tt.1 tt.2) q = w2 at *
      generalize cq p q = c at *
      refine mkQ fol J0s Tryz.func14 a14 ?_
      unfold a14
      simp only [init_eq, initE, qm, qr, qn]
      have zc8 := d1
      have zc9 := n1
      have zc10 := i1
      exact wdQ (ai @g3 (ai @g2 (ai @hneg (ai @hc (ai @hqf @bz_SF1)))))
def a3 : AC := .seq (.reg [qr 3 (.bx 27 (.t 0)),
 qr 4 (.bx 27 (.t 1)),
 qr 5 (.bx 27 (.t 2)),
 qr 6 (.mv (.k (.b false)))])
 (.seq (.reg [qr 23 (.call 4 [(1, (.k (.i .i64 2))), (1, (.k (.i .i64 4)))]),
 qm 22 23,
 qr 24 (.ext (.t 22) 0),
 qr 25 (.ext (.t 22) 1),
 qr 7 (.al 27 [(.b false), (.l 1 []), (.l 1 [])]),
 qn (.st 3 (.t 7) (.t 24)),
 qm 8 25])
 (.seq (.seq (.dregx [(7, 30), (7, 31)] [qm 26 8,
 qr 27 (.bin .neq (.t 26) (.k (.i .i64 0))),
 qm 28 27,
 ⟨some 29, some (28, false), .ld true 3 (.t 7)⟩,
 ⟨some 30, some (28, false), .call 6 [(1, (.k (.i .i64 1)))]⟩,
 ⟨some 31, some (28, false), .bsl 33 1 1 [(.i .u64 0)] [(0, (.k (.i .u64 2)))]⟩,
 ⟨some 32, some (28, false), .bld [(.b false), (.l 1 []), (.l 1 [])] [(0, 2, (.t 30)), (2, 1, (.t 31))]⟩,
 ⟨some 33, some (28, false), .call 5 [(1, (.t 29)), (1, (.t 32))]⟩,
 ⟨some 34, some (28, false), .un .not (.t 33)⟩,
 qr 35 (.pick (.t 28) (.k (.b true)) (.t 34))])
 (.cond (.t 35)
 (.seq (.reg [qr 6 (.mv (.k (.b false)))])
 (.ret))
 (.skip)))
 (.seq (.seq (.reg [qr 36 (.ld true 3 (.t 3)),
 qr 37 (.call 7 [(1, (.t 36))]),
 qr 38 (.un .not (.t 37)),
 qm 39 38,
 ⟨some 40, some (39, false), .ld true 3 (.t 4)⟩,
 ⟨some 41, some (39, false), .call 7 [(1, (.t 40))]⟩,
 ⟨some 42, some (39, false), .un .not (.t 41)⟩,
 qr 43 (.pick (.t 39) (.k (.b true)) (.t 42)),
 qm 44 43,
 ⟨some 45, some (44, false), .ld true 3 (.t 5)⟩,
 ⟨some 46, some (44, false), .call 7 [(1, (.t 45))]⟩,
 ⟨some 47, some (44, false), .un .not (.t 46)⟩,
 qr 48 (.pick (.t 44) (.k (.b true)) (.t 47))])
 (.cond (.t 48)
 (.seq (.dreg [qr 50 (.ld true 3 (.t 3)),
 qr 51 (.call 9 [(1, (.t 50))]),
 qr 52 (.ld true 3 (.t 4)),
 qr 53 (.call 9 [(1, (.t 52))]),
 qr 54 (.ld true 3 (.t 5)),
 qr 55 (.call 9 [(1, (.t 54))]),
 qr 56 (.bsl 27 3 3 [(.b false), (.l 1 []), (.l 1 []), (.b false), (.l 1 []), (.l 1 []), (.b false), (.l 1 []), (.l 1 [])] [(0, (.t 51)), (1, (.t 53)), (2, (.t 55))]),
 qr 57 (.call 8 [(3, (.t 56))]),
 qm 49 57,
 qr 58 (.ext (.t 49) 0),
 qr 59 (.ext (.t 49) 1),
 qr 9 (.al 27 [(.b false), (.l 1 []), (.l 1 [])]),
 qn (.st 3 (.t 9) (.t 58)),
 qm 10 59])
 (.seq (.reg [qm 60 10,
 qr 61 (.bin .eql (.t 60) (.k (.i .i64 1))),
 qm 6 61])
 (.ret)))
 (.skip)))
 (.seq (.reg [qr 63 (.ld true 3 (.t 3)),
 qr 64 (.call 9 [(1, (.t 63))]),
 qr 65 (.call 10 [(1, (.t 64))]),
 qm 62 65,
 qr 66 (.ext (.t 62) 0),
 qr 67 (.ext (.t 62) 1),
 qr 11 (.al 27 [(.b false), (.l 1 []), (.l 1 [])]),
 qn (.st 3 (.t 11) (.t 66)),
 qm 8 67])
 (.seq (.dreg [qr 69 (.ld true 3 (.t 3)),
 qr 70 (.call 9 [(1, (.t 69))]),
 qr 71 (.ld true 3 (.t 4)),
 qr 72 (.call 9 [(1, (.t 71))]),
 qr 73 (.call 11 [(1, (.t 70)), (1, (.t 72))]),
 qm 68 73,
 qr 74 (.ext (.t 68) 0),
 qr 75 (.ext (.t 68) 1),
 qr 12 (.al 27 [(.b false), (.l 1 []), (.l 1 [])]),
 qn (.st 3 (.t 12) (.t 74)),
 qm 13 75])
 (.seq (.seq (.reg [qm 76 8,
 qr 77 (.bin .neq (.t 76) (.k (.i .i64 0))),
 qm 78 77,
 ⟨some 79, some (78, false), .mv (.t 13)⟩,
 ⟨some 80, some (78, false), .bin .neq (.t 79) (.k (.i .i64 0))⟩,
 qr 81 (.pick (.t 78) (.k (.b true)) (.t 80))])
 (.cond (.t 81)
 (.seq (.reg [qr 6 (.mv (.k (.b false)))])
 (.ret))
 (.skip)))
 (.seq (.dreg [qr 83 (.ld true 3 (.t 12)),
 qr 84 (.call 9 [(1, (.t 83))]),
 qr 85 (.ld true 3 (.t 4)),
 qr 86 (.call 9 [(1, (.t 85))]),
 qr 87 (.call 12 [(1, (.t 84)), (1, (.t 86))]),
 qm 82 87,
 qr 88 (.ext (.t 82) 0),
 qr 89 (.ext (.t 82) 1),
 qr 14 (.al 27 [(.b false), (.l 1 []), (.l 1 [])]),
 qn (.st 3 (.t 14) (.t 88)),
 qm 8 89])
 (.seq (.seq (.reg [qm 90 8,
 qr 91 (.bin .neq (.t 90) (.k (.i .i64 0))),
 qm 92 91,
 ⟨some 93, some (92, false), .ld true 3 (.t 14)⟩,
 ⟨some 94, some (92, false), .ld true 3 (.t 11)⟩,
 ⟨some 95, some (92, false), .call 5 [(1, (.t 93)), (1, (.t 94))]⟩,
 ⟨some 96, some (92, false), .un .not (.t 95)⟩,
 qr 97 (.pick (.t 92) (.k (.b true)) (.t 96))])
 (.cond (.t 97)
 (.seq (.reg [qr 6 (.mv (.k (.b false)))])
 (.ret))
 (.skip)))
 (.seq (.dreg [qr 99 (.ld true 3 (.t 4)),
 qr 100 (.call 9 [(1, (.t 99))]),
 qr 101 (.ld true 3 (.t 5)),
 qr 102 (.call 9 [(1, (.t 101))]),
 qr 103 (.call 11 [(1, (.t 100)), (1, (.t 102))]),
 qm 98 103,
 qr 104 (.ext (.t 98) 0),
 qr 105 (.ext (.t 98) 1),
 qr 15 (.al 27 [(.b false), (.l 1 []), (.l 1 [])]),
 qn (.st 3 (.t 15) (.t 104)),
 qm 8 105])
 (.seq (.dreg [qr 107 (.ld true 3 (.t 3)),
 qr 108 (.call 9 [(1, (.t 107))]),
 qr 109 (.ld true 3 (.t 15)),
 qr 110 (.call 9 [(1, (.t 109))]),
 qr 111 (.call 13 [(1, (.t 108)), (1, (.t 110))]),
 qm 106 111,
 qr 112 (.ext (.t 106) 0),
 qr 113 (.ext (.t 106) 1),
 qr 16 (.al 27 [(.b false), (.l 1 []), (.l 1 [])]),
 qn (.st 3 (.t 16) (.t 112)),
 qm 13 113])
 (.seq (.dreg [qr 115 (.ld true 3 (.t 3)),
 qr 116 (.call 9 [(1, (.t 115))]),
 qr 117 (.ld true 3 (.t 4)),
 qr 118 (.call 9 [(1, (.t 117))]),
 qr 119 (.call 13 [(1, (.t 116)), (1, (.t 118))]),
 qm 114 119,
 qr 120 (.ext (.t 114) 0),
 qr 121 (.ext (.t 114) 1),
 qr 17 (.al 27 [(.b false), (.l 1 []), (.l 1 [])]),
 qn (.st 3 (.t 17) (.t 120)),
 qm 18 121])
 (.seq (.dreg [qr 123 (.ld true 3 (.t 3)),
 qr 124 (.call 9 [(1, (.t 123))]),
 qr 125 (.ld true 3 (.t 5)),
 qr 126 (.call 9 [(1, (.t 125))]),
 qr 127 (.call 13 [(1, (.t 124)), (1, (.t 126))]),
 qm 122 127,
 qr 128 (.ext (.t 122) 0),
 qr 129 (.ext (.t 122) 1),
 qr 19 (.al 27 [(.b false), (.l 1 []), (.l 1 [])]),
 qn (.st 3 (.t 19) (.t 128)),
 qm 20 129])
 (.seq (.seq (.reg [qm 130 8,
 qr 131 (.bin .neq (.t 130) (.k (.i .i64 0))),
 qm 132 131,
 ⟨some 133, some (132, false), .mv (.t 13)⟩,
 ⟨some 134, some (132, false), .bin .neq (.t 133) (.k (.i .i64 0))⟩,
 qr 135 (.pick (.t 132) (.k (.b true)) (.t 134)),
 qm 136 135,
 ⟨some 137, some (136, false), .mv (.t 18)⟩,
 ⟨some 138, some (136, false), .bin .neq (.t 137) (.k (.i .i64 0))⟩,
 qr 139 (.pick (.t 136) (.k (.b true)) (.t 138)),
 qm 140 139,
 ⟨some 141, some (140, false), .mv (.t 20)⟩,
 ⟨some 142, some (140, false), .bin .neq (.t 141) (.k (.i .i64 0))⟩,
 qr 143 (.pick (.t 140) (.k (.b true)) (.t 142))])
 (.cond (.t 143)
 (.seq (.reg [qr 6 (.mv (.k (.b false)))])
 (.ret))
 (.skip)))
 (.seq (.dreg [qr 145 (.ld true 3 (.t 17)),
 qr 146 (.call 9 [(1, (.t 145))]),
 qr 147 (.ld true 3 (.t 19)),
 qr 148 (.call 11 [(1, (.t 146)), (1, (.t 147))]),
 qm 144 148,
 qr 149 (.ext (.t 144) 0),
 qr 150 (.ext (.t 144) 1),
 qr 21 (.al 27 [(.b false), (.l 1 []), (.l 1 [])]),
 qn (.st 3 (.t 21) (.t 149)),
 qm 8 150])
 (.seq (.seq (.reg [qm 151 8,
 qr 152 (.bin .neq (.t 151) (.k (.i .i64 0))),
 qm 153 152,
 ⟨some 154, some (153, false), .ld true 3 (.t 16)⟩,
 ⟨some 155, some (153, false), .ld true 3 (.t 21)⟩,
 ⟨some 156, some (153, false), .call 5 [(1, (.t 154)), (1, (.t 155))]⟩,
 ⟨some 157, some (153, false), .un .not (.t 156)⟩,
 qr 158 (.pick (.t 153) (.k (.b true)) (.t 157))])
 (.cond (.t 158)
 (.seq (.reg [qr 6 (.mv (.k (.b false)))])
 (.ret))
 (.skip)))
 (.seq (.reg [qr 159 (.ld true 3 (.t 3)),
 qr 160 (.ld true 3 (.t 4)),
 qr 161 (.ld true 3 (.t 17)),
 qr 162 (.call 14 [(1, (.t 159)), (1, (.t 160)), (1, (.t 161))]),
 qm 6 162])
 (.ret)))))))))))))))))
theorem surdField_spec (s t r : Bool) (a b c d e f : List Nat) (m : Nat) (hm : m ≤ 1100000) (hm1 : 16385 ≤ m) (ha : Wd a) (hb : Wd b) (hc : Wd c) (hd : Wd d) (he : Wd e) (hf : Wd f) (la : a.length ≤ m) (lb : b.length ≤ m) (lc : c.length ≤ m) (ld : d.length ≤ m) (le : e.length ≤ m) (lf : f.length ≤ m) :
    AFun Tryz.prog J0 3 [rL s a d, rL t b e, rL r c f] (.b true) := by
  have o1 := qof_spec 2 4 (by decide) (by decide) (by decide) (by decide)
  rw [show rv (mz 2 4) (4 : Int).natAbs = .g [.b false, .l 1 [.i .u64 1], .l 1 [.i .u64 2]] from by kernel_rfl, show re (4 : Int).natAbs = 0 from rfl] at o1
  have o2 := twhole1
  have o3 : AFun Tryz.prog J0 5 [.g [.b false, .l 1 [.i .u64 1], .l 1 [.i .u64 2]], .g [.b false, .l 1 [.i .u64 1], .l 1 [.i .u64 2]]] (.b true) := tsameR_spec false [1] [2] (by simp) (by simp)
  have cA := tcopyR_spec s a d (by omega) (by omega)
  have cB := tcopyR_spec t b e (by omega) (by omega)
  have cC := tcopyR_spec r c f (by omega) (by omega)
  have m1 := tmeans_spec s a d hd (by omega)
  have m2 := tmeans_spec t b e he (by omega)
  have m3 := tmeans_spec r c f hf (by omega)
  have hce := ce_01 [(s, a, d), (t, b, e), (r, c, f)]
  have hsum := fun hc => qsum_err [(s, a, d), (t, b, e), (r, c, f)] (by simp) (by
    intro p hp
    simp only [List.mem_cons, List.not_mem_nil, or_false] at hp
    rcases hp with rfl | rfl | rfl
    · exact ⟨hd, by simp only; omega⟩
    · exact ⟨he, by simp only; omega⟩
    · exact ⟨hf, by simp only; omega⟩) hc
  have bad : ce [(s, a, d), (t, b, e), (r, c, f)] = 0 → nv B d ≠ 0 ∧ nv B e ≠ 0 ∧ nv B f ≠ 0 := fun h => ⟨ce_0 h (i := 0) (by simp), ce_0 h (i := 1) (by simp), ce_0 h (i := 2) (by simp)⟩
  have rc : RC [(s, a, d), (t, b, e), (r, c, f)] = [.b s, .l 1 (W a), .l 1 (W d), .b t, .l 1 (W b), .l 1 (W e), .b r, .l 1 (W c), .l 1 (W f)] := rfl
  by_cases h0 : nv B d = 0
  · have x1 := hsum (hce.resolve_left fun h => (bad h).1 h0)
    rw [rc] at x1
    rw [show decide (nv B d ≠ 0) = false from decide_eq_false fun h => h h0] at m1
    refine mkQ fol J0s Tryz.func3 a3 ?_
    unfold a3
    simp only [init_eq, initE, qm, qr, qn]
    exact wdQ @bz_SF1
  · rw [show decide (nv B d ≠ 0) = true from decide_eq_true h0] at m1
    by_cases k0 : nv B e = 0
    · have x1 := hsum (hce.resolve_left fun h => (bad h).2.1 k0)
      rw [rc] at x1
      rw [show decide (nv B e ≠ 0) = false from decide_eq_false fun h => h k0] at m2
      refine mkQ fol J0s Tryz.func3 a3 ?_
      unfold a3
      simp only [init_eq, initE, qm, qr, qn]
      exact wdQ @bz_SF1
    · rw [show decide (nv B e ≠ 0) = true from decide_eq_true k0] at m2
      by_cases j0 : nv B f = 0
      · have x1 := hsum (hce.resolve_left fun h => (bad h).2.2 j0)
        rw [rc] at x1
        rw [show decide (nv B f ≠ 0) = false from decide_eq_false fun h => h j0] at m3
        refine mkQ fol J0s Tryz.func3 a3 ?_
        unfold a3
        simp only [init_eq, initE, qm, qr, qn]
        exact wdQ @bz_SF1
      · rw [show decide (nv B f ≠ 0) = true from decide_eq_true j0] at m3
        have hv := Rr_raw (s := s) ha hd la ld h0
        have hw := Rr_raw (s := t) hb he lb le k0
        have hx := Rr_raw (s := r) hc hf lc lf j0
        have fo := fun us ua ud => tfo_spec s t us a b d e ua ud m hm hm1 ha hb hd he la lb ld le h0 k0
        generalize mkRat (zv s a) (nv B d) = p at *
        generalize mkRat (zv t b) (nv B e) = q at *
        generalize mkRat (zv r c) (nv B f) = u at *
        obtain ⟨n1, n2⟩ := qnormR hv (by omega)
        obtain ⟨a1, a2⟩ := qaddR hv hw (by omega)
        obtain ⟨b1, b2⟩ := qsubR a2 (Rr_up hw (by omega : m ≤ m + m + 1)) (by omega)
        rw [show p + q - q = p from by grind] at b1
        have sm1 := tsameQ n2 (by omega)
        obtain ⟨c1, c2⟩ := qaddR hw hx (by omega)
        obtain ⟨d1, d2⟩ := qmulR (Rr_up hv (by omega : m ≤ m + m + 1)) c2 (by omega)
        obtain ⟨e1, e2⟩ := qmulR hv hw (by omega)
        obtain ⟨f1, f2⟩ := qmulR hv hx (by omega)
        obtain ⟨g1, g2⟩ := qaddR e2 f2 (by omega)
        rw [show p * q + p * u = p * (q + u) from by grind] at g1
        have sm2 := tsameQ d2 (by omega)
        have k1 := tcopyQ a2 (by omega)
        have k2 := tcopyQ c2 (by omega)
        have k3 := tcopyQ e2 (by omega)
        obtain ⟨us, ua, ud, eu, wu, wd, lu, lud, u0, hu⟩ := e2
        have F := fo us ua ud wu wd lu lud u0 hu
        rw [eu] at e1 g1 k3
        obtain ⟨s1, w1, w2, ew, _, _⟩ := Rr_parts n2
        rw [ew] at n1 b1 sm1
        obtain ⟨s2, y1, y2, ey, _, _⟩ := Rr_parts a2
        rw [ey] at a1 b1 k1
        obtain ⟨s3, v1, v2, ev, _, _⟩ := Rr_parts c2
        rw [ev] at c1 d1 k2
        obtain ⟨s4, x1, x2, ex, _, _⟩ := Rr_parts f2
        rw [ex] at f1 g1
        obtain ⟨s5, z1, z2, ez, _, _⟩ := Rr_parts d2
        rw [ez] at d1 g1 sm2
        refine mkQ fol J0s Tryz.func3 a3 ?_
        unfold a3
        simp only [init_eq, initE, qm, qr, qn]
        have zc11 := n1
        have zc12 := a1
        have zc13 := d1
        have zc14 := e1
        have zc15 := f1
        have zc16 := F
        exact wdQ @bz_SF1
end Go.Proofs.YtgejbndgakgfnaaGreatDoor
