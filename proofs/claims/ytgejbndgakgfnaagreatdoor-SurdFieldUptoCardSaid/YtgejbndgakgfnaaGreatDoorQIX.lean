/-
  The library's Cut at one sign, TrimLeft of one sign.
-/
import Derived.Test.YtgejbndgakgfnaaGreatDoorQT0
import Derived.Test.YtgejbndgakgfnaaGreatDoorZT1
import Derived.Laws.StandIn
import Derived.Lib.Bytealg
namespace Go.Proofs.YtgejbndgakgfnaaGreatDoor
open Go Go.RowKit Ab
set_option linter.unusedSimpArgs false
set_option linter.unusedVariables false
set_option maxHeartbeats 10000000
theorem bz_QIX : type_of% (And.intro @W_len (And.intro @Nat.div_one (And.intro @Nat.mul_one (And.intro @tn_nat (And.intro @W_nf (And.intro @W_nil (And.intro @wi (And.intro @nf_g (And.intro @Bool.false_and (And.intro @W_cell (@W_get))))))))))) := And.intro @W_len (And.intro @Nat.div_one (And.intro @Nat.mul_one (And.intro @tn_nat (And.intro @W_nf (And.intro @W_nil (And.intro @wi (And.intro @nf_g (And.intro @Bool.false_and (And.intro @W_cell (@W_get))))))))))
theorem fi_slA : ∀ l : List UInt8, Lib.indexByte l 47 = if slA l < l.length then (slA l : Int) else -1
  | [] => rfl
  | c :: l => by
    unfold Lib.indexByte
    rw [fi_slA l, slA_cons, List.length_cons]
    by_cases h : c = 47
    · subst h; rfl
    · have hb : (c == 47) = false := by simpa using h
      rw [hb, if_neg h, if_neg (by decide : ¬ (false = true))]
      by_cases h2 : slA l < l.length
      · have e : (if slA l + 1 < l.length + 1 then ((slA l + 1 : Nat) : Int) else -1) = ((slA l + 1 : Nat) : Int) := if_pos (by omega)
        have : ((slA l : Int) == -1) = false := by rw [beq_eq_false_iff_ne]; omega
        rw [if_pos h2, e, this]; simp
      · have e : (if slA l + 1 < l.length + 1 then ((slA l + 1 : Nat) : Int) else -1) = -1 := if_neg (by omega)
        rw [if_neg h2, e]; rfl
theorem fidx (l : List UInt8) : Go.firstIdx ⟨l.toArray⟩ 47 = if slA l < l.length then (slA l : Int) else -1 := by
  rw [Lib.firstIdx_eq]
  exact fi_slA l
theorem indexByteString_x (l : List UInt8) (c : UInt8) : XFun Tryz.prog 124 [.s l, .i .u8 (c.toNat : Int)] (.i .i64 (firstIdx ⟨l.toArray⟩ c)) := by
  intro w H ov vs hl hr
  match vs, hl with
  | [a, b], _ =>
    have h1 := (hr 0 a _ rfl rfl).inv_s
    have h2 := (hr 1 b _ rfl rfl).inv_i
    subst h1 h2
    refine ⟨_, by rw [run_callFunc_indexByte Tryz.func124 (by kernel_rfl) (by kernel_rfl) (by kernel_rfl) (by kernel_rfl), run_indexByte_string]; rfl, ?_⟩
    have : (c.toNat : Int).toNat.toUInt8 = c := by rw [show ((c.toNat : Nat) : Int).toNat = c.toNat from rfl]; simp
    rw [this]; exact .i _ _
def a108 : AC := .seq (.reg [qr 4 (.mv (.k (.i .i64 0)))])
 (.seq (.reg [qm 5 0,
 qm 6 1,
 qr 7 (.xcall 124 [(.t 5), (.t 6)]),
 qm 4 7])
 (.ret))
theorem sliteIndexByte_spec (l : List UInt8) : AFun Tryz.prog J0 108 [.s l, .i .u8 47] (.i .i64 (if slA l < l.length then (slA l : Int) else -1)) := by
  have h := indexByteString_x l 47
  rw [fidx] at h
  replace h : XFun Tryz.prog 124 [.s l, .i .u8 47] (.i .i64 (if slA l < l.length then (slA l : Int) else -1)) := h
  generalize (if slA l < l.length then (slA l : Int) else -1) = r at *
  refine mkQ fol J0s Tryz.func108 a108 ?_
  unfold a108
  simp only [init_eq, initE, qm, qr, qn]
  repeat first | (refine hK _ ?_; clear hK K) | simp only [Sv, ↓reduceIte, Nat.reduceEqDiff] | ((first | refine vm_reg (fun K hK => ?_) | refine vm_dreg (fun K hK => ?_) | refine vm_dregx (fun K hK => ?_)); refine smQ (ai @lconsA (ai @lnilA @bz_QIX)) ?_)
  refine xlp_mk _ (h) ?_
  refine smQ (ai @lconsA (ai @lnilA @bz_QIX)) ?_
  try (refine hK _ ?_; clear hK K)
  exact pdQ (ai @lconsA (ai @lnilA @bz_QIX))
def a90 : AC := .seq (.reg [qr 4 (.mv (.k (.i .i64 0)))])
 (.seq (.reg [qm 14 1,
 qr 15 (.slen (.t 14)),
 qm 5 15])
 (.seq (.blk 0
 (.seq (.reg [qm 17 5,
 qr 18 (.bin .eql (.t 17) (.k (.i .i64 0))),
 qm 19 18,
 ⟨some 20, some (19, false), .mv (.t 1)⟩,
 ⟨some 21, some (19, false), .mv (.t 0)⟩,
 ⟨some 22, some (19, false), .bin .eql (.t 20) (.t 21)⟩,
 qr 23 (.pick (.t 19) (.k (.b true)) (.t 22)),
 qm 16 23])
 (.cond (.t 16)
 (.seq (.reg [qr 4 (.mv (.k (.i .i64 0)))])
 (.ret))
 (.seq (.reg [qm 25 5,
 qr 26 (.bin .eql (.t 25) (.k (.i .i64 1))),
 qm 24 26])
 (.cond (.t 24)
 (.seq (.reg [qm 27 0,
 qm 28 1,
 qr 29 (.six (.t 28) (.k (.i .i64 0))),
 qr 30 (.call 108 [(1, (.t 27)), (1, (.t 29))]),
 qm 4 30])
 (.ret))
 (.seq (.reg [qm 32 5,
 qm 33 0,
 qr 34 (.slen (.t 33)),
 qr 35 (.bin .geq (.t 32) (.t 34)),
 qm 31 35])
 (.cond (.t 31)
 (.seq (.reg [qr 4 (.mv (.k (.i .i64 (-1))))])
 (.ret))
 (.seq (.reg [qm 37 5,
 qr 38 (.ld false 1 (.k .any)),
 qr 39 (.bin .leq (.t 37) (.t 38)),
 qm 40 39,
 ⟨some 41, some (40, true), .mv (.t 0)⟩,
 ⟨some 42, some (40, true), .slen (.t 41)⟩,
 ⟨some 43, some (40, true), .bin .leq (.t 42) (.k (.i .i64 64))⟩,
 qr 44 (.pick (.t 40) (.t 43) (.k (.b false))),
 qm 36 44])
 (.cond (.t 36)
 (.seq (.reg [qm 45 0,
 qm 46 1,
 qr 47 (.xcall 109 [(.t 45), (.t 46)]),
 qm 4 47])
 (.ret))
 (.skip))))))))))
 (.seq (.reg [qm 48 1,
 qr 49 (.six (.t 48) (.k (.i .i64 0))),
 qm 6 49])
 (.seq (.reg [qm 50 1,
 qr 51 (.six (.t 50) (.k (.i .i64 1))),
 qm 7 51])
 (.seq (.reg [qr 8 (.mv (.k (.i .i64 0)))])
 (.seq (.reg [qm 52 0,
 qr 53 (.slen (.t 52)),
 qm 54 5,
 qr 55 (.bin .sub (.t 53) (.t 54)),
 qr 56 (.bin .add (.t 55) (.k (.i .i64 1))),
 qm 9 56])
 (.seq (.reg [qr 10 (.mv (.k (.i .i64 0)))])
 (.seq (.blk 1
 (.loop
 (.seq (.seq (.reg [qm 57 8,
 qm 58 9,
 qr 59 (.bin .lss (.t 57) (.t 58))])
 (.cond (.t 59)
 (.skip)
 (.exit 1)))
 (.blk 2
 (.seq (.seq (.reg [qm 60 0,
 qm 61 8,
 qr 62 (.six (.t 60) (.t 61)),
 qm 63 6,
 qr 64 (.bin .neq (.t 62) (.t 63))])
 (.cond (.t 64)
 (.seq (.reg [qm 65 0,
 qm 66 8,
 qr 67 (.bin .add (.t 66) (.k (.i .i64 1))),
 qm 68 9,
 qr 69 (.ssub (.t 65) (some (.t 67)) (some (.t 68))),
 qm 70 6,
 qr 71 (.call 108 [(1, (.t 69)), (1, (.t 70))]),
 qm 11 71])
 (.seq (.seq (.reg [qm 72 11,
 qr 73 (.bin .lss (.t 72) (.k (.i .i64 0)))])
 (.cond (.t 73)
 (.seq (.reg [qr 4 (.mv (.k (.i .i64 (-1))))])
 (.ret))
 (.skip)))
 (.reg [qm 74 8,
 qm 75 11,
 qr 76 (.bin .add (.t 75) (.k (.i .i64 1))),
 qr 77 (.bin .add (.t 74) (.t 76)),
 qm 8 77])))
 (.skip)))
 (.seq (.seq (.reg [qm 78 0,
 qm 79 8,
 qr 80 (.bin .add (.t 79) (.k (.i .i64 1))),
 qr 81 (.six (.t 78) (.t 80)),
 qm 82 7,
 qr 83 (.bin .eql (.t 81) (.t 82)),
 qm 84 83,
 ⟨some 85, some (84, true), .mv (.t 0)⟩,
 ⟨some 86, some (84, true), .mv (.t 8)⟩,
 ⟨some 87, some (84, true), .mv (.t 8)⟩,
 ⟨some 88, some (84, true), .mv (.t 5)⟩,
 ⟨some 89, some (84, true), .bin .add (.t 87) (.t 88)⟩,
 ⟨some 90, some (84, true), .ssub (.t 85) (some (.t 86)) (some (.t 89))⟩,
 ⟨some 91, some (84, true), .mv (.t 1)⟩,
 ⟨some 92, some (84, true), .bin .eql (.t 90) (.t 91)⟩,
 qr 93 (.pick (.t 84) (.t 92) (.k (.b false)))])
 (.cond (.t 93)
 (.seq (.reg [qm 94 8,
 qm 4 94])
 (.ret))
 (.skip)))
 (.seq (.reg [qm 95 8,
 qr 96 (.bin .add (.t 95) (.k (.i .i64 1))),
 qm 8 96])
 (.seq (.reg [qm 97 10,
 qr 98 (.bin .add (.t 97) (.k (.i .i64 1))),
 qm 10 98])
 (.seq (.reg [qm 99 5,
 qr 100 (.ld false 1 (.k .any)),
 qr 101 (.bin .leq (.t 99) (.t 100)),
 qm 102 101,
 ⟨some 103, some (102, true), .mv (.t 10)⟩,
 ⟨some 104, some (102, true), .mv (.t 8)⟩,
 ⟨some 105, some (102, true), .call 110 [(1, (.t 104))]⟩,
 ⟨some 106, some (102, true), .bin .gtr (.t 103) (.t 105)⟩,
 qr 107 (.pick (.t 102) (.t 106) (.k (.b false)))])
 (.cond (.t 107)
 (.seq (.reg [qm 108 0,
 qm 109 8,
 qr 110 (.ssub (.t 108) (some (.t 109)) none),
 qm 111 1,
 qr 112 (.xcall 109 [(.t 110), (.t 111)]),
 qm 12 112])
 (.seq (.seq (.reg [qm 113 12,
 qr 114 (.bin .geq (.t 113) (.k (.i .i64 0)))])
 (.cond (.t 114)
 (.seq (.reg [qm 115 12,
 qm 116 8,
 qr 117 (.bin .add (.t 115) (.t 116)),
 qm 4 117])
 (.ret))
 (.skip)))
 (.seq (.reg [qr 4 (.mv (.k (.i .i64 (-1))))])
 (.ret))))
 (.seq (.reg [qm 118 5,
 qr 119 (.ld false 1 (.k .any)),
 qr 120 (.bin .gtr (.t 118) (.t 119)),
 qm 121 120,
 ⟨some 122, some (121, true), .mv (.t 10)⟩,
 ⟨some 123, some (121, true), .mv (.t 8)⟩,
 ⟨some 124, some (121, true), .bin .shr (.t 123) (.k (.i .u64 4))⟩,
 ⟨some 125, some (121, true), .bin .add (.k (.i .i64 4)) (.t 124)⟩,
 ⟨some 126, some (121, true), .bin .geq (.t 122) (.t 125)⟩,
 qr 127 (.pick (.t 121) (.t 126) (.k (.b false))),
 qm 128 127,
 ⟨some 129, some (128, true), .mv (.t 8)⟩,
 ⟨some 130, some (128, true), .mv (.t 9)⟩,
 ⟨some 131, some (128, true), .bin .lss (.t 129) (.t 130)⟩,
 qr 132 (.pick (.t 128) (.t 131) (.k (.b false)))])
 (.cond (.t 132)
 (.seq (.reg [qm 133 0,
 qm 134 8,
 qr 135 (.ssub (.t 133) (some (.t 134)) none),
 qm 136 1,
 qr 137 (.call 111 [(1, (.t 135)), (1, (.t 136))]),
 qm 13 137])
 (.seq (.seq (.reg [qm 138 13,
 qr 139 (.bin .lss (.t 138) (.k (.i .i64 0)))])
 (.cond (.t 139)
 (.seq (.reg [qr 4 (.mv (.k (.i .i64 (-1))))])
 (.ret))
 (.skip)))
 (.seq (.reg [qm 140 8,
 qm 141 13,
 qr 142 (.bin .add (.t 140) (.t 141)),
 qm 4 142])
 (.ret))))
 (.skip)))))))))))))
 (.seq (.reg [qr 4 (.mv (.k (.i .i64 (-1))))])
 (.ret))))))))))
theorem sliteIndex_spec (l : List UInt8) : AFun Tryz.prog J0 90 [.s l, .s [47]] (.i .i64 (if slA l < l.length then (slA l : Int) else -1)) := by
  have hl : ([47] : List UInt8).length = 1 := rfl
  have h := sliteIndexByte_spec l
  by_cases h1 : l = [47]
  · subst h1
    have hb : (([47] : List UInt8) == [47]) = true := rfl
    have e : (if slA [47] < ([47] : List UInt8).length then (slA [47] : Int) else -1) = 0 := rfl
    rw [e]
    refine mkQ fol J0s Tryz.func90 a90 ?_
    unfold a90
    simp only [init_eq, initE, qm, qr, qn]
    exact pdQ (ai @hb (ai @hl (ai @lconsA (ai @lnilA @bz_QIX))))
  · have hb : (([47] : List UInt8) == l) = false := by rw [beq_eq_false_iff_ne]; exact fun e => h1 e.symm
    generalize (if slA l < l.length then (slA l : Int) else -1) = r at *
    have h47 : ([47] : List UInt8).getD (Int.toNat 0) 0 = 47 := rfl
    have e47 : (((47 : UInt8).toNat : Nat) : Int) = 47 := rfl
    refine mkQ fol J0s Tryz.func90 a90 ?_
    unfold a90
    simp only [init_eq, initE, qm, qr, qn]
    exact wdQ (ai @e47 (ai @h47 (ai @hb (ai @hl (ai @lconsA (ai @lnilA @bz_QIX))))))
def a70 : AC := .seq (.reg [qr 4 (.mv (.k (.s []))),
 qr 5 (.mv (.k (.s []))),
 qr 6 (.mv (.k (.b false)))])
 (.seq (.seq (.reg [qm 8 0,
 qm 9 1,
 qr 10 (.call 90 [(1, (.t 8)), (1, (.t 9))]),
 qm 7 10])
 (.seq (.reg [qm 11 7,
 qr 12 (.bin .geq (.t 11) (.k (.i .i64 0)))])
 (.cond (.t 12)
 (.seq (.dreg [qm 13 0,
 qm 14 7,
 qr 15 (.ssub (.t 13) none (some (.t 14))),
 qm 16 0,
 qm 17 7,
 qm 18 1,
 qr 19 (.slen (.t 18)),
 qr 20 (.bin .add (.t 17) (.t 19)),
 qr 21 (.ssub (.t 16) (some (.t 20)) none),
 qm 4 15,
 qm 5 21,
 qr 6 (.mv (.k (.b true)))])
 (.ret))
 (.skip))))
 (.seq (.reg [qm 22 0,
 qm 4 22,
 qr 5 (.mv (.k (.s []))),
 qr 6 (.mv (.k (.b false)))])
 (.ret)))
theorem sliteCut_spec (l : List UInt8) (hl : l.length ≤ 1000000000000) : AFun Tryz.prog J0 70 [.s l, .s [47]] (.t [.s (topT l), .s (if mrT l then undT l else []), .b (mrT l)]) := by
  have h := sliteIndex_spec l
  have h1 : ([47] : List UInt8).length = 1 := rfl
  by_cases hm : slA l < l.length
  · rw [if_pos hm] at h
    rw [show mrT l = true from decide_eq_true hm, if_pos rfl]
    have hp : (0 : Int) ≤ (slA l : Int) := by omega
    have hle : ((slA l : Nat) : Int) ≤ (l.length : Int) := by omega
    have w1 : IntKind.i64.wrap ((slA l : Int) + 1) = ((slA l + 1 : Nat) : Int) := by rw [wi (by omega)]; omega
    have hle2 : ((slA l + 1 : Nat) : Int) ≤ (l.length : Int) := by omega
    have hp2 : (0 : Int) ≤ ((slA l + 1 : Nat) : Int) := by omega
    unfold topT undT
    generalize slA l = i at *
    refine mkQ fol J0s Tryz.func70 a70 ?_
    unfold a70
    simp only [init_eq, initE, qm, qr, qn]
    exact wdQ (ai @h1 (ai @hp2 (ai @hle2 (ai @w1 (ai @hle (ai @hp (ai @lconsA (ai @lnilA @bz_QIX))))))))
  · rw [if_neg hm] at h
    rw [show mrT l = false from decide_eq_false hm, if_neg (by simp)]
    have e : topT l = l := by unfold topT; rw [List.take_of_length_le (by omega)]
    rw [e]
    refine mkQ fol J0s Tryz.func70 a70 ?_
    unfold a70
    simp only [init_eq, initE, qm, qr, qn]
    exact wdQ (ai @lconsA (ai @lnilA @bz_QIX))
def a54 : AC := .seq (.reg [qr 4 (.mv (.k (.s []))),
 qr 5 (.mv (.k (.s []))),
 qr 6 (.mv (.k (.b false)))])
 (.seq (.reg [qm 7 0,
 qm 8 1,
 qr 9 (.call 70 [(1, (.t 7)), (1, (.t 8))]),
 qr 10 (.ext (.t 9) 0),
 qr 11 (.ext (.t 9) 1),
 qr 12 (.ext (.t 9) 2),
 qm 4 10,
 qm 5 11,
 qm 6 12])
 (.ret))
theorem cut_spec (l : List UInt8) (hl : l.length ≤ 1000000000000) : AFun Tryz.prog J0 54 [.s l, .s [47]] (.t [.s (topT l), .s (if mrT l then undT l else []), .b (mrT l)]) := by
  have h := sliteCut_spec l hl
  generalize (if mrT l then undT l else []) = u at *
  generalize topT l = t at *
  generalize mrT l = b at *
  refine mkQ fol J0s Tryz.func54 a54 ?_
  unfold a54
  simp only [init_eq, initE, qm, qr, qn]
  exact wdQ (ai @lconsA (ai @lnilA @bz_QIX))
def a91 : AC := .seq (.reg [qr 4 (.mv (.k (.s [])))])
 (.seq (.blk 0
 (.loop
 (.seq (.seq (.reg [qm 5 0,
 qr 6 (.slen (.t 5)),
 qr 7 (.bin .gtr (.t 6) (.k (.i .i64 0))),
 qm 8 7,
 ⟨some 9, some (8, true), .mv (.t 0)⟩,
 ⟨some 10, some (8, true), .six (.t 9) (.k (.i .i64 0))⟩,
 ⟨some 11, some (8, true), .mv (.t 1)⟩,
 ⟨some 12, some (8, true), .bin .eql (.t 10) (.t 11)⟩,
 qr 13 (.pick (.t 8) (.t 12) (.k (.b false)))])
 (.cond (.t 13)
 (.skip)
 (.exit 0)))
 (.blk 1
 (.reg [qm 14 0,
 qr 15 (.ssub (.t 14) (some (.k (.i .i64 1))) none),
 qm 0 15])))))
 (.seq (.reg [qm 16 0,
 qm 4 16])
 (.ret)))
theorem trZ_drop {t : List UInt8} {i : Nat} (h : i < t.length) : trZ (t.drop i) = if t.getD i 0 = 48 then trZ (t.drop (i + 1)) else t.drop i := by
  rw [List.drop_eq_getElem_cons h, trZ_cons, List.getD_eq_getElem?_getD, List.getElem?_eq_getElem h]; rfl
theorem trimb_spec (t : List UInt8) (ht : t.length ≤ 1000000000000) : AFun Tryz.prog J0 91 [.s t, .i .u8 48] (.s (trZ t)) := by
  refine mkQ fol J0s Tryz.func91 a91 ?_
  unfold a91
  simp only [init_eq, initE, qm, qr, qn]
  refine spQ (ai @lconsA (ai @lnilA @bz_QIX)) ?_
  refine vm_loopA [] Nat (fun i => ⟨[(0, .s (t.drop i)), (1, .i .u8 48)], [], 0⟩) (fun i => i ≤ t.length ∧ trZ t = trZ (t.drop i)) (fun i => t.length - i) 0 ⟨Nat.zero_le _, rfl⟩ (by exact leQ) (by
    simp (disch := (first | omega | assumption)) only [Sl, Sa, Sw, ↓reduceIte, Nat.reduceEqDiff, Nat.reduceLT, List.all_nil, List.all_cons, Nat.reduceBneDiff, Nat.reduceAdd, bne_iff_ne, ne_eq, reduceCtorEq, not_false_eq_true, not_true_eq_false, Bool.and_true, Bool.true_and, and_true, true_and, and_self, i_eq]
    try rfl) ?_
  rintro i ⟨hi, hz⟩ Q' hQ he hr
  have hln : ((t.drop i).length : Int) = ((t.length - i : Nat) : Int) := by rw [List.length_drop]
  have tz0 : Int.toNat 0 = 0 := rfl
  have tz1 : List.drop (Int.toNat 1) (t.drop i) = t.drop (i + 1) := by
    show List.drop 1 (t.drop i) = _
    rw [List.drop_drop]
  by_cases h : i < t.length
  · have hp : (0 : Int) < ((t.length - i : Nat) : Int) := by omega
    have hp1 : (1 : Int) ≤ ((t.length - i : Nat) : Int) := by omega
    have hg : (t.drop i).getD 0 0 = t.getD i 0 := by
      rw [List.getD_eq_getElem?_getD, List.getElem?_drop, List.getD_eq_getElem?_getD, Nat.add_zero]
    have hd := trZ_drop h
    by_cases h0 : ((t.getD i 0).toNat : Int) = 48
    · have h48 : t.getD i 0 = 48 := UInt8.toNat_inj.1 (by show (t.getD i 0).toNat = 48; omega)
      rw [if_pos h48] at hd
      generalize t.getD i 0 = c at *
      generalize hD : t.drop i = D at *
      refine spQ (ai @tz1 (ai @hp1 (ai @h0 (ai @hg (ai @tz0 (ai @hp (ai @hln (ai @lconsA (ai @lnilA @bz_QIX))))))))) ?_
      refine hQ _ (i + 1) ⟨by omega, hz.trans hd⟩ (by omega) ?_
      exact ltQ
    · have h48 : ¬ t.getD i 0 = 48 := fun e => h0 (by rw [e]; rfl)
      rw [if_neg h48] at hd
      have e := hz.trans hd
      generalize t.getD i 0 = c at *
      generalize hD : t.drop i = D at *
      refine spQ (ai @h0 (ai @hg (ai @tz0 (ai @hp (ai @hln (ai @lconsA (ai @lnilA @bz_QIX))))))) ?_
      refine he _ _ ?_
      refine spQ (ai @lconsA (ai @lnilA @bz_QIX)) ?_
      exact rtQ (ai @e (ai @lconsA (ai @lnilA @bz_QIX)))
  · obtain rfl : i = t.length := by omega
    have hn : ¬ (0 : Int) < ((t.length - t.length : Nat) : Int) := by omega
    rw [List.drop_length] at hz hln tz1 ⊢
    have e : trZ t = [] := hz
    refine spQ (ai @hn (ai @hln (ai @lconsA (ai @lnilA @bz_QIX)))) ?_
    refine he _ _ ?_
    refine spQ (ai @lconsA (ai @lnilA @bz_QIX)) ?_
    exact rtQ (ai @e (ai @lconsA (ai @lnilA @bz_QIX)))
def a71 : AC := .seq (.reg [qr 4 (.mv (.k (.s [])))])
 (.seq (.seq (.reg [qm 7 0,
 qr 8 (.bin .eql (.t 7) (.k (.s []))),
 qm 9 8,
 ⟨some 10, some (9, false), .mv (.t 1)⟩,
 ⟨some 11, some (9, false), .bin .eql (.t 10) (.k (.s []))⟩,
 qr 12 (.pick (.t 9) (.k (.b true)) (.t 11))])
 (.cond (.t 12)
 (.seq (.reg [qm 13 0,
 qm 4 13])
 (.ret))
 (.skip)))
 (.seq (.seq (.reg [qm 14 1,
 qr 15 (.slen (.t 14)),
 qr 16 (.bin .eql (.t 15) (.k (.i .i64 1))),
 qm 17 16,
 ⟨some 18, some (17, true), .mv (.t 1)⟩,
 ⟨some 19, some (17, true), .six (.t 18) (.k (.i .i64 0))⟩,
 ⟨some 20, some (17, true), .bin .lss (.t 19) (.k (.i .u8 128))⟩,
 qr 21 (.pick (.t 17) (.t 20) (.k (.b false)))])
 (.cond (.t 21)
 (.seq (.reg [qm 22 0,
 qm 23 1,
 qr 24 (.six (.t 23) (.k (.i .i64 0))),
 qr 25 (.call 91 [(1, (.t 22)), (1, (.t 24))]),
 qm 4 25])
 (.ret))
 (.skip)))
 (.seq (.seq (.reg [qm 27 1,
 qr 28 (.call 92 [(1, (.t 27))]),
 qm 26 28,
 qr 29 (.ext (.t 26) 0),
 qr 30 (.ext (.t 26) 1),
 qr 5 (.al 112 [(.b false), (.b false), (.b false), (.b false), (.b false), (.b false), (.b false), (.b false), (.b false), (.b false), (.b false), (.b false), (.b false), (.b false), (.b false), (.b false), (.b false), (.b false), (.b false), (.b false), (.b false), (.b false), (.b false), (.b false), (.b false), (.b false), (.b false), (.b false), (.b false), (.b false), (.b false), (.b false), (.b false), (.b false), (.b false), (.b false), (.b false), (.b false), (.b false), (.b false), (.b false), (.b false), (.b false), (.b false), (.b false), (.b false), (.b false), (.b false), (.b false), (.b false), (.b false), (.b false), (.b false), (.b false), (.b false), (.b false), (.b false), (.b false), (.b false), (.b false), (.b false), (.b false), (.b false), (.b false), (.b false), (.b false), (.b false), (.b false), (.b false), (.b false), (.b false), (.b false), (.b false), (.b false), (.b false), (.b false), (.b false), (.b false), (.b false), (.b false), (.b false), (.b false), (.b false), (.b false), (.b false), (.b false), (.b false), (.b false), (.b false), (.b false), (.b false), (.b false), (.b false), (.b false), (.b false), (.b false), (.b false), (.b false), (.b false), (.b false), (.b false), (.b false), (.b false), (.b false), (.b false), (.b false), (.b false), (.b false), (.b false), (.b false), (.b false), (.b false), (.b false), (.b false), (.b false), (.b false), (.b false), (.b false), (.b false), (.b false), (.b false), (.b false), (.b false), (.b false), (.b false), (.b false), (.b false), (.b false), (.b false), (.b false), (.b false), (.b false), (.b false), (.b false), (.b false), (.b false), (.b false), (.b false), (.b false), (.b false), (.b false), (.b false), (.b false), (.b false), (.b false), (.b false), (.b false), (.b false), (.b false), (.b false), (.b false), (.b false), (.b false), (.b false), (.b false), (.b false), (.b false), (.b false), (.b false), (.b false), (.b false), (.b false), (.b false), (.b false), (.b false), (.b false), (.b false), (.b false), (.b false), (.b false), (.b false), (.b false), (.b false), (.b false), (.b false), (.b false), (.b false), (.b false), (.b false), (.b false), (.b false), (.b false), (.b false), (.b false), (.b false), (.b false), (.b false), (.b false), (.b false), (.b false), (.b false), (.b false), (.b false), (.b false), (.b false), (.b false), (.b false), (.b false), (.b false), (.b false), (.b false), (.b false), (.b false), (.b false), (.b false), (.b false), (.b false), (.b false), (.b false), (.b false), (.b false), (.b false), (.b false), (.b false), (.b false), (.b false), (.b false), (.b false), (.b false), (.b false), (.b false), (.b false), (.b false), (.b false), (.b false), (.b false), (.b false), (.b false), (.b false), (.b false), (.b false), (.b false), (.b false), (.b false), (.b false), (.b false), (.b false), (.b false), (.b false), (.b false), (.b false), (.b false), (.b false), (.b false), (.b false), (.b false), (.b false), (.b false), (.b false), (.b false), (.b false), (.b false), (.b false), (.b false), (.b false), (.b false)]),
 qn (.st 256 (.t 5) (.t 29)),
 qm 6 30])
 (.seq (.reg [qm 31 6])
 (.cond (.t 31)
 (.seq (.reg [qm 32 0,
 qr 33 (.call 93 [(1, (.t 32)), (1, (.t 5))]),
 qm 4 33])
 (.ret))
 (.skip))))
 (.seq (.reg [qm 34 0,
 qm 35 1,
 qr 36 (.call 94 [(1, (.t 34)), (1, (.t 35))]),
 qm 4 36])
 (.ret)))))
set_option maxRecDepth 100000 in
theorem triml_spec (t : List UInt8) (ht : t.length ≤ 1000000000000) : AFun Tryz.prog J0 71 [.s t, .s [48]] (.s (trZ t)) := by
  have h := trimb_spec t ht
  have hl : ([48] : List UInt8).length = 1 := rfl
  have hb : (([48] : List UInt8) == []) = false := rfl
  have h48 : ([48] : List UInt8).getD (Int.toNat 0) 0 = 48 := rfl
  have e48 : (((48 : UInt8).toNat : Nat) : Int) = 48 := rfl
  by_cases h0 : t = []
  · subst h0
    have h1 : (([] : List UInt8) == []) = true := rfl
    have e : trZ [] = [] := rfl
    refine mkQ fol J0s Tryz.func71 a71 ?_
    unfold a71
    simp only [init_eq, initE, qm, qr, qn]
    exact pdQ (ai @e (ai @h1 (ai @lconsA (ai @lnilA @bz_QIX))))
  · have h1 : (t == []) = false := by simpa using h0
    refine mkQ fol J0s Tryz.func71 a71 ?_
    unfold a71
    simp only [init_eq, initE, qm, qr, qn]
    exact wdQ (ai @e48 (ai @h48 (ai @hb (ai @hl (ai @h1 (ai @lconsA (ai @lnilA @bz_QIX)))))))
end Go.Proofs.YtgejbndgakgfnaaGreatDoor
