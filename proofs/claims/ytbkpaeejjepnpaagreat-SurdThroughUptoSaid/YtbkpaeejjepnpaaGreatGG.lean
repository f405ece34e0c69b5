/-
  The texts NM7, NM9, M8, M9.
-/
import Derived.Test.YtbkpaeejjepnpaaGreatGF
import Derived.Test.YtbkpaeejjepnpaaGreatGE
import Derived.Test.YtbkpaeejjepnpaaGreatGC
namespace Go.Proofs.YtbkpaeejjepnpaaGreat
open Go Go.RowKit Ab
set_option linter.unusedSimpArgs false
set_option linter.unusedVariables false
set_option maxHeartbeats 10000000
end Go.Proofs.YtbkpaeejjepnpaaGreat
namespace Go.Proofs.YtbkpaeejjepnpaaGreat
open Go Go.RowKit Ab
set_option linter.unusedSimpArgs false
set_option linter.unusedVariables false
set_option maxHeartbeats 10000000
def qQ (u v : Nat) : List Nat := dg B (u / v)
def qR (u v : Nat) : List Nat := if v = 0 then [] else dg B (u % v)
def qE (v : Nat) : Int := if v = 0 then 1 else 0
theorem qQ_0 (u : Nat) : qQ u 0 = [] := by unfold qQ; rw [Nat.div_zero]; rfl
theorem qR_0 (u : Nat) : qR u 0 = [] := if_pos rfl
theorem qE_0 : qE 0 = 1 := rfl
theorem qR_p {u v : Nat} (h : 0 < v) : qR u v = dg B (u % v) := if_neg (by omega)
theorem qE_p {v : Nat} (h : 0 < v) : qE v = 0 := if_neg (by omega)
theorem W1 (x : Nat) : W [x] = [.i .u64 (x : Int)] := rfl
theorem nv_get1 {b : List Nat} (h : b.length = 1) : b.getD 0 0 = nv B b := by
  match b, h with
  | [x], _ => simp [nv]
theorem qR_nil {u v : Nat} : (((qR u v).length : Nat) : Int) = 0 ↔ (v = 0 ∨ u % v = 0) := by
  unfold qR
  split
  · rename_i h; simp [h]
  · rename_i h
    constructor
    · intro h1; exact .inr ((dg_nil B2).1 (List.eq_nil_of_length_eq_zero (by omega)))
    · intro h1; rw [(dg_nil B2).2 (by omega)]; rfl
def exQ (u v : Nat) : List Nat := if v = 0 then [] else if u % v = 0 then dg B (u / v) else []
def exE (u v : Nat) : Int := if v = 0 then 1 else if u % v = 0 then 0 else 4
theorem norm_dg (a : List Nat) (ha : Wd a) (la : a.length ≤ 1099511627776) : AFun Tryz.prog J0 85 [.l 1 (W a)] (.o 29 1 (W (dg B (nv B a)))) := by
  have := norm_spec a la
  rwa [tz_dg B2 ha] at this
end Go.Proofs.YtbkpaeejjepnpaaGreat
namespace Go.Proofs.YtbkpaeejjepnpaaGreat
open Go Go.RowKit Ab
set_option linter.unusedSimpArgs false
set_option linter.unusedVariables false
set_option maxHeartbeats 10000000
theorem bz_M8 : type_of% (And.intro @wi (And.intro @tn_nat (And.intro @Nat.div_one (And.intro @Nat.mul_one (And.intro @W_len (And.intro @W_nf (@W_cell))))))) := And.intro @wi (And.intro @tn_nat (And.intro @Nat.div_one (And.intro @Nat.mul_one (And.intro @W_len (And.intro @W_nf (@W_cell))))))
theorem W_set0 (a : List Nat) (i : Nat) : (W a).set i (.i .u64 0) = W (a.set i 0) := W_set a i 0
theorem kn_un (t c : Nat) (h : c = t + 1) : (if t < c then 1 else 0 : Nat) = 1 := if_pos (by omega)
theorem kn_m1 (t c : Nat) (h : c = t + 1) : (t + 18446744073709551616 - c) % 18446744073709551616 = 18446744073709551615 := by
  rw [h, show t + 18446744073709551616 - (t + 1) = 18446744073709551615 from by omega]
theorem kn_d1 (g d : Nat) (h : g = d + 1) : (g : Int) - 1 = (d : Int) := by omega
theorem wuN (n : Nat) (h : n < 18446744073709551616) : IntKind.wrap .u64 (n : Int) = (n : Int) := wu ⟨Int.natCast_nonneg _, by omega⟩
theorem W_setM (a : List Nat) (i : Nat) : (W a).set i (.i .u64 18446744073709551615) = W (a.set i 18446744073709551615) := W_set a i 18446744073709551615
theorem wrapM : IntKind.wrap .u64 18446744073709551616 = 0 := by decide
theorem tn_add' (a b : Nat) : ((a : Int) + (b : Int)).toNat = a + b := by omega
theorem tn_add1' (a b : Nat) (h : 1 ≤ b) : ((a : Int) + (b : Int) - 1).toNat = a + (b - 1) := by omega
theorem tn_add2' (a b : Nat) (h : 2 ≤ b) : ((a : Int) + (b : Int) - 2).toNat = a + (b - 2) := by omega
theorem tn_s1 (b : Nat) : ((b : Int) - 1).toNat = b - 1 := by omega
theorem tn_s2 (b : Nat) : ((b : Int) - 2).toNat = b - 2 := by omega
def a96 : AC := .seq (.reg [qr 4 (.mv (.k .nl)),
 qr 5 (.mv (.k .nl))])
 (.seq (.reg [qm 25 1,
 qr 26 (.len (.t 25)),
 qm 6 26])
 (.seq (.reg [qm 27 1,
 qm 28 6,
 qr 29 (.bin .sub (.t 28) (.k (.i .i64 1))),
 qr 30 (.idx 1 (.t 27) (.t 29)),
 qr 31 (.ld false 1 (.t 30)),
 qr 32 (.call 106 [(1, (.t 31))]),
 qm 7 32])
 (.seq (.reg [qm 34 1,
 qm 35 7,
 qr 36 (.call 107 [(1, (.t 34)), (1, (.t 35))]),
 qm 33 36,
 qr 37 (.ext (.t 33) 0),
 qr 38 (.ext (.t 33) 1),
 qm 8 37,
 qm 9 38])
 (.seq (.reg [qm 40 0,
 qm 41 7,
 qr 42 (.call 107 [(1, (.t 40)), (1, (.t 41))]),
 qm 39 42,
 qr 43 (.ext (.t 39) 0),
 qr 44 (.ext (.t 39) 1),
 qm 10 43,
 qm 11 44])
 (.seq (.reg [qm 45 10,
 qm 46 0,
 qr 47 (.len (.t 46)),
 qr 48 (.bin .add (.t 47) (.k (.i .i64 1))),
 qm 49 10,
 qr 50 (.len (.t 49)),
 qr 51 (.bin .sub (.t 48) (.t 50)),
 qr 52 (.mk 29 1 8 [(.i .u64 0)] (.t 51) (.t 51)),
 qr 53 (.bsl 25 1 2 [(.l 1 []), (.l 1 [])] [(0, (.t 45)), (1, (.t 52))]),
 qr 54 (.call 108 [(1, (.t 53))]),
 qm 12 54])
 (.seq (.reg [qm 55 12,
 qr 56 (.len (.t 55)),
 qm 57 6,
 qr 58 (.bin .sub (.t 56) (.t 57)),
 qr 59 (.mk 29 1 8 [(.i .u64 0)] (.t 58) (.t 58)),
 qm 13 59])
 (.seq (.seq (.reg [qm 60 13,
 qr 61 (.len (.t 60)),
 qr 62 (.bin .sub (.t 61) (.k (.i .i64 1))),
 qm 14 62])
 (.blk 0
 (.loop
 (.seq (.seq (.reg [qm 63 14,
 qr 64 (.bin .geq (.t 63) (.k (.i .i64 0)))])
 (.cond (.t 64)
 (.skip)
 (.exit 0)))
 (.seq (.blk 1
 (.seq (.dreg [qm 67 12,
 qm 68 14,
 qm 69 6,
 qr 70 (.bin .add (.t 68) (.t 69)),
 qr 71 (.idx 1 (.t 67) (.t 70)),
 qr 72 (.ld false 1 (.t 71)),
 qm 73 12,
 qm 74 14,
 qm 75 6,
 qr 76 (.bin .add (.t 74) (.t 75)),
 qr 77 (.bin .sub (.t 76) (.k (.i .i64 1))),
 qr 78 (.idx 1 (.t 73) (.t 77)),
 qr 79 (.ld false 1 (.t 78)),
 qm 80 12,
 qm 81 14,
 qm 82 6,
 qr 83 (.bin .add (.t 81) (.t 82)),
 qr 84 (.bin .sub (.t 83) (.k (.i .i64 2))),
 qr 85 (.idx 1 (.t 80) (.t 84)),
 qr 86 (.ld false 1 (.t 85)),
 qm 87 8,
 qm 88 6,
 qr 89 (.bin .sub (.t 88) (.k (.i .i64 1))),
 qr 90 (.idx 1 (.t 87) (.t 89)),
 qr 91 (.ld false 1 (.t 90)),
 qm 92 8,
 qm 93 6,
 qr 94 (.bin .sub (.t 93) (.k (.i .i64 2))),
 qr 95 (.idx 1 (.t 92) (.t 94)),
 qr 96 (.ld false 1 (.t 95)),
 qr 97 (.call 109 [(1, (.t 72)), (1, (.t 79)), (1, (.t 86)), (1, (.t 91)), (1, (.t 96))]),
 qm 15 97])
 (.seq (.reg [qm 99 12,
 qm 100 14,
 qm 101 14,
 qm 102 6,
 qr 103 (.bin .add (.t 101) (.t 102)),
 qr 104 (.sub 1 (.t 99) (some (.t 100)) (some (.t 103))),
 qm 105 8,
 qm 106 15,
 qr 107 (.call 110 [(1, (.t 104)), (1, (.t 105)), (1, (.t 106))]),
 qm 98 107,
 qr 108 (.ext (.t 98) 0),
 qr 109 (.ext (.t 98) 1),
 qr 110 (.ext (.t 98) 2),
 qm 16 108,
 qm 17 109,
 qm 18 110])
 (.seq (.reg [qm 112 12,
 qm 113 14,
 qm 114 6,
 qr 115 (.bin .add (.t 113) (.t 114)),
 qr 116 (.idx 1 (.t 112) (.t 115)),
 qr 117 (.ld false 1 (.t 116)),
 qm 118 17,
 qr 119 (.xcall 111 [(.t 117), (.t 118), (.k (.i .u64 0))]),
 qm 111 119,
 qr 120 (.ext (.t 111) 0),
 qr 121 (.ext (.t 111) 1),
 qm 19 120,
 qm 20 121])
 (.seq (.reg [qm 122 12,
 qm 123 14,
 qr 124 (.sub 1 (.t 122) (some (.t 123)) none),
 qm 125 16,
 qr 126 (.cpy 1 (.t 124) (.t 125))])
 (.seq (.reg [qm 127 12,
 qm 128 14,
 qm 129 6,
 qr 130 (.bin .add (.t 128) (.t 129)),
 qm 131 19,
 qr 132 (.idx 1 (.t 127) (.t 130)),
 qn (.st 1 (.t 132) (.t 131))])
 (.seq (.seq (.reg [qm 133 20,
 qr 134 (.bin .eql (.t 133) (.k (.i .u64 1)))])
 (.cond (.t 134)
 (.seq (.reg [qm 135 15,
 qr 136 (.bin .sub (.t 135) (.k (.i .u64 1))),
 qm 15 136])
 (.seq (.reg [qm 138 12,
 qm 139 14,
 qm 140 14,
 qm 141 6,
 qr 142 (.bin .add (.t 140) (.t 141)),
 qr 143 (.sub 1 (.t 138) (some (.t 139)) (some (.t 142))),
 qm 144 8,
 qr 145 (.call 99 [(1, (.t 143)), (1, (.t 144))]),
 qm 137 145,
 qr 146 (.ext (.t 137) 0),
 qr 147 (.ext (.t 137) 1),
 qm 21 146,
 qm 22 147])
 (.seq (.reg [qm 148 12,
 qm 149 14,
 qr 150 (.sub 1 (.t 148) (some (.t 149)) none),
 qm 151 21,
 qr 152 (.cpy 1 (.t 150) (.t 151))])
 (.reg [qm 153 12,
 qm 154 14,
 qm 155 6,
 qr 156 (.bin .add (.t 154) (.t 155)),
 qr 157 (.idx 1 (.t 153) (.t 156)),
 qr 158 (.ld false 1 (.t 157)),
 qm 159 22,
 qr 160 (.bin .add (.t 158) (.t 159)),
 qr 161 (.idx 1 (.t 153) (.t 156)),
 qn (.st 1 (.t 161) (.t 160))]))))
 (.skip)))
 (.reg [qm 162 13,
 qm 163 14,
 qm 164 15,
 qr 165 (.idx 1 (.t 162) (.t 163)),
 qn (.st 1 (.t 165) (.t 164))]))))))))
 (.reg [qm 65 14,
 qr 66 (.bin .sub (.t 65) (.k (.i .i64 1))),
 qm 14 66]))))))
 (.seq (.reg [qm 167 12,
 qm 168 6,
 qr 169 (.sub 1 (.t 167) none (some (.t 168))),
 qm 170 7,
 qr 171 (.call 112 [(1, (.t 169)), (1, (.t 170))]),
 qm 166 171,
 qr 172 (.ext (.t 166) 0),
 qr 173 (.ext (.t 166) 1),
 qm 23 172,
 qm 24 173])
 (.seq (.reg [qm 174 13,
 qr 175 (.call 85 [(1, (.t 174))]),
 qm 176 23,
 qm 4 175,
 qm 5 176])
 (.ret))))))))))
theorem knuth_spec (a b : List Nat) (ha : Wd a) (hb : Wd b) (la : a.length ≤ 1000000000) (h2 : 2 ≤ b.length) (hab : b.length ≤ a.length) (htop : b.getD (b.length - 1) 0 ≠ 0) :
    AFun Tryz.prog J0 96 [.l 1 (W a), .l 1 (W b)] (.t [.l 1 (W (dg B (nv B a / nv B b))), .l 1 (W (dg B (nv B a % nv B b)))]) := by
  have hbt := Wd_get hb (b.length - 1)
  obtain ⟨n1, n2, n3⟩ := kn_norm hb (by omega) htop
  have hlz := lz64_spec (b.getD (b.length - 1) 0) hbt
  have hs64 : 64 - bl (b.getD (b.length - 1) 0) ≤ 64 := by omega
  have hshb := shl_spec b ((64 - bl (b.getD (b.length - 1) 0) : Nat) : Int) hb (by omega)
  have hsha := shl_spec a ((64 - bl (b.getD (b.length - 1) 0) : Nat) : Int) ha (by omega)
  rw [shlR, if_neg (by omega), tn_nat] at hshb hsha
  have hA := nv_lt ha
  have hsc := scale_div (U := nv B a) (y := nv B b) (s := 64 - bl (b.getD (b.length - 1) 0))
  have hbeg := kn_begin (s := 64 - bl (b.getD (b.length - 1) 0)) hab (by omega) hA n3
  have hAs : nv B a * 2 ^ (64 - bl (b.getD (b.length - 1) 0)) < B ^ (a.length + 1) := by
    have h64 : 2 ^ (64 - bl (b.getD (b.length - 1) 0)) ≤ B := Nat.pow_le_pow_right (n := 2) (by decide) hs64
    rw [Nat.pow_succ]
    exact Nat.lt_of_lt_of_le ((Nat.mul_lt_mul_right (Nat.two_pow_pos _)).2 hA) (Nat.mul_le_mul_left _ h64)
  generalize 64 - bl (b.getD (b.length - 1) 0) = s at *
  obtain ⟨n, hn⟩ : ∃ n, n = b.length := ⟨_, rfl⟩
  obtain ⟨m, hm⟩ : ∃ m, m = a.length := ⟨_, rfl⟩
  obtain ⟨Vs, hVs⟩ : ∃ v, v = nv B b * 2 ^ s := ⟨_, rfl⟩
  obtain ⟨As, hAe⟩ : ∃ v, v = nv B a * 2 ^ s := ⟨_, rfl⟩
  rw [← hVs, ← hn] at n1 n2
  rw [← hVs] at hshb hsc hbeg
  rw [← hAe] at hsha hsc hAs hbeg
  rw [← hm] at hAs hbeg
  rw [← hn] at hbeg
  have hvl : dg B Vs = fl B n Vs := (fl_full (by decide) (.inr n1) n2).symm
  rw [hvl] at hshb
  have hupl := dg_len (by decide : 2 ≤ B) hAs
  have hcat : [dg B As, List.replicate (m + 1 - (dg B As).length) 0].flatten = fl B (m + 1) As := by
    rw [← fl_pad hAs]; simp
  have hcon := concat_spec [dg B As, List.replicate (m + 1 - (dg B As).length) 0] (by simp) (by rw [hcat, fl_len]; omega)
  rw [hcat] at hcon
  have hlu : (fl B (m + 1) As).length = m + 1 := fl_len _ _
  have hlv : (fl B n Vs).length = n := fl_len _ _
  have hsub1 : ((m : Int) + 1 - ((dg B As).length : Int)).toNat = m + 1 - (dg B As).length := by omega
  have hge : (0 : Int) ≤ (m : Int) + 1 - ((dg B As).length : Int) := by omega
  refine mkQ fol J0s Tryz.func96 a96 ?_
  unfold a96
  simp only [init_eq, initE, qm, qr, qn]
  have hQ1 : ((m : Int) + 1 - (n : Int)).toNat = m + 1 - n := by omega
  have hQ0 : (0 : Int) ≤ (m : Int) + 1 - (n : Int) := by omega
  repeat first | (refine hK _ ?_; clear hK K) | simp only [Sv, ↓reduceIte, Nat.reduceEqDiff] | ((first | refine vm_reg (fun K hK => ?_) | refine vm_dreg (fun K hK => ?_) | refine vm_dregx (fun K hK => ?_)); simp (disch := (first | omega | assumption)) only [S1, ↓reduceIte, Nat.reduceEqDiff, Nat.reduceAdd, Nat.reduceMul, Nat.reduceDiv, AOp.sb, AOp.mut, frzf, ↓Bool.false_eq_true, beq_self_eq_true, ite_self, Nat.reduceLeDiff, Int.reduceEq, Int.reduceSub, Int.reduceAdd, Int.reduceNeg, Int.reduceLT, Int.reduceLE, Nat.reduceLT, bz_M8, W_get, ← hn, tn_s1])
  refine clp_of _ _ (hlz) ?_ ?_
  · first | rfl | (simp (disch := (first | omega | assumption)) only [S1, ↓reduceIte, Nat.reduceEqDiff, Nat.reduceAdd, Nat.reduceMul, Nat.reduceDiv, AOp.sb, AOp.mut, frzf, ↓Bool.false_eq_true, beq_self_eq_true, ite_self, Nat.reduceLeDiff, Int.reduceEq, Int.reduceSub, Int.reduceAdd, Int.reduceNeg, Int.reduceLT, Int.reduceLE, Nat.reduceLT, bz_M8, W_get, ← hn, tn_s1])
  simp (disch := (first | omega | assumption)) only [S1, ↓reduceIte, Nat.reduceEqDiff, Nat.reduceAdd, Nat.reduceMul, Nat.reduceDiv, AOp.sb, AOp.mut, frzf, ↓Bool.false_eq_true, beq_self_eq_true, ite_self, Nat.reduceLeDiff, Int.reduceEq, Int.reduceSub, Int.reduceAdd, Int.reduceNeg, Int.reduceLT, Int.reduceLE, Nat.reduceLT, bz_M8, W_get, ← hn, tn_s1]
  repeat first | (refine hK _ ?_; clear hK K) | simp only [Sv, ↓reduceIte, Nat.reduceEqDiff] | ((first | refine vm_reg (fun K hK => ?_) | refine vm_dreg (fun K hK => ?_) | refine vm_dregx (fun K hK => ?_)); refine smQ @bz_M8 ?_)
  refine clp_of _ _ (hshb) ?_ ?_
  · exact rsQ @bz_M8
  refine smQ @bz_M8 ?_
  repeat first | (refine hK _ ?_; clear hK K) | simp only [Sv, ↓reduceIte, Nat.reduceEqDiff] | ((first | refine vm_reg (fun K hK => ?_) | refine vm_dreg (fun K hK => ?_) | refine vm_dregx (fun K hK => ?_)); refine smQ @bz_M8 ?_)
  refine clp_of _ _ (hsha) ?_ ?_
  · exact rsQ @bz_M8
  refine smQ @bz_M8 ?_
  repeat first | (refine hK _ ?_; clear hK K) | simp only [Sv, ↓reduceIte, Nat.reduceEqDiff] | ((first | refine vm_reg (fun K hK => ?_) | refine vm_dreg (fun K hK => ?_) | refine vm_dregx (fun K hK => ?_)); simp (disch := (first | omega | assumption)) only [S1, ↓reduceIte, Nat.reduceEqDiff, Nat.reduceAdd, Nat.reduceMul, Nat.reduceDiv, AOp.sb, AOp.mut, frzf, ↓Bool.false_eq_true, beq_self_eq_true, ite_self, Nat.reduceLeDiff, Int.reduceEq, Int.reduceSub, Int.reduceAdd, Int.reduceNeg, Int.reduceLT, Int.reduceLE, Nat.reduceLT, bz_M8, ← hm, hsub1, mk_W])
  refine clp_of _ _ (hcon) ?_ ?_
  · first | rfl | (simp (disch := (first | omega | assumption)) only [S1, ↓reduceIte, Nat.reduceEqDiff, Nat.reduceAdd, Nat.reduceMul, Nat.reduceDiv, AOp.sb, AOp.mut, frzf, ↓Bool.false_eq_true, beq_self_eq_true, ite_self, Nat.reduceLeDiff, Int.reduceEq, Int.reduceSub, Int.reduceAdd, Int.reduceNeg, Int.reduceLT, Int.reduceLE, Nat.reduceLT, bz_M8, ← hm, hsub1, mk_W])
  simp (disch := (first | omega | assumption)) only [S1, ↓reduceIte, Nat.reduceEqDiff, Nat.reduceAdd, Nat.reduceMul, Nat.reduceDiv, AOp.sb, AOp.mut, frzf, ↓Bool.false_eq_true, beq_self_eq_true, ite_self, Nat.reduceLeDiff, Int.reduceEq, Int.reduceSub, Int.reduceAdd, Int.reduceNeg, Int.reduceLT, Int.reduceLE, Nat.reduceLT, bz_M8, ← hm, hsub1, mk_W]
  try (refine hK _ ?_; clear hK K)
  refine spQ (ai @mk_W (ai @hQ1 (ai @hlu @bz_M8))) ?_
  have hVn : 0 < Vs := Nat.lt_of_lt_of_le (Nat.pow_pos (by decide)) n1
  refine vm_loopA [] Nat (fun i => ⟨[(6, .i .i64 (n : Int)), (7, .i .i64 (s : Int)), (8, .l 1 (W (fl B n Vs))), (12, .ow 1 0 (m + 1)), (13, .ow 1 1 (m + 1 - n)), (14, .i .i64 ((i : Int) - 1))],
      [(0, some ⟨29, 1, W (uL As Vs m n i), true, false⟩), (1, some ⟨29, 1, W (qL As Vs (m + 1 - n) i), true, false⟩)], 2⟩)
    (fun i => i ≤ m + 1 - n) (fun i => i) (m + 1 - n) (Nat.le_refl _) (by exact leQ) (by
    simp (disch := (first | omega | assumption)) only [Sl, Sa, Sw, ↓reduceIte, Nat.reduceEqDiff, Nat.reduceLT, List.all_nil, List.all_cons, Nat.reduceBneDiff, Nat.reduceAdd, bne_iff_ne, ne_eq, reduceCtorEq, not_false_eq_true, not_true_eq_false, Bool.and_true, Bool.true_and, and_true, true_and, and_self, i_eq]
    refine ⟨by omega, ?_, ?_⟩
    · rw [← uL_top (by omega) hbeg]
    · unfold qL; rw [Nat.sub_self, Nat.div_eq_of_lt hbeg]; simp [fl]) ?_
  intro i hi Q' hQ he hr
  cases i with
  | zero =>
    have hu0 : (uL As Vs m n 0).take n = fl B n (As % Vs) := by
      unfold uL; rw [Nat.pow_zero, Nat.div_one, fl, List.nil_append, List.take_append_of_le_length (by rw [fl_len]; exact Nat.le_refl _), List.take_of_length_le (by rw [fl_len]; exact Nat.le_refl _)]
    have hul : (uL As Vs m n 0).length = m + 1 := by unfold uL; rw [List.length_append, List.length_append, fl_len, fl_len, List.length_replicate]; omega
    have hq0 : qL As Vs (m + 1 - n) 0 = fl B (m + 1 - n) (As / Vs) := by unfold qL; rw [Nat.pow_zero, Nat.div_one]; rfl
    have hRn : As % Vs < B ^ n := Nat.lt_trans (Nat.mod_lt _ hVn) n2
    have hQb : As / Vs < B ^ (m + 1 - n) := by
      refine (Nat.div_lt_iff_lt_mul hVn).2 ?_
      rw [Nat.mul_comm]
      exact (Nat.div_lt_iff_lt_mul (Nat.pow_pos (by decide))).1 hbeg
    have hsh := shr_spec (fl B n (As % Vs)) (s : Int) (fl_Lt (by decide) _ _) (by rw [fl_len]; omega) (by omega)
    rw [shrR, if_neg (by omega), tn_nat, nv_fl, Nat.mod_eq_of_lt hRn, hsc.2] at hsh
    have hno := norm_spec (fl B (m + 1 - n) (As / Vs)) (by rw [fl_len]; omega)
    rw [dg_fl (by decide : 2 ≤ B) hQb] at hno
    try (refine hK _ ?_; clear hK K)
    refine spQ @bz_M8 ?_
    refine he _ _ ?_
    rw [hq0, ← hsc.1]
    try (refine hK _ ?_; clear hK K)
    exact wdQ (ai @hu0 (ai @W_take (ai @hul @bz_M8)))
  | succ j =>
    have hj : (((j + 1 : Nat) : Int) - 1) = (j : Int) := by omega
    have hnle : n ≤ 1099511627776 := by omega
    have hnm : n ≤ m + 1 - j := by omega
    have hjm : j + 1 + n ≤ m + 1 := by omega
    have hx : As / B ^ j % B < B := Nat.mod_lt _ (by decide)
    have hR : As / B ^ (j + 1) % Vs < Vs := Nat.mod_lt _ hVn
    have e0 : As / B ^ j = As / B ^ j % B + B * (As / B ^ (j + 1)) := by
      rw [Nat.pow_succ, ← Nat.div_div_eq_div_mul]; have := Nat.div_add_mod (As / B ^ j) B; omega
    obtain ⟨s1, s2, s3, s4⟩ := divOne_step (V := As / B ^ (j + 1)) hVn hx
    rw [← e0] at s1 s2 s3
    rw [uL_win]
    have hUlt : As / B ^ (j + 1) % Vs * B + As / B ^ j % B < Vs * B := by
      have := Nat.mul_le_mul_right B (show As / B ^ (j + 1) % Vs + 1 ≤ Vs from hR)
      rw [Nat.add_mul, Nat.one_mul] at this; omega
    obtain ⟨U, hU⟩ : ∃ U, U = As / B ^ (j + 1) % Vs * B + As / B ^ j % B := ⟨_, rfl⟩
    rw [← hU] at s1 s3 s4 hUlt ⊢
    have hX : (fl B j As).length = j := fl_len _ _
    have hAl : (fl B n U).length = n := fl_len _ _
    have hUB : U < B ^ n * B := Nat.lt_of_lt_of_le hUlt (Nat.mul_le_mul_right B (Nat.le_of_lt n2))
    have htB : U / B ^ n < B := (Nat.div_lt_iff_lt_mul (Nat.pow_pos (by decide))).2 (by rw [Nat.mul_comm]; exact hUB)
    have htm : U / B ^ n % B = U / B ^ n := Nat.mod_eq_of_lt htB
    obtain ⟨k, hk⟩ : ∃ k, n = k + 2 := ⟨n - 2, by omega⟩
    generalize hZ : List.replicate (m + 1 - (j + 1) - n) 0 = Z
    have hZl := congrArg List.length hZ
    rw [List.length_replicate] at hZl
    have w0 := win_len (t := U / B ^ n % B) (Z := Z) hX hAl
    have w1 := win_top (t := U / B ^ n % B) (Z := Z) hX hAl
    have w2 := win_get (t := U / B ^ n % B) (Z := Z) hX hAl (k := n - 1) (by omega) (i := j + (n - 1)) rfl
    have w3 := win_get (t := U / B ^ n % B) (Z := Z) hX hAl (k := n - 2) (by omega) (i := j + (n - 2)) rfl
    have w4 := win_cut (t := U / B ^ n % B) (Z := Z) hX hAl
    rw [fl_get _ _ _ (by omega)] at w2 w3
    have v1 := fl_get (b := B) n Vs (n - 1) (by omega)
    have v2 := fl_get (b := B) n Vs (n - 2) (by omega)
    have hn1 : n - 1 = k + 1 := by omega
    have hn2 : n - 2 = k := by omega
    rw [hn1] at w2 v1 n1
    rw [hn2] at w3 v2
    have ml : ∀ z : Nat, z % B < 18446744073709551616 := fun z => Nat.mod_lt z (by decide)
    have hv1 : Vs / B ^ (k + 1) < B := (Nat.div_lt_iff_lt_mul (Nat.pow_pos (by decide))).2 (by rw [← Nat.pow_succ', show (k + 1).succ = n from by omega]; exact n2)
    have hv1m : Vs / B ^ (k + 1) % B = Vs / B ^ (k + 1) := Nat.mod_eq_of_lt hv1
    have q1 : U / B ^ n % B ≤ Vs / B ^ (k + 1) % B := by
      rw [htm, hv1m, hk, Nat.pow_succ, Nat.mul_comm, ← Nat.div_div_eq_div_mul]
      refine Nat.div_le_div_right ?_
      exact Nat.le_of_lt ((Nat.div_lt_iff_lt_mul (by decide)).2 hUlt)
    have q2 : 0 < Vs / B ^ (k + 1) % B := by
      rw [hv1m]; exact (Nat.le_div_iff_mul_le (Nat.pow_pos (by decide))).2 (by rw [Nat.one_mul]; exact n1)
    have gs := guess_spec (U / B ^ n % B) (U / B ^ (k + 1) % B) (U / B ^ k % B) (Vs / B ^ (k + 1) % B) (Vs / B ^ k % B) q1 q2 (ml _) (ml _) (ml _) (ml _)
    have t1 : (U / B ^ n % B * 18446744073709551616 + U / B ^ (k + 1) % B) * 18446744073709551616 + U / B ^ k % B = U / B ^ k := by
      rw [htm, hk]; exact kn_top
    have t2 : Vs / B ^ (k + 1) % B * 18446744073709551616 + Vs / B ^ k % B = Vs / B ^ k := kn_top2 (by rw [← hk]; exact n2)
    rw [t1, t2] at gs
    have hVk : B ≤ Vs / B ^ k := (Nat.le_div_iff_mul_le (Nat.pow_pos (by decide))).2 (by rw [← Nat.pow_succ']; exact n1)
    obtain ⟨kg1, kg2⟩ := kn_guess (Nat.pow_pos (by decide : 0 < B) : 0 < B ^ k) hUlt hVk
    have gB : min 18446744073709551615 (U / B ^ k / (Vs / B ^ k)) < 18446744073709551616 := by omega
    obtain ⟨g, hg⟩ : ∃ g, g = min 18446744073709551615 (U / B ^ k / (Vs / B ^ k)) := ⟨_, rfl⟩
    rw [← hg] at gs gB
    have kg1' : U / Vs ≤ g := by rw [hg]; exact kg1
    have kg2' : g ≤ U / Vs + 1 := by rw [hg]; exact kg2
    have hj0 : (0 : Int) ≤ (j : Int) := by omega
    repeat first | (refine hK _ ?_; clear hK K) | simp only [Sv, ↓reduceIte, Nat.reduceEqDiff] | ((first | refine vm_reg (fun K hK => ?_) | refine vm_dreg (fun K hK => ?_) | refine vm_dregx (fun K hK => ?_)); refine smQ (ai @tn_s2 (ai @tn_s1 (ai @hlv (ai @hn2 (ai @hn1 (ai @v2 (ai @v1 (ai @w3 (ai @w2 (ai @w1 (ai @W_get (ai @tn_add2' (ai @tn_add1' (ai @tn_add' (ai @w0 (ai @hj0 (ai @hj @bz_M8))))))))))))))))) ?_)
    refine clp_of _ _ (gs) ?_ ?_
    · exact rsQ (ai @tn_s2 (ai @tn_s1 (ai @hlv (ai @hn2 (ai @hn1 (ai @v2 (ai @v1 (ai @w3 (ai @w2 (ai @w1 (ai @W_get (ai @tn_add2' (ai @tn_add1' (ai @tn_add' (ai @w0 (ai @hj0 (ai @hj @bz_M8)))))))))))))))))
    refine smQ (ai @tn_s2 (ai @tn_s1 (ai @hlv (ai @hn2 (ai @hn1 (ai @v2 (ai @v1 (ai @w3 (ai @w2 (ai @w1 (ai @W_get (ai @tn_add2' (ai @tn_add1' (ai @tn_add' (ai @w0 (ai @hj0 (ai @hj @bz_M8))))))))))))))))) ?_
    have hvd : nv B (fl B n Vs) = Vs := by rw [nv_fl, Nat.mod_eq_of_lt n2]
    have hms := mulSub_spec (fl B n U) (fl B n Vs) g (fl_Lt (by decide) _ _) (fl_Lt (by decide) _ _) gB (by omega) (by omega)
    rw [hvd, nv_fl, hAl] at hms
    obtain ⟨m1, m2⟩ := ms_def (A := U % B ^ n) (V := Vs) (w := g) (P := B ^ n) (Nat.mod_lt _ (Nat.pow_pos (by decide)))
    obtain ⟨c, hc⟩ : ∃ c, c = msC (U % B ^ n) Vs g (B ^ n) := ⟨_, rfl⟩
    rw [← hc] at hms m1 m2
    obtain ⟨o, ho⟩ : ∃ o, o = U % B ^ n + B ^ n * c - Vs * g := ⟨_, rfl⟩
    rw [← ho] at hms m1 m2
    have hcg := ms_le n2 (Nat.mod_lt U (Nat.pow_pos (by decide))) m1 m2
    obtain ⟨ks1, ks2⟩ := kn_sub (Nat.mod_lt U (Nat.pow_pos (by decide))) (Nat.mod_add_div U (B ^ n)).symm n2 hVn kg1' kg2' m1 m2
    have w5 := win_sub (t := U / B ^ n % B) (Z := Z) hX hAl
    have hol : (fl B n o).length = n := fl_len _ _
    have hcop := W_copy (A := fl B n U) (R := fl B n o) (Z := Z) (t := U / B ^ n % B) hX (by rw [hAl, hol])
    have w6 := win_len (t := U / B ^ n % B) (Z := Z) hX hol
    have w7 := win_top (t := U / B ^ n % B) (Z := Z) hX hol
    have w8 := fun t' => win_set (t := U / B ^ n % B) (Z := Z) hX hol t'
    repeat first | (refine hK _ ?_; clear hK K) | simp only [Sv, ↓reduceIte, Nat.reduceEqDiff] | ((first | refine vm_reg (fun K hK => ?_) | refine vm_dreg (fun K hK => ?_) | refine vm_dregx (fun K hK => ?_)); refine smQ (ai @Nat.add_sub_cancel_left (ai @w5 (ai @W_take (ai @W_drop (ai @w0 (ai @tn_add' (ai @hj @bz_M8))))))) ?_)
    refine clp_of _ _ (hms) ?_ ?_
    · exact rsQ (ai @Nat.add_sub_cancel_left (ai @w5 (ai @W_take (ai @W_drop (ai @w0 (ai @tn_add' (ai @hj @bz_M8)))))))
    refine smQ (ai @Nat.add_sub_cancel_left (ai @w5 (ai @W_take (ai @W_drop (ai @w0 (ai @tn_add' (ai @hj @bz_M8))))))) ?_
    repeat first | (refine hK _ ?_; clear hK K) | simp only [Sv, ↓reduceIte, Nat.reduceEqDiff] | ((first | refine vm_reg (fun K hK => ?_) | refine vm_dreg (fun K hK => ?_) | refine vm_dregx (fun K hK => ?_)); refine smQ (ai @w1 (ai @W_get (ai @tn_add' (ai @w0 @bz_M8)))) ?_)
    refine xlp_mk _ (sub64_x (U / B ^ n % B) c (by omega)) ?_
    refine smQ (ai @w1 (ai @W_get (ai @tn_add' (ai @w0 @bz_M8)))) ?_
    have htk : (fl B n o).take (m + 1 - j) = fl B n o := List.take_of_length_le (by omega)
    have hql := qL_len (As := As) (Vs := Vs) (Q := m + 1 - n) hi
    have hqs := fun d h => qL_set (As := As) (Vs := Vs) (d := d) hi h s2
    rw [s1] at hqs
    by_cases hcase : c ≤ U / B ^ n
    · obtain ⟨z1, z2, z3⟩ := ks1 hcase
      have hun : (if U / B ^ n % B < c then 1 else 0 : Nat) = 0 := if_neg (by rw [htm]; omega)
      have htop0 : (U / B ^ n % B + 18446744073709551616 - c) % 18446744073709551616 = 0 := by rw [htm, z2, Nat.add_sub_cancel_left]
      have hq2 := hqs g z1.symm
      have hlow := uL_low (As := As) (Vs := Vs) (m := m) (n := n) (j := j) (by omega) o (by rw [s3, z3])
      rw [hZ] at hlow
      try (refine hK _ ?_; clear hK K)
      refine spQ (ai @hq2 (ai @W_set (ai @hql (ai @hlow (ai @w8 (ai @W_set0 (ai @hcop (ai @htk (ai @W_take (ai @tn_add' (ai @w6 (ai @w0 (ai @htop0 (ai @hun (ai @hj @bz_M8))))))))))))))) ?_
      refine hQ _ j (by omega) (by omega) ?_
      exact ltQ
    · obtain ⟨z1, z2, z3⟩ := ks2 (Nat.lt_of_not_le hcase)
      have hun : (if U / B ^ n % B < c then 1 else 0 : Nat) = 1 := by rw [htm]; exact kn_un _ _ z2
      have htop1 : (U / B ^ n % B + 18446744073709551616 - c) % 18446744073709551616 = 18446744073709551615 := by rw [htm]; exact kn_m1 _ _ z2
      have hd1 : ((g : Nat) : Int) - 1 = ((U / Vs : Nat) : Int) := kn_d1 _ _ z1
      have hRB : U % Vs < B ^ n := Nat.lt_trans (Nat.mod_lt _ hVn) n2
      have had := limbAdd_fr (fl B n o) (fl B n Vs) (fl_Lt (by decide) _ _) (fl_Lt (by decide) _ _) (by rw [hol]; exact hnle) (by rw [hlv]; exact hnle)
      rw [nv_fl (b := B) n o, Nat.mod_eq_of_lt m1, hvd, hol, hlv, Nat.max_self, z3, Nat.add_div_right _ (Nat.pow_pos (by decide)), Nat.div_eq_of_lt hRB, fl_congr (by decide : 0 < B) (show (U % Vs + B ^ n) % B ^ n = (U % Vs) % B ^ n by rw [Nat.add_mod_right])] at had
      have w9 := win_len (t := 18446744073709551615) (Z := Z) hX hol
      have w10 := win_cut (t := 18446744073709551615) (Z := Z) hX hol
      have hwu : IntKind.wrap .u64 ((U / Vs : Nat) : Int) = ((U / Vs : Nat) : Int) := wuN _ (Nat.lt_of_le_of_lt kg1' gB)
      have w14 := win_sub (t := 18446744073709551615) (Z := Z) hX hol
      have hbl : (fl B n (U % Vs)).length = n := fl_len _ _
      have hcop2 := W_copy (A := fl B n o) (R := fl B n (U % Vs)) (Z := Z) (t := 18446744073709551615) hX (by rw [hbl, hol])
      have w11 := win_top (t := 18446744073709551615) (Z := Z) hX hbl
      have w12 := win_len (t := 18446744073709551615) (Z := Z) hX hbl
      have w13 := fun t' => win_set (t := 18446744073709551615) (Z := Z) hX hbl t'
      have htk2 : (fl B n (U % Vs)).take (m + 1 - j) = fl B n (U % Vs) := List.take_of_length_le (by rw [hbl]; exact hnm)
      have hq2 := hqs (U / Vs) rfl
      have hlow := uL_low (As := As) (Vs := Vs) (m := m) (n := n) (j := j) hjm (U % Vs) s3
      rw [hZ] at hlow
      try (refine hK _ ?_; clear hK K)
      refine wkQ (ai @hq2 (ai @W_set (ai @hql (ai @hlow (ai @w13 (ai @W_set0 (ai @wrapM (ai @w11 (ai @hcop2 (ai @htk2 (ai @W_get (ai @w12 (ai @hwu (ai @hd1 (ai @Nat.add_sub_cancel_left (ai @w14 (ai @w10 (ai @w9 (ai @w8 (ai @W_setM (ai @hcop (ai @htk (ai @W_drop (ai @W_take (ai @tn_add' (ai @w6 (ai @w0 (ai @htop1 (ai @hun (ai @hj @bz_M8)))))))))))))))))))))))))))))) ?_
      refine hQ _ j (Nat.le_of_succ_le hi) (Nat.lt_succ_self j) ?_
      exact ltQ
end Go.Proofs.YtbkpaeejjepnpaaGreat
namespace Go.Proofs.YtbkpaeejjepnpaaGreat
open Go Go.RowKit Ab
set_option linter.unusedSimpArgs false
set_option linter.unusedVariables false
set_option maxHeartbeats 10000000
theorem bz_M9 : type_of% (And.intro @wi (And.intro @tn_nat (And.intro @Nat.div_one (And.intro @Nat.mul_one (And.intro @W_len (And.intro @W_nf (And.intro @W_cell (And.intro @W_nil (@W_get))))))))) := And.intro @wi (And.intro @tn_nat (And.intro @Nat.div_one (And.intro @Nat.mul_one (And.intro @W_len (And.intro @W_nf (And.intro @W_cell (And.intro @W_nil (@W_get))))))))
def a46 : AC := .seq (.reg [qr 2 (.mv (.k .nl))])
 (.seq (.reg [qm 3 0,
 qr 4 (.bsl 29 1 1 [(.i .u64 0)] [(0, (.t 3))]),
 qr 5 (.call 73 [(1, (.t 4))]),
 qm 2 5])
 (.ret))
theorem natOf_spec (w : Nat) (hw : w < 18446744073709551616) : AFun Tryz.prog J0 46 [.i .u64 (w : Int)] (.o 29 1 (W (dg B w))) := by
  have ho := own_dg [w] (fun x hx => by rw [List.mem_singleton] at hx; subst hx; exact hw) (by simp)
  rw [nv_one] at ho
  refine mkQ fol J0s Tryz.func46 a46 ?_
  unfold a46
  simp only [init_eq, initE, qm, qr, qn]
  exact wdQ (ai @W1 (ai @lconsA (ai @lnilA @bz_M9)))
def a95 : AC := .seq (.reg [qr 4 (.mv (.k .nl)),
 qr 5 (.mv (.k (.i .u64 0))),
 qr 6 (.mv (.k (.i .i64 0)))])
 (.seq (.reg [qm 11 0,
 qm 12 1,
 qr 13 (.call 105 [(1, (.t 11)), (1, (.t 12))]),
 qm 10 13,
 qr 14 (.ext (.t 10) 0),
 qr 15 (.ext (.t 10) 1),
 qr 16 (.ext (.t 10) 2),
 qm 7 14,
 qm 8 15,
 qm 9 16])
 (.seq (.seq (.reg [qm 17 9,
 qr 18 (.bin .neq (.t 17) (.k (.i .i64 0)))])
 (.cond (.t 18)
 (.seq (.reg [qm 19 9,
 qr 4 (.mv (.k .nl)),
 qr 5 (.mv (.k (.i .u64 0))),
 qm 6 19])
 (.ret))
 (.skip)))
 (.seq (.reg [qm 20 7,
 qr 21 (.call 85 [(1, (.t 20))]),
 qm 22 8,
 qm 4 21,
 qm 5 22,
 qr 6 (.mv (.k (.i .i64 0)))])
 (.ret))))
theorem word_spec (a : List Nat) (w : Nat) (ha : Wd a) (hw0 : 0 < w) (hw : w < 18446744073709551616) (la : a.length ≤ 1099511627776) :
    AFun Tryz.prog J0 95 [.l 1 (W a), .i .u64 (w : Int)] (.t [.l 1 (W (dg B (nv B a / w))), .i .u64 ((nv B a % w : Nat) : Int), .i .i64 0]) := by
  have hno := norm_spec (fl B a.length (nv B a / w)) (by rw [fl_len]; omega)
  rw [dg_fl B2 (Nat.lt_of_le_of_lt (Nat.div_le_self _ _) (nv_lt ha))] at hno
  refine mkQ fol J0s Tryz.func95 a95 ?_
  unfold a95
  simp only [init_eq, initE, qm, qr, qn]
  have zc2 := divOne_spec a w ha hw0 hw la
  exact wdQ (ai @lconsA (ai @lnilA @bz_M9))
def a84 : AC := .seq (.reg [qr 4 (.mv (.k .nl)),
 qr 5 (.mv (.k .nl)),
 qr 6 (.mv (.k (.i .i64 0)))])
 (.seq (.reg [qm 12 0,
 qr 13 (.call 85 [(1, (.t 12))]),
 qm 14 1,
 qr 15 (.call 85 [(1, (.t 14))]),
 qm 0 13,
 qm 1 15])
 (.seq (.blk 0
 (.seq (.reg [qm 17 1,
 qr 18 (.len (.t 17)),
 qr 19 (.bin .eql (.t 18) (.k (.i .i64 0))),
 qm 16 19])
 (.cond (.t 16)
 (.seq (.reg [qr 4 (.mv (.k .nl)),
 qr 5 (.mv (.k .nl)),
 qr 6 (.mv (.k (.i .i64 1)))])
 (.ret))
 (.seq (.reg [qm 21 0,
 qm 22 1,
 qr 23 (.call 78 [(1, (.t 21)), (1, (.t 22))]),
 qr 24 (.bin .lss (.t 23) (.k (.i .i64 0))),
 qm 20 24])
 (.cond (.t 20)
 (.seq (.reg [qm 25 0,
 qr 4 (.mv (.k .nl)),
 qm 5 25,
 qr 6 (.mv (.k (.i .i64 0)))])
 (.ret))
 (.seq (.reg [qm 27 1,
 qr 28 (.len (.t 27)),
 qr 29 (.bin .eql (.t 28) (.k (.i .i64 1))),
 qm 26 29])
 (.cond (.t 26)
 (.seq (.reg [qm 31 0,
 qm 32 1,
 qr 33 (.idx 1 (.t 32) (.k (.i .i64 0))),
 qr 34 (.ld false 1 (.t 33)),
 qr 35 (.call 95 [(1, (.t 31)), (1, (.t 34))]),
 qm 30 35,
 qr 36 (.ext (.t 30) 0),
 qr 37 (.ext (.t 30) 1),
 qr 38 (.ext (.t 30) 2),
 qm 7 36,
 qm 8 37,
 qm 9 38])
 (.seq (.reg [qm 39 7,
 qm 40 8,
 qr 41 (.call 46 [(1, (.t 40))]),
 qm 42 9,
 qm 4 39,
 qm 5 41,
 qm 6 42])
 (.ret)))
 (.skip))))))))
 (.seq (.reg [qm 44 0,
 qm 45 1,
 qr 46 (.call 96 [(1, (.t 44)), (1, (.t 45))]),
 qm 43 46,
 qr 47 (.ext (.t 43) 0),
 qr 48 (.ext (.t 43) 1),
 qm 10 47,
 qm 11 48])
 (.seq (.reg [qm 49 10,
 qm 50 11,
 qm 4 49,
 qm 5 50,
 qr 6 (.mv (.k (.i .i64 0)))])
 (.ret)))))
theorem quo_spec (a b : List Nat) (ha : Wd a) (hb : Wd b) (la : a.length ≤ 1000000000) (lb : b.length ≤ 1000000000) :
    AFun Tryz.prog J0 84 [.l 1 (W a), .l 1 (W b)] (.t [.l 1 (W (qQ (nv B a) (nv B b))), .l 1 (W (qR (nv B a) (nv B b))), .i .i64 (qE (nv B b))]) := by
  have hna := norm_spec a (by omega)
  have hnb := norm_spec b (by omega)
  have ta : (tz a).length ≤ 1000000000 := Nat.le_trans (tz_len a) la
  have tb : (tz b).length ≤ 1000000000 := Nat.le_trans (tz_len b) lb
  have wa := Lt_tz ha
  have wb := Lt_tz hb
  have va : nv B (tz a) = nv B a := nv_tz a
  have vb : nv B (tz b) = nv B b := nv_tz b
  have ea := tz_tz a
  have eb := tz_tz b
  rw [← va, ← vb]
  generalize tz a = x at *
  generalize tz b = y at *
  have hcm := cmp_spec x y wa wb (by omega) (by omega)
  refine mkQ fol J0s Tryz.func84 a84 ?_
  unfold a84
  simp only [init_eq, initE, qm, qr, qn]
  by_cases h0 : (y.length : Int) = 0
  · have hy : y = [] := List.eq_nil_of_length_eq_zero (by omega)
    subst hy
    rw [show nv B [] = 0 from rfl, qQ_0, qR_0, qE_0]
    exact wdQ (ai @h0 (ai @lconsA (ai @lnilA @bz_M9)))
  · have hy : y ≠ [] := fun h => h0 (by rw [h]; rfl)
    have htop := nv_top (b := B) eb hy
    have hp : 0 < nv B y := Nat.lt_of_lt_of_le (Nat.pow_pos (by decide)) htop
    rw [qE_p hp, qR_p hp]
    by_cases h1 : nv B x < nv B y
    · have hs : (sg (nv B x) (nv B y) < 0) = True := by rw [sg_lt]; exact eq_true h1
      have e1 : qQ (nv B x) (nv B y) = [] := by unfold qQ; rw [Nat.div_eq_of_lt h1]; rfl
      have e2 : dg B (nv B x % nv B y) = x := by rw [Nat.mod_eq_of_lt h1, ← tz_dg B2 wa, ea]
      rw [e1, e2]
      exact wdQ (ai @hs (ai @h0 (ai @lconsA (ai @lnilA @bz_M9))))
    · have hs : (sg (nv B x) (nv B y) < 0) = False := by rw [sg_lt]; exact eq_false h1
      by_cases h2 : (y.length : Int) = 1
      · have hg := nv_get1 (b := y) (by omega)
        have hlt : nv B y < 18446744073709551616 := by have := nv_lt wb; rw [show y.length = 1 from by omega, Nat.pow_one] at this; exact this
        have hw := word_spec x (nv B y) wa hp hlt (by omega)
        have hm := Nat.mod_lt (nv B x) hp
        have hof := natOf_spec (nv B x % nv B y) (by omega)
        have ht0 : (Int.toNat 0) = 0 := rfl
        repeat first | (refine hK _ ?_; clear hK K) | simp only [Sv, ↓reduceIte, Nat.reduceEqDiff] | ((first | refine vm_reg (fun K hK => ?_) | refine vm_dreg (fun K hK => ?_) | refine vm_dregx (fun K hK => ?_) | refine clp_q ?_ | refine clq_mk (by assumption) ?_ | refine mcq_q ?_ | (apply mcr_mk; assumption) | (apply ocr_mk; assumption)); simp (disch := (first | omega | assumption)) only [S1, ↓reduceIte, Nat.reduceEqDiff, Nat.reduceAdd, Nat.reduceMul, Nat.reduceDiv, AOp.sb, AOp.mut, frzf, ↓Bool.false_eq_true, beq_self_eq_true, ite_self, Nat.reduceLeDiff, Int.reduceEq, Int.reduceSub, Int.reduceAdd, Int.reduceNeg, Int.reduceLT, Int.reduceLE, Nat.reduceLT, bz_M9, List.length_nil, List.length_cons, h0, hs, h2, W_get, ht0, hg, qQ])
        simp (disch := (first | omega | assumption)) only [retOk, retN, ret1, retF, ret1F, V.okArg, and_true, true_and, S1, ↓reduceIte, Nat.reduceEqDiff, Nat.reduceAdd, Nat.reduceMul, Nat.reduceDiv, AOp.sb, AOp.mut, frzf, ↓Bool.false_eq_true, beq_self_eq_true, ite_self, Nat.reduceLeDiff, Int.reduceEq, Int.reduceSub, Int.reduceAdd, Int.reduceNeg, Int.reduceLT, Int.reduceLE, Nat.reduceLT, bz_M9, List.length_nil, List.length_cons, h0, hs, h2, W_get, ht0, hg, qQ]
      · have hx2 : y.length ≤ x.length := by
          have := nv_lt wa
          have h3 : B ^ (y.length - 1) < B ^ x.length := by omega
          have := (Nat.pow_lt_pow_iff_right (by decide : 1 < B)).1 h3
          omega
        have hkn := knuth_spec x y wa wb (by omega) (by omega) hx2 (by
          intro h
          have h4 := tz_zero y (y.length - 1) (by omega) h
          rw [show y.length - 1 + 1 = y.length from by omega, List.take_length, eb] at h4
          have := tz_len (y.take (y.length - 1))
          rw [← h4, List.length_take] at this; omega)
        repeat first | (refine hK _ ?_; clear hK K) | simp only [Sv, ↓reduceIte, Nat.reduceEqDiff] | ((first | refine vm_reg (fun K hK => ?_) | refine vm_dreg (fun K hK => ?_) | refine vm_dregx (fun K hK => ?_) | refine clp_q ?_ | refine clq_mk (by assumption) ?_ | refine mcq_q ?_ | (apply mcr_mk; assumption) | (apply ocr_mk; assumption)); simp (disch := (first | omega | assumption)) only [S1, ↓reduceIte, Nat.reduceEqDiff, Nat.reduceAdd, Nat.reduceMul, Nat.reduceDiv, AOp.sb, AOp.mut, frzf, ↓Bool.false_eq_true, beq_self_eq_true, ite_self, Nat.reduceLeDiff, Int.reduceEq, Int.reduceSub, Int.reduceAdd, Int.reduceNeg, Int.reduceLT, Int.reduceLE, Nat.reduceLT, bz_M9, List.length_nil, List.length_cons, h0, hs, h2, qQ])
        simp (disch := (first | omega | assumption)) only [retOk, retN, ret1, retF, ret1F, V.okArg, and_true, true_and, S1, ↓reduceIte, Nat.reduceEqDiff, Nat.reduceAdd, Nat.reduceMul, Nat.reduceDiv, AOp.sb, AOp.mut, frzf, ↓Bool.false_eq_true, beq_self_eq_true, ite_self, Nat.reduceLeDiff, Int.reduceEq, Int.reduceSub, Int.reduceAdd, Int.reduceNeg, Int.reduceLT, Int.reduceLE, Nat.reduceLT, bz_M9, List.length_nil, List.length_cons, h0, hs, h2, qQ]
def a104 : AC := .seq (.reg [qr 4 (.mv (.k .nl)),
 qr 5 (.mv (.k (.i .i64 0)))])
 (.seq (.reg [qm 10 0,
 qm 11 1,
 qr 12 (.call 84 [(1, (.t 10)), (1, (.t 11))]),
 qm 9 12,
 qr 13 (.ext (.t 9) 0),
 qr 14 (.ext (.t 9) 1),
 qr 15 (.ext (.t 9) 2),
 qm 6 13,
 qm 7 14,
 qm 8 15])
 (.seq (.reg [qm 16 7,
 qm 17 8,
 qm 4 16,
 qm 5 17])
 (.ret)))
theorem mod_spec (a b : List Nat) (ha : Wd a) (hb : Wd b) (la : a.length ≤ 1000000000) (lb : b.length ≤ 1000000000) :
    AFun Tryz.prog J0 104 [.l 1 (W a), .l 1 (W b)] (.t [.l 1 (W (qR (nv B a) (nv B b))), .i .i64 (qE (nv B b))]) := by
  refine mkQ fol J0s Tryz.func104 a104 ?_
  unfold a104
  simp only [init_eq, initE, qm, qr, qn]
  have zc3 := quo_spec a b ha hb la lb
  exact wdQ (ai @lconsA (ai @lnilA @bz_M9))
def a63 : AC := .seq (.reg [qr 4 (.mv (.k .nl)),
 qr 5 (.mv (.k (.i .i64 0)))])
 (.seq (.reg [qm 10 0,
 qm 11 1,
 qr 12 (.call 84 [(1, (.t 10)), (1, (.t 11))]),
 qm 9 12,
 qr 13 (.ext (.t 9) 0),
 qr 14 (.ext (.t 9) 1),
 qr 15 (.ext (.t 9) 2),
 qm 6 13,
 qm 7 14,
 qm 8 15])
 (.seq (.blk 0
 (.seq (.reg [qm 17 8,
 qr 18 (.bin .neq (.t 17) (.k (.i .i64 0))),
 qm 16 18])
 (.cond (.t 16)
 (.seq (.reg [qm 19 8,
 qr 4 (.mv (.k .nl)),
 qm 5 19])
 (.ret))
 (.seq (.reg [qm 21 7,
 qr 22 (.len (.t 21)),
 qr 23 (.bin .gtr (.t 22) (.k (.i .i64 0))),
 qm 20 23])
 (.cond (.t 20)
 (.seq (.reg [qr 4 (.mv (.k .nl)),
 qr 5 (.mv (.k (.i .i64 4)))])
 (.ret))
 (.skip))))))
 (.seq (.reg [qm 24 6,
 qm 4 24,
 qr 5 (.mv (.k (.i .i64 0)))])
 (.ret))))
theorem exact_spec (a b : List Nat) (ha : Wd a) (hb : Wd b) (la : a.length ≤ 1000000000) (lb : b.length ≤ 1000000000) :
    AFun Tryz.prog J0 63 [.l 1 (W a), .l 1 (W b)] (.t [.l 1 (W (exQ (nv B a) (nv B b))), .i .i64 (exE (nv B a) (nv B b))]) := by
  have hq := quo_spec a b ha hb la lb
  generalize nv B a = u at *
  generalize nv B b = v at *
  refine mkQ fol J0s Tryz.func63 a63 ?_
  unfold a63
  simp only [init_eq, initE, qm, qr, qn]
  by_cases h0 : v = 0
  · rw [show exQ u v = [] from if_pos h0, show exE u v = 1 from if_pos h0]
    subst h0
    exact wdQ (ai @qE_0 (ai @lconsA (ai @lnilA @bz_M9)))
  · have e := qE_p (v := v) (by omega)
    by_cases h1 : u % v = 0
    · have hl : ((qR u v).length : Int) = 0 := qR_nil.2 (.inr h1)
      rw [show exQ u v = qQ u v from (if_neg h0).trans (if_pos h1), show exE u v = 0 from (if_neg h0).trans (if_pos h1)]
      exact wdQ (ai @hl (ai @e (ai @lconsA (ai @lnilA @bz_M9))))
    · have hl : (0 : Int) < ((qR u v).length : Int) := by
        have : ¬ ((qR u v).length : Int) = 0 := fun h => by rcases qR_nil.1 h with h2 | h2 <;> omega
        omega
      rw [show exQ u v = [] from (if_neg h0).trans (if_neg h1), show exE u v = 4 from (if_neg h0).trans (if_neg h1)]
      exact wdQ (ai @hl (ai @e (ai @lconsA (ai @lnilA @bz_M9))))
end Go.Proofs.YtbkpaeejjepnpaaGreat
