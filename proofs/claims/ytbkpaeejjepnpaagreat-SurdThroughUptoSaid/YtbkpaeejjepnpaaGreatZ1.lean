/-
  zz: integers: signs, sums, products.
-/
import Derived.Test.YtbkpaeejjepnpaaGreatP1
import Derived.Test.YtbkpaeejjepnpaaGreatGG
import Derived.Test.YtbkpaeejjepnpaaGreatRc
namespace Go.Proofs.YtbkpaeejjepnpaaGreat
open Go Go.RowKit Ab
set_option linter.unusedSimpArgs false
set_option linter.unusedVariables false
set_option maxHeartbeats 10000000
theorem bz_Z1 : type_of% (And.intro @Bool.false_and (And.intro @wi (And.intro @tn_nat (And.intro @Nat.div_one (And.intro @Nat.mul_one (And.intro @W_len (And.intro @W_nf (And.intro @W_cell (And.intro @W_nil (And.intro @W_get (@nf_g))))))))))) := And.intro @Bool.false_and (And.intro @wi (And.intro @tn_nat (And.intro @Nat.div_one (And.intro @Nat.mul_one (And.intro @W_len (And.intro @W_nf (And.intro @W_cell (And.intro @W_nil (And.intro @W_get (@nf_g))))))))))
def zI (s : Bool) (n : Nat) : Int := if s then -(n : Int) else (n : Int)
abbrev zL (s : Bool) (a : List Nat) : V := .g [.b s, .l 1 (W a)]
abbrev zN (z : Int) : V := .g [.b (decide (z < 0)), .l 1 (W (dg B z.natAbs))]
def zv (s : Bool) (a : List Nat) : Int := zI s (nv B a)
theorem zI_abs (s : Bool) (n : Nat) : (zI s n).natAbs = n := by unfold zI; split <;> omega
theorem zv_abs (s : Bool) (a : List Nat) : (zv s a).natAbs = nv B a := zI_abs s _
theorem zI_neg (s : Bool) (n : Nat) : decide (zI s n < 0) = (s && decide (0 < n)) := by
  unfold zI; cases s
  · simp
  · simp
theorem zN_I (s : Bool) (n : Nat) : zN (zI s n) = .g [.b (s && decide (0 < n)), .l 1 (W (dg B n))] := by
  show V.g [.b (decide (zI s n < 0)), .l 1 (W (dg B (zI s n).natAbs))] = _
  rw [zI_abs, zI_neg]
theorem zv_N (z : Int) : zv (decide (z < 0)) (dg B z.natAbs) = z := by
  unfold zv zI; rw [nv_dgB]
  by_cases h : z < 0
  · simp [h]; omega
  · simp [h]; omega
theorem zI_self (z : Int) : zI (decide (z < 0)) z.natAbs = z := by
  unfold zI
  by_cases h : z < 0
  · simp [h]; omega
  · simp [h]; omega
theorem dg_pos {n : Nat} : ((0 : Int) < (((dg B n).length : Nat) : Int)) = (0 < n) := by
  have h := dg_nil (b := B) B2 (v := n)
  refine propext ⟨fun h1 => ?_, fun h1 => ?_⟩
  · rcases Nat.eq_zero_or_pos n with h2 | h2
    · rw [h.2 h2] at h1; simp at h1
    · exact h2
  · rcases Nat.eq_zero_or_pos (dg B n).length with h2 | h2
    · have := h.1 (List.eq_nil_of_length_eq_zero h2); omega
    · omega
def sgz (z : Int) : Int := if z < 0 then -1 else if 0 < z then 1 else 0
def cz (x y : Int) : Int := if x < y then -1 else if x = y then 0 else 1
def a64 : AC := .seq (.reg [qr 4 (.al 27 [(.b false), (.l 1 [])])])
 (.seq (.reg [qm 5 0,
 qm 6 5,
 ⟨some 7, some (6, true), .mv (.t 1)⟩,
 ⟨some 8, some (6, true), .len (.t 7)⟩,
 ⟨some 9, some (6, true), .bin .gtr (.t 8) (.k (.i .i64 0))⟩,
 qr 10 (.pick (.t 6) (.t 9) (.k (.b false))),
 qm 11 1,
 qr 12 (.bld [(.b false), (.l 1 [])] [(0, 1, (.t 10)), (1, 1, (.t 11))]),
 qn (.st 2 (.t 4) (.t 12))])
 (.ret))
theorem zof_spec (s : Bool) (n : Nat) : AFun Tryz.prog J0 64 [.b s, .l 1 (W (dg B n))] (zN (zI s n)) := by
  rw [zN_I]
  refine mkcQ fol J0s Tryz.func64 a64 [.c 4 true 2] ?_
  unfold a64
  simp only [init_eq, initE, qm, qr, qn]
  cases s
  · refine spQ (ai @lnilA @bz_Z1) ?_
    exact rcQ (ai @lnilA @bz_Z1)
  · by_cases h : 0 < n
    · have e : decide (0 < n) = true := decide_eq_true h
      rw [e]
      refine spQ (ai @h (ai @dg_pos (ai @lnilA @bz_Z1))) ?_
      exact rcQ (ai @lnilA @bz_Z1)
    · have e : decide (0 < n) = false := decide_eq_false h
      rw [e]
      refine spQ (ai @h (ai @dg_pos (ai @lnilA @bz_Z1))) ?_
      exact rcQ (ai @lnilA @bz_Z1)
def a65 : AC := .seq (.reg [qr 1 (.bx 27 (.t 0)),
 qr 2 (.al 27 [(.b false), (.l 1 [])])])
 (.seq (.dreg [qr 3 (.fad 0 (.t 1)),
 qr 4 (.ld false 1 (.t 3)),
 qr 5 (.fad 1 (.t 1)),
 qr 6 (.ld false 1 (.t 5)),
 qr 7 (.call 85 [(1, (.t 6))]),
 qr 8 (.call 64 [(1, (.t 4)), (1, (.t 7))]),
 qn (.st 2 (.t 2) (.t 8))])
 (.ret))
theorem znorm_spec (s : Bool) (a : List Nat) (ha : Wd a) (la : a.length ≤ 1000000000) : AFun Tryz.prog J0 65 [zL s a] (zN (zv s a)) := by
  have h1 := (norm_dg a ha (by omega)).frozen
  have h2 := zof_spec s (nv B a)
  refine mkcQ fol J0s Tryz.func65 a65 [.c 2 true 2] ?_
  unfold a65
  simp only [init_eq, initE, qm, qr, qn]
  repeat first | (refine hK _ ?_; clear hK K) | simp only [Sv, ↓reduceIte, Nat.reduceEqDiff] | ((first | refine vm_reg (fun K hK => ?_) | refine vm_dreg (fun K hK => ?_) | refine vm_dregx (fun K hK => ?_) | refine clp_q ?_ | refine clq_mk (by assumption) ?_ | refine mcq_q ?_ | (apply mcr_mk; assumption) | (apply ocr_mk; assumption)); simp (disch := (first | omega | assumption)) only [S1, ↓reduceIte, Nat.reduceEqDiff, Nat.reduceAdd, Nat.reduceMul, Nat.reduceDiv, AOp.sb, AOp.mut, frzf, ↓Bool.false_eq_true, beq_self_eq_true, ite_self, Nat.reduceLeDiff, Int.reduceEq, Int.reduceSub, Int.reduceAdd, Int.reduceNeg, Int.reduceLT, Int.reduceLE, Nat.reduceLT, bz_Z1, List.length_nil, zv])
  simp (disch := (first | omega | assumption)) only [retC, rsVs_nil, rsVs_cons, rsV_t, rsV_c, rsp_pt, rsq_t, rsq_f, ocons_ss, retV_1, retV_2, retNV_nil, retNV_cons, retOk, retN, ret1, retF, ret1F, V.okArg, and_true, true_and, S1, ↓reduceIte, Nat.reduceEqDiff, Nat.reduceAdd, Nat.reduceMul, Nat.reduceDiv, AOp.sb, AOp.mut, frzf, ↓Bool.false_eq_true, beq_self_eq_true, ite_self, Nat.reduceLeDiff, Int.reduceEq, Int.reduceSub, Int.reduceAdd, Int.reduceNeg, Int.reduceLT, Int.reduceLE, Nat.reduceLT, bz_Z1, List.length_nil, zv]
def a33 : AC := .seq (.reg [qr 4 (.al 27 [(.b false), (.l 1 [])])])
 (.seq (.reg [qm 5 0,
 qm 6 1,
 qr 7 (.bld [(.b false), (.l 1 [])] [(0, 1, (.t 5)), (1, 1, (.t 6))]),
 qr 8 (.call 65 [(1, (.t 7))]),
 qn (.st 2 (.t 4) (.t 8))])
 (.ret))
theorem znat_spec (s : Bool) (a : List Nat) (ha : Wd a) (la : a.length ≤ 1000000000) : AFun Tryz.prog J0 33 [.b s, .l 1 (W a)] (zN (zv s a)) := by
  have h1 := znorm_spec s a ha la
  refine mkcQ fol J0s Tryz.func33 a33 [.c 4 true 2] ?_
  unfold a33
  simp only [init_eq, initE, qm, qr, qn]
  exact wcQ (ai @lnilA @bz_Z1)
def a52 : AC := .seq (.reg [qr 2 (.al 27 [(.b false), (.l 1 [])])])
 (.seq (.seq (.reg [qm 3 0,
 qr 4 (.bin .lss (.t 3) (.k (.i .i64 0)))])
 (.cond (.t 4)
 (.seq (.reg [qm 5 0,
 qr 6 (.cvt .u64 (.t 5)),
 qr 7 (.un .neg (.t 6)),
 qr 8 (.call 46 [(1, (.t 7))]),
 qr 9 (.call 64 [(1, (.k (.b true))), (1, (.t 8))]),
 qn (.st 2 (.t 2) (.t 9))])
 (.ret))
 (.skip)))
 (.seq (.reg [qm 10 0,
 qr 11 (.cvt .u64 (.t 10)),
 qr 12 (.call 46 [(1, (.t 11))]),
 qr 13 (.call 64 [(1, (.k (.b false))), (1, (.t 12))]),
 qn (.st 2 (.t 2) (.t 13))])
 (.ret)))
theorem zofn_spec (n : Int) (h1 : -9223372036854775808 ≤ n) (h2 : n < 9223372036854775808) : AFun Tryz.prog J0 52 [.i .i64 n] (zN n) := by
  have hof := (natOf_spec n.natAbs (by omega)).frozen
  have h3 := zof_spec (decide (n < 0)) n.natAbs
  rw [zI_self] at h3
  by_cases h : n < 0
  · have e1 : decide (n < 0) = true := decide_eq_true h
    rw [show zN n = .g [.b true, .l 1 (W (dg B n.natAbs))] from by show V.g [.b (decide (n < 0)), _] = _; rw [e1]] at h3 ⊢
    rw [e1] at h3
    refine mkcQ fol J0s Tryz.func52 a52 [.c 2 true 2] ?_
    unfold a52
    simp only [init_eq, initE, qm, qr, qn]
    have e2 : IntKind.u64.wrap (0 - IntKind.u64.wrap n) = (n.natAbs : Int) := by rw [IntKind.wrap_u64, IntKind.wrap_u64]; omega
    exact wcQ (ai @e1 (ai @e2 (ai @h (ai @lnilA @bz_Z1))))
  · have e1 : decide (n < 0) = false := decide_eq_false h
    rw [show zN n = .g [.b false, .l 1 (W (dg B n.natAbs))] from by show V.g [.b (decide (n < 0)), _] = _; rw [e1]] at h3 ⊢
    rw [e1] at h3
    refine mkcQ fol J0s Tryz.func52 a52 [.c 2 true 2] ?_
    unfold a52
    simp only [init_eq, initE, qm, qr, qn]
    have e2 : IntKind.u64.wrap n = (n.natAbs : Int) := by rw [IntKind.wrap_u64]; omega
    exact wcQ (ai @e1 (ai @e2 (ai @h (ai @lnilA @bz_Z1))))
def a75 : AC := .seq (.reg [qr 1 (.bx 27 (.t 0)),
 qr 2 (.mv (.k (.i .i64 0)))])
 (.seq (.seq (.reg [qr 4 (.ld true 2 (.t 1)),
 qr 5 (.call 65 [(1, (.t 4))]),
 qr 3 (.al 27 [(.b false), (.l 1 [])]),
 qn (.st 2 (.t 3) (.t 5))])
 (.blk 0
 (.seq (.reg [qr 7 (.fad 0 (.t 3)),
 qr 8 (.ld false 1 (.t 7)),
 qm 6 8])
 (.cond (.t 6)
 (.seq (.reg [qr 2 (.mv (.k (.i .i64 (-1))))])
 (.ret))
 (.seq (.reg [qr 10 (.fad 1 (.t 3)),
 qr 11 (.ld false 1 (.t 10)),
 qr 12 (.len (.t 11)),
 qr 13 (.bin .gtr (.t 12) (.k (.i .i64 0))),
 qm 9 13])
 (.cond (.t 9)
 (.seq (.reg [qr 2 (.mv (.k (.i .i64 1)))])
 (.ret))
 (.skip)))))))
 (.seq (.reg [qr 2 (.mv (.k (.i .i64 0)))])
 (.ret)))
theorem zsign_spec (s : Bool) (a : List Nat) (ha : Wd a) (la : a.length ≤ 1000000000) : AFun Tryz.prog J0 75 [zL s a] (.i .i64 (sgz (zv s a))) := by
  have h1 := znorm_spec s a ha la
  have hp := dg_pos (n := (zv s a).natAbs)
  generalize zv s a = z at *
  refine mkQ fol J0s Tryz.func75 a75 ?_
  unfold a75
  simp only [init_eq, initE, qm, qr, qn]
  by_cases h : z < 0
  · rw [show sgz z = -1 from if_pos h]
    exact wdQ (ai @h (ai @lnilA @bz_Z1))
  · by_cases h0 : 0 < z
    · have e : 0 < z.natAbs := by omega
      rw [show sgz z = 1 from (if_neg h).trans (if_pos h0)]
      exact wdQ (ai @e (ai @hp (ai @h (ai @lnilA @bz_Z1))))
    · have e : ¬ 0 < z.natAbs := by omega
      rw [show sgz z = 0 from (if_neg h).trans (if_neg h0)]
      exact wdQ (ai @e (ai @hp (ai @h (ai @lnilA @bz_Z1))))
theorem cz_eq (s t : Bool) (u v : Nat) : (sgz (zI s u) < sgz (zI t v) → cz (zI s u) (zI t v) = -1) ∧ (sgz (zI t v) < sgz (zI s u) → cz (zI s u) (zI t v) = 1) ∧ (sgz (zI s u) = sgz (zI t v) → sgz (zI s u) * sg u v = cz (zI s u) (zI t v)) := by
  unfold sgz cz zI sg
  cases s <;> cases t <;> simp only [if_true, Bool.false_eq_true, if_false] <;> refine ⟨fun h => ?_, fun h => ?_, fun h => ?_⟩ <;> (repeat' split at h) <;> (repeat' split) <;> first | rfl | omega
theorem sgz_bnd (z : Int) : -1 ≤ sgz z ∧ sgz z ≤ 1 := by unfold sgz; split; decide; split <;> decide
theorem sg_bnd (u v : Nat) : -1 ≤ sg u v ∧ sg u v ≤ 1 := by unfold sg; split; decide; split <;> decide
theorem mul1_bnd {a b : Int} (h1 : -1 ≤ a ∧ a ≤ 1) (h2 : -1 ≤ b ∧ b ≤ 1) : IntKind.i64.wrap (a * b) = a * b := by
  refine wi ?_
  have ha : a = -1 ∨ a = 0 ∨ a = 1 := by omega
  have hb : b = -1 ∨ b = 0 ∨ b = 1 := by omega
  rcases ha with rfl | rfl | rfl <;> rcases hb with rfl | rfl | rfl <;> decide
def a57 : AC := .seq (.reg [qr 2 (.bx 27 (.t 0)),
 qr 3 (.bx 27 (.t 1)),
 qr 4 (.mv (.k (.i .i64 0)))])
 (.seq (.dreg [qr 7 (.ld true 2 (.t 2)),
 qr 8 (.call 75 [(1, (.t 7))]),
 qr 9 (.ld true 2 (.t 3)),
 qr 10 (.call 75 [(1, (.t 9))]),
 qm 5 8,
 qm 6 10])
 (.seq (.blk 0
 (.seq (.reg [qm 12 5,
 qm 13 6,
 qr 14 (.bin .lss (.t 12) (.t 13)),
 qm 11 14])
 (.cond (.t 11)
 (.seq (.reg [qr 4 (.mv (.k (.i .i64 (-1))))])
 (.ret))
 (.seq (.reg [qm 16 5,
 qm 17 6,
 qr 18 (.bin .gtr (.t 16) (.t 17)),
 qm 15 18])
 (.cond (.t 15)
 (.seq (.reg [qr 4 (.mv (.k (.i .i64 1)))])
 (.ret))
 (.skip))))))
 (.seq (.reg [qm 19 5,
 qr 20 (.fad 1 (.t 2)),
 qr 21 (.ld false 1 (.t 20)),
 qr 22 (.fad 1 (.t 3)),
 qr 23 (.ld false 1 (.t 22)),
 qr 24 (.call 78 [(1, (.t 21)), (1, (.t 23))]),
 qr 25 (.bin .mul (.t 19) (.t 24)),
 qm 4 25])
 (.ret))))
theorem zcmp_spec (s t : Bool) (a b : List Nat) (ha : Wd a) (hb : Wd b) (la : a.length ≤ 1000000000) (lb : b.length ≤ 1000000000) : AFun Tryz.prog J0 57 [zL s a, zL t b] (.i .i64 (cz (zv s a) (zv t b))) := by
  have h1 := zsign_spec s a ha la
  have h2 := zsign_spec t b hb lb
  have h3 := cmp_spec a b ha hb (by omega) (by omega)
  obtain ⟨e1, e2, e3⟩ := cz_eq s t (nv B a) (nv B b)
  have hw := mul1_bnd (sgz_bnd (zI s (nv B a))) (sg_bnd (nv B a) (nv B b))
  unfold zv at *
  generalize cz (zI s (nv B a)) (zI t (nv B b)) = r at *
  generalize sgz (zI s (nv B a)) = x at *
  generalize sgz (zI t (nv B b)) = y at *
  generalize sg (nv B a) (nv B b) = w at *
  refine mkQ fol J0s Tryz.func57 a57 ?_
  unfold a57
  simp only [init_eq, initE, qm, qr, qn]
  by_cases c1 : x < y
  · rw [e1 c1]
    exact wdQ (ai @c1 (ai @lnilA @bz_Z1))
  · by_cases c2 : y < x
    · rw [e2 c2]
      exact wdQ (ai @c2 (ai @c1 (ai @lnilA @bz_Z1)))
    · have e := e3 (by omega)
      rw [e] at hw
      rw [← e]
      rw [← e] at hw
      exact wdQ (ai @hw (ai @c2 (ai @c1 (ai @lnilA @bz_Z1))))
def a74 : AC := .seq (.reg [qr 1 (.bx 27 (.t 0)),
 qr 2 (.al 27 [(.b false), (.l 1 [])])])
 (.seq (.dreg [qr 3 (.fad 0 (.t 1)),
 qr 4 (.ld false 1 (.t 3)),
 qr 5 (.un .not (.t 4)),
 qr 6 (.fad 1 (.t 1)),
 qr 7 (.ld false 1 (.t 6)),
 qr 8 (.call 85 [(1, (.t 7))]),
 qr 9 (.call 64 [(1, (.t 5)), (1, (.t 8))]),
 qn (.st 2 (.t 2) (.t 9))])
 (.ret))
theorem zneg_spec (s : Bool) (a : List Nat) (ha : Wd a) (la : a.length ≤ 1000000000) : AFun Tryz.prog J0 74 [zL s a] (zN (-(zv s a))) := by
  have h1 := (norm_dg a ha (by omega)).frozen
  have h2 := zof_spec (!s) (nv B a)
  rw [show zI (!s) (nv B a) = -(zv s a) from by unfold zv zI; cases s <;> simp] at h2
  refine mkcQ fol J0s Tryz.func74 a74 [.c 2 true 2] ?_
  unfold a74
  simp only [init_eq, initE, qm, qr, qn]
  exact wcQ (ai @lnilA @bz_Z1)
def a76 : AC := .seq (.reg [qr 1 (.bx 27 (.t 0)),
 qr 2 (.mv (.k .nl))])
 (.seq (.reg [qr 3 (.fad 1 (.t 1)),
 qr 4 (.ld false 1 (.t 3)),
 qr 5 (.call 85 [(1, (.t 4))]),
 qm 2 5])
 (.ret))
theorem zabs_spec (s : Bool) (a : List Nat) (ha : Wd a) (la : a.length ≤ 1000000000) : AFun Tryz.prog J0 76 [zL s a] (.o 29 1 (W (dg B (nv B a)))) := by
  have h1 := norm_dg a ha (by omega)
  refine mkQ fol J0s Tryz.func76 a76 ?_
  unfold a76
  simp only [init_eq, initE, qm, qr, qn]
  exact wdQ (ai @lnilA @bz_Z1)
theorem zadd_eq (s t : Bool) (u v : Nat) : (s = t → zI s (u + v) = zI s u + zI t v) ∧ (s ≠ t → zI (!(s == decide (u < v))) (if u < v then v - u else u - v) = zI s u + zI t v) := by
  unfold zI
  refine ⟨fun h => ?_, fun h => ?_⟩
  · subst h; cases s <;> simp <;> omega
  · by_cases h2 : u < v
    · cases s <;> cases t <;> simp [h2] at h ⊢ <;> omega
    · cases s <;> cases t <;> simp [h2] at h ⊢ <;> omega
def a67 : AC := .seq (.reg [qr 2 (.bx 27 (.t 0)),
 qr 3 (.bx 27 (.t 1)),
 qr 4 (.al 27 [(.b false), (.l 1 [])])])
 (.seq (.seq (.reg [qr 7 (.fad 0 (.t 2)),
 qr 8 (.ld false 1 (.t 7)),
 qr 9 (.fad 0 (.t 3)),
 qr 10 (.ld false 1 (.t 9)),
 qr 11 (.eqb false (.t 8) (.t 10))])
 (.cond (.t 11)
 (.seq (.dreg [qr 12 (.fad 0 (.t 2)),
 qr 13 (.ld false 1 (.t 12)),
 qr 14 (.fad 1 (.t 2)),
 qr 15 (.ld false 1 (.t 14)),
 qr 16 (.fad 1 (.t 3)),
 qr 17 (.ld false 1 (.t 16)),
 qr 18 (.call 87 [(1, (.t 15)), (1, (.t 17))]),
 qr 19 (.call 64 [(1, (.t 13)), (1, (.t 18))]),
 qn (.st 2 (.t 4) (.t 19))])
 (.ret))
 (.skip)))
 (.seq (.reg [qr 21 (.fad 1 (.t 2)),
 qr 22 (.ld false 1 (.t 21)),
 qr 23 (.fad 1 (.t 3)),
 qr 24 (.ld false 1 (.t 23)),
 qr 25 (.call 88 [(1, (.t 22)), (1, (.t 24))]),
 qm 20 25,
 qr 26 (.ext (.t 20) 0),
 qr 27 (.ext (.t 20) 1),
 qm 5 26,
 qm 6 27])
 (.seq (.reg [qr 28 (.fad 0 (.t 2)),
 qr 29 (.ld false 1 (.t 28)),
 qm 30 6,
 qr 31 (.eqb true (.t 29) (.t 30)),
 qm 32 5,
 qr 33 (.call 64 [(1, (.t 31)), (1, (.t 32))]),
 qn (.st 2 (.t 4) (.t 33))])
 (.ret))))
theorem zadd_spec (s t : Bool) (a b : List Nat) (ha : Wd a) (hb : Wd b) (la : a.length ≤ 1000000000) (lb : b.length ≤ 1000000000) : AFun Tryz.prog J0 67 [zL s a, zL t b] (zN (zv s a + zv t b)) := by
  obtain ⟨e1, e2⟩ := zadd_eq s t (nv B a) (nv B b)
  refine mkcQ fol J0s Tryz.func67 a67 [.c 4 true 2] ?_
  unfold a67
  simp only [init_eq, initE, qm, qr, qn]
  by_cases h : s = t
  · have hb' : (s == t) = true := by rw [h]; cases t <;> rfl
    have h1 := (add_spec a b ha hb (by omega) (by omega)).frozen
    have h2 := zof_spec s (nv B a + nv B b)
    rw [e1 h] at h2
    repeat first | (refine hK _ ?_; clear hK K) | simp only [Sv, ↓reduceIte, Nat.reduceEqDiff] | ((first | refine vm_reg (fun K hK => ?_) | refine vm_dreg (fun K hK => ?_) | refine vm_dregx (fun K hK => ?_) | refine clp_q ?_ | refine clq_mk (by assumption) ?_ | refine mcq_q ?_ | (apply mcr_mk; assumption) | (apply ocr_mk; assumption)); simp (disch := (first | omega | assumption)) only [S1, ↓reduceIte, Nat.reduceEqDiff, Nat.reduceAdd, Nat.reduceMul, Nat.reduceDiv, AOp.sb, AOp.mut, frzf, ↓Bool.false_eq_true, beq_self_eq_true, ite_self, Nat.reduceLeDiff, Int.reduceEq, Int.reduceSub, Int.reduceAdd, Int.reduceNeg, Int.reduceLT, Int.reduceLE, Nat.reduceLT, bz_Z1, List.length_nil, hb', zv])
    simp (disch := (first | omega | assumption)) only [retC, rsVs_nil, rsVs_cons, rsV_t, rsV_c, rsp_pt, rsq_t, rsq_f, ocons_ss, retV_1, retV_2, retNV_nil, retNV_cons, retOk, retN, ret1, retF, ret1F, V.okArg, and_true, true_and, S1, ↓reduceIte, Nat.reduceEqDiff, Nat.reduceAdd, Nat.reduceMul, Nat.reduceDiv, AOp.sb, AOp.mut, frzf, ↓Bool.false_eq_true, beq_self_eq_true, ite_self, Nat.reduceLeDiff, Int.reduceEq, Int.reduceSub, Int.reduceAdd, Int.reduceNeg, Int.reduceLT, Int.reduceLE, Nat.reduceLT, bz_Z1, List.length_nil, hb', zv]
  · have hb' : (s == t) = false := by cases s <;> cases t <;> first | rfl | exact absurd rfl h
    have h1 := diff_spec a b ha hb (by omega) (by omega)
    have h2 := zof_spec (!(s == decide (nv B a < nv B b))) (if nv B a < nv B b then nv B b - nv B a else nv B a - nv B b)
    rw [e2 h] at h2
    rw [show (if nv B a < nv B b then dg B (nv B b - nv B a) else dg B (nv B a - nv B b)) = dg B (if nv B a < nv B b then nv B b - nv B a else nv B a - nv B b) from by split <;> rfl] at h1
    generalize decide (nv B a < nv B b) = q at *
    generalize (if nv B a < nv B b then nv B b - nv B a else nv B a - nv B b) = n at *
    repeat first | (refine hK _ ?_; clear hK K) | simp only [Sv, ↓reduceIte, Nat.reduceEqDiff] | ((first | refine vm_reg (fun K hK => ?_) | refine vm_dreg (fun K hK => ?_) | refine vm_dregx (fun K hK => ?_) | refine clp_q ?_ | refine clq_mk (by assumption) ?_ | refine mcq_q ?_ | (apply mcr_mk; assumption) | (apply ocr_mk; assumption)); simp (disch := (first | omega | assumption)) only [S1, ↓reduceIte, Nat.reduceEqDiff, Nat.reduceAdd, Nat.reduceMul, Nat.reduceDiv, AOp.sb, AOp.mut, frzf, ↓Bool.false_eq_true, beq_self_eq_true, ite_self, Nat.reduceLeDiff, Int.reduceEq, Int.reduceSub, Int.reduceAdd, Int.reduceNeg, Int.reduceLT, Int.reduceLE, Nat.reduceLT, bz_Z1, List.length_nil, hb', zv])
    simp (disch := (first | omega | assumption)) only [retC, rsVs_nil, rsVs_cons, rsV_t, rsV_c, rsp_pt, rsq_t, rsq_f, ocons_ss, retV_1, retV_2, retNV_nil, retNV_cons, retOk, retN, ret1, retF, ret1F, V.okArg, and_true, true_and, S1, ↓reduceIte, Nat.reduceEqDiff, Nat.reduceAdd, Nat.reduceMul, Nat.reduceDiv, AOp.sb, AOp.mut, frzf, ↓Bool.false_eq_true, beq_self_eq_true, ite_self, Nat.reduceLeDiff, Int.reduceEq, Int.reduceSub, Int.reduceAdd, Int.reduceNeg, Int.reduceLT, Int.reduceLE, Nat.reduceLT, bz_Z1, List.length_nil, hb', zv]
theorem zaddN {x y : Int} {m : Nat} (hx : x.natAbs < B ^ m) (hy : y.natAbs < B ^ m) (hm : m ≤ 1000000000) : AFun Tryz.prog J0 67 [zN x, zN y] (zN (x + y)) := by
  have := zadd_spec (decide (x < 0)) (decide (y < 0)) (dg B x.natAbs) (dg B y.natAbs) (Wd_dg _) (Wd_dg _) (Nat.le_trans (dlen hx) hm) (Nat.le_trans (dlen hy) hm)
  rwa [zv_N, zv_N] at this
theorem zmul_eq (s t : Bool) (u v : Nat) : zI (!(s == t)) (u * v) = zI s u * zI t v := by
  unfold zI; cases s <;> cases t <;> simp [Int.natCast_mul, Int.neg_mul, Int.mul_neg]
def a34 : AC := .seq (.reg [qr 2 (.bx 27 (.t 0)),
 qr 3 (.bx 27 (.t 1)),
 qr 4 (.al 27 [(.b false), (.l 1 [])])])
 (.seq (.dreg [qr 5 (.fad 0 (.t 2)),
 qr 6 (.ld false 1 (.t 5)),
 qr 7 (.fad 0 (.t 3)),
 qr 8 (.ld false 1 (.t 7)),
 qr 9 (.eqb true (.t 6) (.t 8)),
 qr 10 (.fad 1 (.t 2)),
 qr 11 (.ld false 1 (.t 10)),
 qr 12 (.fad 1 (.t 3)),
 qr 13 (.ld false 1 (.t 12)),
 qr 14 (.call 66 [(1, (.t 11)), (1, (.t 13))]),
 qr 15 (.call 64 [(1, (.t 9)), (1, (.t 14))]),
 qn (.st 2 (.t 4) (.t 15))])
 (.ret))
theorem zmul_spec (s t : Bool) (a b : List Nat) (ha : Wd a) (hb : Wd b) (la : a.length ≤ 100000000) (lb : b.length ≤ 100000000) : AFun Tryz.prog J0 34 [zL s a, zL t b] (zN (zv s a * zv t b)) := by
  have h1 := mul_spec a b ha hb la lb
  have h2 := zof_spec (!(s == t)) (nv B a * nv B b)
  rw [zmul_eq] at h2
  refine mkcQ fol J0s Tryz.func34 a34 [.c 4 true 2] ?_
  unfold a34
  simp only [init_eq, initE, qm, qr, qn]
  repeat first | (refine hK _ ?_; clear hK K) | simp only [Sv, ↓reduceIte, Nat.reduceEqDiff] | ((first | refine vm_reg (fun K hK => ?_) | refine vm_dreg (fun K hK => ?_) | refine vm_dregx (fun K hK => ?_) | refine clp_q ?_ | refine clq_mk (by assumption) ?_ | refine mcq_q ?_ | (apply mcr_mk; assumption) | (apply ocr_mk; assumption)); simp (disch := (first | omega | assumption)) only [S1, ↓reduceIte, Nat.reduceEqDiff, Nat.reduceAdd, Nat.reduceMul, Nat.reduceDiv, AOp.sb, AOp.mut, frzf, ↓Bool.false_eq_true, beq_self_eq_true, ite_self, Nat.reduceLeDiff, Int.reduceEq, Int.reduceSub, Int.reduceAdd, Int.reduceNeg, Int.reduceLT, Int.reduceLE, Nat.reduceLT, bz_Z1, List.length_nil, zv])
  simp (disch := (first | omega | assumption)) only [retC, rsVs_nil, rsVs_cons, rsV_t, rsV_c, rsp_pt, rsq_t, rsq_f, ocons_ss, retV_1, retV_2, retNV_nil, retNV_cons, retOk, retN, ret1, retF, ret1F, V.okArg, and_true, true_and, S1, ↓reduceIte, Nat.reduceEqDiff, Nat.reduceAdd, Nat.reduceMul, Nat.reduceDiv, AOp.sb, AOp.mut, frzf, ↓Bool.false_eq_true, beq_self_eq_true, ite_self, Nat.reduceLeDiff, Int.reduceEq, Int.reduceSub, Int.reduceAdd, Int.reduceNeg, Int.reduceLT, Int.reduceLE, Nat.reduceLT, bz_Z1, List.length_nil, zv]
end Go.Proofs.YtbkpaeejjepnpaaGreat
