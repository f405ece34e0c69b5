/-
  The texts F5, F6, F7, F8.
-/
import Derived.Test.YteaiegppmbcibaaFA
import Derived.Test.YteaiegppmbcibaaZ1
import Derived.Test.YteaiegppmbcibaaNM8
namespace Go.Proofs.Yteaiegppmbcibaa
open Go Go.RowKit Ab
set_option linter.unusedSimpArgs false
set_option linter.unusedVariables false
set_option maxHeartbeats 10000000
theorem bz_F5 : type_of% (And.intro @W_len (And.intro @D_len (And.intro @Nat.div_one (And.intro @Nat.mul_one (And.intro @tn_nat (And.intro @W_nf (And.intro @D_nf (And.intro @W_nil (And.intro @D_nil (And.intro @wi (And.intro @D_get (And.intro @nf_g (And.intro @Bool.false_and (@W_cell)))))))))))))) := And.intro @W_len (And.intro @D_len (And.intro @Nat.div_one (And.intro @Nat.mul_one (And.intro @tn_nat (And.intro @W_nf (And.intro @D_nf (And.intro @W_nil (And.intro @D_nil (And.intro @wi (And.intro @D_get (And.intro @nf_g (And.intro @Bool.false_and (@W_cell)))))))))))))
def a39 : AC := .seq (.reg [qr 4 (.al 58 [(.b false), (.l 1 [])])])
 (.seq (.reg [qm 5 1,
 qr 6 (.call 55 [(1, (.t 5))]),
 qm 1 6])
 (.seq (.reg [qm 7 0,
 qm 8 7,
 ⟨some 9, some (8, true), .mv (.t 1)⟩,
 ⟨some 10, some (8, true), .len (.t 9)⟩,
 ⟨some 11, some (8, true), .bin .gtr (.t 10) (.k (.i .i64 0))⟩,
 qr 12 (.pick (.t 8) (.t 11) (.k (.b false))),
 qm 13 1,
 qr 14 (.bld [(.b false), (.l 1 [])] [(0, 1, (.t 12)), (1, 1, (.t 13))]),
 qn (.st 2 (.t 4) (.t 14))])
 (.ret)))
theorem hI_spec (s : Bool) (a : List Nat) (ha : Wd a) (la : a.length ≤ 1000000000) : AFun Try.prog J0 39 [.b s, .l 1 (W a)] (zN (zv s a)) := by
  have h1 := (hnorm_spec a ha (by omega)).frozen
  have e := zN_I s (nv B a)
  unfold zv
  rw [e]
  generalize nv B a = n at *
  refine mkcQ fol J0s Try.func39 a39 [.c 4 true 2] ?_
  unfold a39
  simp only [init_eq, initE, qm, qr, qn]
  cases s
  · have zc1 := h1
    exact wcQ @bz_F5
  · by_cases h : 0 < n
    · have e : decide (0 < n) = true := decide_eq_true h
      rw [e]
      exact wcQ (ai @h (ai @dg_pos @bz_F5))
    · have e : decide (0 < n) = false := decide_eq_false h
      rw [e]
      exact wcQ (ai @h (ai @dg_pos @bz_F5))
theorem hID (s : Bool) {n m : Nat} (h : n < B ^ m) (hm : m ≤ 1000000000) : AFun Try.prog J0 39 [.b s, .l 1 (W (dg B n))] (zN (zI s n)) := by
  have := hI_spec s (dg B n) (Wd_dg _) (Nat.le_trans (dlen h) hm)
  rwa [zv, nv_dgB] at this
def a18 : AC := .seq (.reg [qr 2 (.al 58 [(.b false), (.l 1 [])])])
 (.seq (.seq (.reg [qm 3 0,
 qr 4 (.bin .lss (.t 3) (.k (.i .i64 0)))])
 (.cond (.t 4)
 (.seq (.reg [qm 5 0,
 qr 6 (.un .neg (.t 5)),
 qr 7 (.call 28 [(1, (.t 6))]),
 qr 8 (.call 39 [(1, (.k (.b true))), (1, (.t 7))]),
 qn (.st 2 (.t 2) (.t 8))])
 (.ret))
 (.skip)))
 (.seq (.reg [qm 9 0,
 qr 10 (.call 28 [(1, (.t 9))]),
 qr 11 (.call 39 [(1, (.k (.b false))), (1, (.t 10))]),
 qn (.st 2 (.t 2) (.t 11))])
 (.ret)))
theorem hZ_spec (n : Int) (h1 : -9223372036854775808 < n) (h2 : n < 9223372036854775808) : AFun Try.prog J0 18 [.i .i64 n] (zN n) := by
  have hw := (hword_spec n.natAbs (by omega)).frozen
  have hm := hID (decide (n < 0)) (n := n.natAbs) (m := 1) (by rw [Nat.pow_one]; show _ < 18446744073709551616; omega) (by decide)
  rw [zI_self] at hm
  by_cases h : n < 0
  · have ez : zN n = .g [.b true, .l 1 (W (dg B n.natAbs))] := by show V.g [.b (decide (n < 0)), _] = _; rw [decide_eq_true h]
    rw [ez] at hm ⊢
    rw [decide_eq_true h] at hm
    have e : -n = (n.natAbs : Int) := by omega
    have w1 : IntKind.i64.wrap (0 - n) = (n.natAbs : Int) := by rw [wi (by omega)]; omega
    refine mkcQ fol J0s Try.func18 a18 [.c 2 true 2] ?_
    unfold a18
    simp only [init_eq, initE, qm, qr, qn]
    exact wcQ (ai @w1 (ai @h @bz_F5))
  · have ez : zN n = .g [.b false, .l 1 (W (dg B n.natAbs))] := by show V.g [.b (decide (n < 0)), _] = _; rw [decide_eq_false h]
    rw [ez] at hm ⊢
    rw [decide_eq_false h] at hm
    obtain ⟨k, rfl⟩ : ∃ k : Nat, n = (k : Int) := ⟨n.natAbs, by omega⟩
    simp only [Int.natAbs_natCast] at hw hm ⊢
    refine mkcQ fol J0s Try.func18 a18 [.c 2 true 2] ?_
    unfold a18
    simp only [init_eq, initE, qm, qr, qn]
    exact wcQ (ai @h @bz_F5)
def a63 : AC := .seq (.reg [qr 1 (.bx 58 (.t 0)),
 qr 2 (.al 58 [(.b false), (.l 1 [])])])
 (.seq (.reg [qr 3 (.fad 0 (.t 1)),
 qr 4 (.ld false 1 (.t 3)),
 qr 5 (.un .not (.t 4)),
 qr 6 (.fad 1 (.t 1)),
 qr 7 (.ld false 1 (.t 6)),
 qr 8 (.call 39 [(1, (.t 5)), (1, (.t 7))]),
 qn (.st 2 (.t 2) (.t 8))])
 (.ret))
theorem hneg_spec (s : Bool) (a : List Nat) (ha : Wd a) (la : a.length ≤ 1000000000) : AFun Try.prog J0 63 [zL s a] (zN (-(zv s a))) := by
  have h1 := hI_spec (!s) a ha la
  rw [show zv (!s) a = -(zv s a) from by unfold zv zI; cases s <;> simp] at h1
  refine mkcQ fol J0s Try.func63 a63 [.c 2 true 2] ?_
  unfold a63
  simp only [init_eq, initE, qm, qr, qn]
  exact wcQ @bz_F5
theorem zI_sub (s : Bool) (u v : Nat) (h : v ≤ u) : zI s (u - v) = zI s u + zI (!s) v := by
  unfold zI; cases s <;> simp <;> omega
theorem sg_ge (u v : Nat) : ((0 : Int) ≤ sg u v) = (v ≤ u) := by
  unfold sg
  split
  · rename_i h; exact propext ⟨fun h' => absurd h' (by decide), fun h' => absurd h' (by omega)⟩
  · rename_i h
    split <;> exact propext ⟨fun _ => by omega, fun _ => by decide⟩
def a48 : AC := .seq (.reg [qr 2 (.bx 58 (.t 0)),
 qr 3 (.bx 58 (.t 1)),
 qr 4 (.al 58 [(.b false), (.l 1 [])])])
 (.seq (.seq (.reg [qr 5 (.fad 0 (.t 2)),
 qr 6 (.ld false 1 (.t 5)),
 qr 7 (.fad 0 (.t 3)),
 qr 8 (.ld false 1 (.t 7)),
 qr 9 (.eqb false (.t 6) (.t 8))])
 (.cond (.t 9)
 (.seq (.dreg [qr 10 (.fad 0 (.t 2)),
 qr 11 (.ld false 1 (.t 10)),
 qr 12 (.fad 1 (.t 2)),
 qr 13 (.ld false 1 (.t 12)),
 qr 14 (.fad 1 (.t 3)),
 qr 15 (.ld false 1 (.t 14)),
 qr 16 (.call 29 [(1, (.t 13)), (1, (.t 15))]),
 qr 17 (.call 39 [(1, (.t 11)), (1, (.t 16))]),
 qn (.st 2 (.t 4) (.t 17))])
 (.ret))
 (.skip)))
 (.seq (.seq (.reg [qr 18 (.fad 1 (.t 2)),
 qr 19 (.ld false 1 (.t 18)),
 qr 20 (.fad 1 (.t 3)),
 qr 21 (.ld false 1 (.t 20)),
 qr 22 (.call 41 [(1, (.t 19)), (1, (.t 21))]),
 qr 23 (.bin .geq (.t 22) (.k (.i .i64 0)))])
 (.cond (.t 23)
 (.seq (.dreg [qr 24 (.fad 0 (.t 2)),
 qr 25 (.ld false 1 (.t 24)),
 qr 26 (.fad 1 (.t 2)),
 qr 27 (.ld false 1 (.t 26)),
 qr 28 (.fad 1 (.t 3)),
 qr 29 (.ld false 1 (.t 28)),
 qr 30 (.call 62 [(1, (.t 27)), (1, (.t 29))]),
 qr 31 (.call 39 [(1, (.t 25)), (1, (.t 30))]),
 qn (.st 2 (.t 4) (.t 31))])
 (.ret))
 (.skip)))
 (.seq (.dreg [qr 32 (.fad 0 (.t 3)),
 qr 33 (.ld false 1 (.t 32)),
 qr 34 (.fad 1 (.t 3)),
 qr 35 (.ld false 1 (.t 34)),
 qr 36 (.fad 1 (.t 2)),
 qr 37 (.ld false 1 (.t 36)),
 qr 38 (.call 62 [(1, (.t 35)), (1, (.t 37))]),
 qr 39 (.call 39 [(1, (.t 33)), (1, (.t 38))]),
 qn (.st 2 (.t 4) (.t 39))])
 (.ret))))
theorem hzadd_spec (s t : Bool) (a b : List Nat) (m : Nat) (hm : m ≤ 100000000) (ha : Wd a) (hb : Wd b) (la : a.length ≤ m) (lb : b.length ≤ m) : AFun Try.prog J0 48 [zL s a, zL t b] (zN (zv s a + zv t b)) := by
  have l1 := nvlt ha la
  have l2 := nvlt hb lb
  have p1 := (hadd_spec a b ha hb (by omega) (by omega)).frozen
  have p2 := hcmpN_spec a b ha hb (by omega) (by omega)
  have p3 := fun h => (hsub_spec a b ha hb (by omega) (by omega) h).frozen
  have p4 := fun h => (hsub_spec b a hb ha (by omega) (by omega) h).frozen
  have p5 := hID s (padd l1 l2) (by omega)
  have p6 := hID s (Nat.lt_of_le_of_lt (Nat.sub_le (nv B a) (nv B b)) l1) (by omega)
  have p7 := hID t (Nat.lt_of_le_of_lt (Nat.sub_le (nv B b) (nv B a)) l2) (by omega)
  have hs := sg_ge (nv B a) (nv B b)
  have z1 := zadd_eq s t (nv B a) (nv B b)
  have z2 := zI_sub s (nv B a) (nv B b)
  have z3 := zI_sub t (nv B b) (nv B a)
  unfold zv
  generalize nv B a = u at *
  generalize nv B b = v at *
  by_cases h : s = t
  · subst h
    have hb' : (s == s) = true := by cases s <;> rfl
    rw [z1.1 rfl] at p5
    refine mkcQ fol J0s Try.func48 a48 [.c 4 true 2] ?_
    unfold a48
    simp only [init_eq, initE, qm, qr, qn]
    exact wcQ (ai @hb' @bz_F5)
  · have hb' : (s == t) = false := by cases s <;> cases t <;> first | rfl | exact absurd rfl h
    by_cases h2 : v ≤ u
    · have q := p3 h2
      have hst : (!s) = t := by cases s <;> cases t <;> first | rfl | exact absurd rfl h
      rw [z2 h2, hst] at p6
      refine mkcQ fol J0s Try.func48 a48 [.c 4 true 2] ?_
      unfold a48
      simp only [init_eq, initE, qm, qr, qn]
      exact wcQ (ai @h2 (ai @hs (ai @hb' @bz_F5)))
    · have q := p4 (by omega)
      have hst : (!t) = s := by cases s <;> cases t <;> first | rfl | exact absurd rfl h
      rw [z3 (by omega), hst, Int.add_comm] at p7
      refine mkcQ fol J0s Try.func48 a48 [.c 4 true 2] ?_
      unfold a48
      simp only [init_eq, initE, qm, qr, qn]
      exact wcQ (ai @h2 (ai @hs (ai @hb' @bz_F5)))
def a49 : AC := .seq (.reg [qr 2 (.bx 58 (.t 0)),
 qr 3 (.bx 58 (.t 1)),
 qr 4 (.al 58 [(.b false), (.l 1 [])])])
 (.seq (.dreg [qr 5 (.ld true 2 (.t 2)),
 qr 6 (.ld true 2 (.t 3)),
 qr 7 (.call 63 [(1, (.t 6))]),
 qr 8 (.call 48 [(1, (.t 5)), (1, (.t 7))]),
 qn (.st 2 (.t 4) (.t 8))])
 (.ret))
theorem hzsub_spec (s t : Bool) (a b : List Nat) (m : Nat) (hm : m ≤ 100000000) (ha : Wd a) (hb : Wd b) (la : a.length ≤ m) (lb : b.length ≤ m) : AFun Try.prog J0 49 [zL s a, zL t b] (zN (zv s a - zv t b)) := by
  have h1 := hneg_spec t b hb (by omega)
  have h2 := hzadd_spec s (decide (-(zv t b) < 0)) a (dg B (-(zv t b)).natAbs) m hm ha (Wd_dg _) la (by rw [Int.natAbs_neg, zv_abs]; exact dlen (nvlt hb lb))
  rw [zv_N, ← Int.sub_eq_add_neg] at h2
  refine mkcQ fol J0s Try.func49 a49 [.c 4 true 2] ?_
  unfold a49
  simp only [init_eq, initE, qm, qr, qn]
  exact wcQ @bz_F5
def a50 : AC := .seq (.reg [qr 2 (.bx 58 (.t 0)),
 qr 3 (.bx 58 (.t 1)),
 qr 4 (.al 58 [(.b false), (.l 1 [])])])
 (.seq (.dregx [(5, 11), (5, 13), (7, 11), (7, 13)] [qr 5 (.fad 0 (.t 2)),
 qr 6 (.ld false 1 (.t 5)),
 qr 7 (.fad 0 (.t 3)),
 qr 8 (.ld false 1 (.t 7)),
 qr 9 (.eqb true (.t 6) (.t 8)),
 qr 10 (.fad 1 (.t 2)),
 qr 11 (.ld false 1 (.t 10)),
 qr 12 (.fad 1 (.t 3)),
 qr 13 (.ld false 1 (.t 12)),
 qr 14 (.call 30 [(1, (.t 11)), (1, (.t 13))]),
 qr 15 (.call 39 [(1, (.t 9)), (1, (.t 14))]),
 qn (.st 2 (.t 4) (.t 15))])
 (.ret))
theorem hzmul_spec (s t : Bool) (a b : List Nat) (m : Nat) (hm : m ≤ 100000000) (ha : Wd a) (hb : Wd b) (la : a.length ≤ m) (lb : b.length ≤ m) : AFun Try.prog J0 50 [zL s a, zL t b] (zN (zv s a * zv t b)) := by
  have h1 := (hmul_spec a b ha hb (by omega) (by omega)).frozen
  have pP : nv B a * nv B b < B ^ (m + m) := by rw [Nat.pow_add]; exact Nat.mul_lt_mul_of_lt_of_lt (nvlt ha la) (nvlt hb lb)
  have h2 := hID (!(s == t)) pP (by omega)
  rw [zmul_eq] at h2
  refine mkcQ fol J0s Try.func50 a50 [.c 4 true 2] ?_
  unfold a50
  simp only [init_eq, initE, qm, qr, qn]
  repeat first | (refine hK _ ?_; clear hK K) | simp only [Sv, ↓reduceIte, Nat.reduceEqDiff] | ((first | refine vm_reg (fun K hK => ?_) | refine vm_dreg (fun K hK => ?_) | refine vm_dregx (fun K hK => ?_) | refine clp_q ?_ | refine clq_mk (by assumption) ?_ | refine mcq_q ?_ | (apply mcr_mk; assumption) | (apply ocr_mk; assumption)); simp (disch := (first | omega | assumption)) only [S1, ↓reduceIte, Nat.reduceEqDiff, Nat.reduceAdd, Nat.reduceMul, Nat.reduceDiv, AOp.sb, AOp.mut, frzf, ↓Bool.false_eq_true, beq_self_eq_true, ite_self, Nat.reduceLeDiff, Int.reduceEq, Int.reduceSub, Int.reduceAdd, Int.reduceNeg, Int.reduceLT, Int.reduceLE, Nat.reduceLT, bz_F5, zv])
  simp (disch := (first | omega | assumption)) only [retC, rsVs_nil, rsVs_cons, rsV_t, rsV_c, rsp_pt, rsq_t, rsq_f, ocons_ss, retV_1, retV_2, retNV_nil, retNV_cons, retOk, retN, ret1, retF, ret1F, V.okArg, and_true, true_and, S1, ↓reduceIte, Nat.reduceEqDiff, Nat.reduceAdd, Nat.reduceMul, Nat.reduceDiv, AOp.sb, AOp.mut, frzf, ↓Bool.false_eq_true, beq_self_eq_true, ite_self, Nat.reduceLeDiff, Int.reduceEq, Int.reduceSub, Int.reduceAdd, Int.reduceNeg, Int.reduceLT, Int.reduceLE, Nat.reduceLT, bz_F5, zv]
theorem haddZ {x y : Int} {m : Nat} (hx : x.natAbs < B ^ m) (hy : y.natAbs < B ^ m) (hm : m ≤ 100000000) : AFun Try.prog J0 48 [zN x, zN y] (zN (x + y)) := by
  have := hzadd_spec (decide (x < 0)) (decide (y < 0)) (dg B x.natAbs) (dg B y.natAbs) m hm (Wd_dg _) (Wd_dg _) (dlen hx) (dlen hy)
  rwa [zv_N, zv_N] at this
theorem hsubZ {x y : Int} {m : Nat} (hx : x.natAbs < B ^ m) (hy : y.natAbs < B ^ m) (hm : m ≤ 100000000) : AFun Try.prog J0 49 [zN x, zN y] (zN (x - y)) := by
  have := hzsub_spec (decide (x < 0)) (decide (y < 0)) (dg B x.natAbs) (dg B y.natAbs) m hm (Wd_dg _) (Wd_dg _) (dlen hx) (dlen hy)
  rwa [zv_N, zv_N] at this
theorem hmulZ {x y : Int} {m : Nat} (hx : x.natAbs < B ^ m) (hy : y.natAbs < B ^ m) (hm : m ≤ 100000000) : AFun Try.prog J0 50 [zN x, zN y] (zN (x * y)) := by
  have := hzmul_spec (decide (x < 0)) (decide (y < 0)) (dg B x.natAbs) (dg B y.natAbs) m hm (Wd_dg _) (Wd_dg _) (dlen hx) (dlen hy)
  rwa [zv_N, zv_N] at this
theorem haddN {u v m : Nat} (hu : u < B ^ m) (hv : v < B ^ m) (hm : m ≤ 100000000) : AFun Try.prog J0 29 [.l 1 (W (dg B u)), .l 1 (W (dg B v))] (.o 60 1 (W (dg B (u + v)))) := by
  have := hadd_spec (dg B u) (dg B v) (Wd_dg _) (Wd_dg _) (Nat.le_trans (dlen hu) (by omega)) (Nat.le_trans (dlen hv) (by omega))
  rwa [nv_dgB, nv_dgB] at this
theorem hmulN {u v m : Nat} (hu : u < B ^ m) (hv : v < B ^ m) (hm : m ≤ 100000000) : AFun Try.prog J0 30 [.l 1 (W (dg B u)), .l 1 (W (dg B v))] (.o 60 1 (W (dg B (u * v)))) := by
  have := hmul_spec (dg B u) (dg B v) (Wd_dg _) (Wd_dg _) (Nat.le_trans (dlen hu) (by omega)) (Nat.le_trans (dlen hv) (by omega))
  rwa [nv_dgB, nv_dgB] at this
theorem hcmpN {u v m : Nat} (hu : u < B ^ m) (hv : v < B ^ m) (hm : m ≤ 100000000) : AFun Try.prog J0 41 [.l 1 (W (dg B u)), .l 1 (W (dg B v))] (.i .i64 (sg u v)) := by
  have := hcmpN_spec (dg B u) (dg B v) (Wd_dg _) (Wd_dg _) (Nat.le_trans (dlen hu) (by omega)) (Nat.le_trans (dlen hv) (by omega))
  rwa [nv_dgB, nv_dgB] at this
theorem hzeroN {u m : Nat} (hu : u < B ^ m) (hm : m ≤ 100000000) : AFun Try.prog J0 27 [.l 1 (W (dg B u))] (.b (decide (u = 0))) := by
  have := hzero_spec (dg B u) (Wd_dg _) (Nat.le_trans (dlen hu) (by omega))
  rwa [nv_dgB] at this
end Go.Proofs.Yteaiegppmbcibaa
namespace Go.Proofs.Yteaiegppmbcibaa
open Go Go.RowKit Ab
set_option linter.unusedSimpArgs false
set_option linter.unusedVariables false
set_option maxHeartbeats 10000000
end Go.Proofs.Yteaiegppmbcibaa
namespace Go.Proofs.Yteaiegppmbcibaa
open Go Go.RowKit Ab
set_option linter.unusedSimpArgs false
set_option linter.unusedVariables false
set_option maxHeartbeats 10000000
end Go.Proofs.Yteaiegppmbcibaa
namespace Go.Proofs.Yteaiegppmbcibaa
open Go Go.RowKit Ab
set_option linter.unusedSimpArgs false
set_option linter.unusedVariables false
set_option maxHeartbeats 10000000
end Go.Proofs.Yteaiegppmbcibaa
