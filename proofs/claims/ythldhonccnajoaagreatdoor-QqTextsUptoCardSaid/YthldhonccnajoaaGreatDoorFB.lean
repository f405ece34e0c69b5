/-
  The texts F5, F6, F7, F8.
-/
import Derived.Test.YthldhonccnajoaaGreatDoorFA
import Derived.Test.YthldhonccnajoaaGreatDoorZ1
import Derived.Test.YthldhonccnajoaaGreatDoorNM8
namespace Go.Proofs.YthldhonccnajoaaGreatDoor
open Go Go.RowKit Ab
set_option linter.unusedSimpArgs false
set_option linter.unusedVariables false
set_option maxHeartbeats 10000000
theorem bz_F5 : type_of% (And.intro @W_len (And.intro @D_len (And.intro @Nat.div_one (And.intro @Nat.mul_one (And.intro @tn_nat (And.intro @W_nf (And.intro @D_nf (And.intro @W_nil (And.intro @D_nil (And.intro @wi (And.intro @D_get (And.intro @nf_g (And.intro @Bool.false_and (@W_cell)))))))))))))) := And.intro @W_len (And.intro @D_len (And.intro @Nat.div_one (And.intro @Nat.mul_one (And.intro @tn_nat (And.intro @W_nf (And.intro @D_nf (And.intro @W_nil (And.intro @D_nil (And.intro @wi (And.intro @D_get (And.intro @nf_g (And.intro @Bool.false_and (@W_cell)))))))))))))
def a51 : AC := .seq (.reg [qr 4 (.al 25 [(.b false), (.l 1 [])])])
 (.seq (.reg [qm 5 1,
 qr 6 (.call 83 [(1, (.t 5))]),
 qm 1 6])
 (.seq (.reg [qm 7 0,
 qm 8 7,
 ⟨some 9, some (8, true), .mv (.t 1)⟩,
 ⟨some 10, some (8, true), .len (.t 9)⟩,
 ⟨some 11, some (8, true), .bin .gtr (.t 10) (.k (.i .i64 0))⟩,
 qr 12 (.pick (.t 8) (.t 11) (.k (.b false))),
 qm 13 1,
 qr 14 (.bld [(.b false), (.l 1 [])] [(0, 1, (.t 12)), (1, 1, (.t 13))]),
 qn (.st 2 (.t 4) (.t 14))])
 (.ret)))
theorem hI_spec (s : Bool) (a : List Nat) (ha : Wd a) (la : a.length ≤ 1000000000) : AFun Tryz.prog J0 51 [.b s, .l 1 (W a)] (zN (zv s a)) := by
  have h1 := (hnorm_spec a ha (by omega)).frozen
  have e := zN_I s (nv B a)
  unfold zv
  rw [e]
  generalize nv B a = n at *
  refine mkcQ fol J0s Tryz.func51 a51 [.c 4 true 2] ?_
  unfold a51
  simp only [init_eq, initE, qm, qr, qn]
  cases s
  · have zc1 := h1
    exact wcQ @bz_F5
  · by_cases h : 0 < n
    · have e : decide (0 < n) = true := decide_eq_true h
      rw [e]
      exact wcQ (ai @h (ai @dg_pos @bz_F5))
    · have e : decide (0 < n) = false := decide_eq_false h
      rw [e]
      exact wcQ (ai @h (ai @dg_pos @bz_F5))
theorem hID (s : Bool) {n m : Nat} (h : n < B ^ m) (hm : m ≤ 1000000000) : AFun Tryz.prog J0 51 [.b s, .l 1 (W (dg B n))] (zN (zI s n)) := by
  have := hI_spec s (dg B n) (Wd_dg _) (Nat.le_trans (dlen h) hm)
  rwa [zv, nv_dgB] at this
def a16 : AC := .seq (.reg [qr 2 (.al 25 [(.b false), (.l 1 [])])])
 (.seq (.seq (.reg [qm 3 0,
 qr 4 (.bin .lss (.t 3) (.k (.i .i64 0)))])
 (.cond (.t 4)
 (.seq (.reg [qm 5 0,
 qr 6 (.un .neg (.t 5)),
 qr 7 (.call 44 [(1, (.t 6))]),
 qr 8 (.call 51 [(1, (.k (.b true))), (1, (.t 7))]),
 qn (.st 2 (.t 2) (.t 8))])
 (.ret))
 (.skip)))
 (.seq (.reg [qm 9 0,
 qr 10 (.call 44 [(1, (.t 9))]),
 qr 11 (.call 51 [(1, (.k (.b false))), (1, (.t 10))]),
 qn (.st 2 (.t 2) (.t 11))])
 (.ret)))
theorem hZ_spec (n : Int) (h1 : -9223372036854775808 < n) (h2 : n < 9223372036854775808) : AFun Tryz.prog J0 16 [.i .i64 n] (zN n) := by
  have hw := (hword_spec n.natAbs (by omega)).frozen
  have hm := hID (decide (n < 0)) (n := n.natAbs) (m := 1) (by rw [Nat.pow_one]; show _ < 18446744073709551616; omega) (by decide)
  rw [zI_self] at hm
  by_cases h : n < 0
  · have ez : zN n = .g [.b true, .l 1 (W (dg B n.natAbs))] := by show V.g [.b (decide (n < 0)), _] = _; rw [decide_eq_true h]
    rw [ez] at hm ⊢
    rw [decide_eq_true h] at hm
    have e : -n = (n.natAbs : Int) := by omega
    have w1 : IntKind.i64.wrap (0 - n) = (n.natAbs : Int) := by rw [wi (by omega)]; omega
    refine mkcQ fol J0s Tryz.func16 a16 [.c 2 true 2] ?_
    unfold a16
    simp only [init_eq, initE, qm, qr, qn]
    exact wcQ (ai @w1 (ai @h @bz_F5))
  · have ez : zN n = .g [.b false, .l 1 (W (dg B n.natAbs))] := by show V.g [.b (decide (n < 0)), _] = _; rw [decide_eq_false h]
    rw [ez] at hm ⊢
    rw [decide_eq_false h] at hm
    obtain ⟨k, rfl⟩ : ∃ k : Nat, n = (k : Int) := ⟨n.natAbs, by omega⟩
    simp only [Int.natAbs_natCast] at hw hm ⊢
    refine mkcQ fol J0s Tryz.func16 a16 [.c 2 true 2] ?_
    unfold a16
    simp only [init_eq, initE, qm, qr, qn]
    exact wcQ (ai @h @bz_F5)
def a73 : AC := .seq (.reg [qr 1 (.bx 25 (.t 0)),
 qr 2 (.al 25 [(.b false), (.l 1 [])])])
 (.seq (.reg [qr 3 (.fad 0 (.t 1)),
 qr 4 (.ld false 1 (.t 3)),
 qr 5 (.un .not (.t 4)),
 qr 6 (.fad 1 (.t 1)),
 qr 7 (.ld false 1 (.t 6)),
 qr 8 (.call 51 [(1, (.t 5)), (1, (.t 7))]),
 qn (.st 2 (.t 2) (.t 8))])
 (.ret))
theorem hneg_spec (s : Bool) (a : List Nat) (ha : Wd a) (la : a.length ≤ 1000000000) : AFun Tryz.prog J0 73 [zL s a] (zN (-(zv s a))) := by
  have h1 := hI_spec (!s) a ha la
  rw [show zv (!s) a = -(zv s a) from by unfold zv zI; cases s <;> simp] at h1
  refine mkcQ fol J0s Tryz.func73 a73 [.c 2 true 2] ?_
  unfold a73
  simp only [init_eq, initE, qm, qr, qn]
  exact wcQ @bz_F5
theorem zI_sub (s : Bool) (u v : Nat) (h : v ≤ u) : zI s (u - v) = zI s u + zI (!s) v := by
  unfold zI; cases s <;> simp <;> omega
theorem sg_ge (u v : Nat) : ((0 : Int) ≤ sg u v) = (v ≤ u) := by
  unfold sg
  split
  · rename_i h; exact propext ⟨fun h' => absurd h' (by decide), fun h' => absurd h' (by omega)⟩
  · rename_i h
    split <;> exact propext ⟨fun _ => by omega, fun _ => by decide⟩
def a109 : AC := .seq (.reg [qr 2 (.bx 25 (.t 0)),
 qr 3 (.bx 25 (.t 1)),
 qr 4 (.al 25 [(.b false), (.l 1 [])])])
 (.seq (.seq (.reg [qr 5 (.fad 0 (.t 2)),
 qr 6 (.ld false 1 (.t 5)),
 qr 7 (.fad 0 (.t 3)),
 qr 8 (.ld false 1 (.t 7)),
 qr 9 (.eqb false (.t 6) (.t 8))])
 (.cond (.t 9)
 (.seq (.dreg [qr 10 (.fad 0 (.t 2)),
 qr 11 (.ld false 1 (.t 10)),
 qr 12 (.fad 1 (.t 2)),
 qr 13 (.ld false 1 (.t 12)),
 qr 14 (.fad 1 (.t 3)),
 qr 15 (.ld false 1 (.t 14)),
 qr 16 (.call 90 [(1, (.t 13)), (1, (.t 15))]),
 qr 17 (.call 51 [(1, (.t 11)), (1, (.t 16))]),
 qn (.st 2 (.t 4) (.t 17))])
 (.ret))
 (.skip)))
 (.seq (.seq (.reg [qr 18 (.fad 1 (.t 2)),
 qr 19 (.ld false 1 (.t 18)),
 qr 20 (.fad 1 (.t 3)),
 qr 21 (.ld false 1 (.t 20)),
 qr 22 (.call 137 [(1, (.t 19)), (1, (.t 21))]),
 qr 23 (.bin .geq (.t 22) (.k (.i .i64 0)))])
 (.cond (.t 23)
 (.seq (.dreg [qr 24 (.fad 0 (.t 2)),
 qr 25 (.ld false 1 (.t 24)),
 qr 26 (.fad 1 (.t 2)),
 qr 27 (.ld false 1 (.t 26)),
 qr 28 (.fad 1 (.t 3)),
 qr 29 (.ld false 1 (.t 28)),
 qr 30 (.call 138 [(1, (.t 27)), (1, (.t 29))]),
 qr 31 (.call 51 [(1, (.t 25)), (1, (.t 30))]),
 qn (.st 2 (.t 4) (.t 31))])
 (.ret))
 (.skip)))
 (.seq (.dreg [qr 32 (.fad 0 (.t 3)),
 qr 33 (.ld false 1 (.t 32)),
 qr 34 (.fad 1 (.t 3)),
 qr 35 (.ld false 1 (.t 34)),
 qr 36 (.fad 1 (.t 2)),
 qr 37 (.ld false 1 (.t 36)),
 qr 38 (.call 138 [(1, (.t 35)), (1, (.t 37))]),
 qr 39 (.call 51 [(1, (.t 33)), (1, (.t 38))]),
 qn (.st 2 (.t 4) (.t 39))])
 (.ret))))
theorem hzadd_spec (s t : Bool) (a b : List Nat) (m : Nat) (hm : m ≤ 100000000) (ha : Wd a) (hb : Wd b) (la : a.length ≤ m) (lb : b.length ≤ m) : AFun Tryz.prog J0 109 [zL s a, zL t b] (zN (zv s a + zv t b)) := by
  have l1 := nvlt ha la
  have l2 := nvlt hb lb
  have p1 := (hadd_spec a b ha hb (by omega) (by omega)).frozen
  have p2 := hcmpN_spec a b ha hb (by omega) (by omega)
  have p3 := fun h => (hsub_spec a b ha hb (by omega) (by omega) h).frozen
  have p4 := fun h => (hsub_spec b a hb ha (by omega) (by omega) h).frozen
  have p5 := hID s (padd l1 l2) (by omega)
  have p6 := hID s (Nat.lt_of_le_of_lt (Nat.sub_le (nv B a) (nv B b)) l1) (by omega)
  have p7 := hID t (Nat.lt_of_le_of_lt (Nat.sub_le (nv B b) (nv B a)) l2) (by omega)
  have hs := sg_ge (nv B a) (nv B b)
  have z1 := zadd_eq s t (nv B a) (nv B b)
  have z2 := zI_sub s (nv B a) (nv B b)
  have z3 := zI_sub t (nv B b) (nv B a)
  unfold zv
  generalize nv B a = u at *
  generalize nv B b = v at *
  by_cases h : s = t
  · subst h
    have hb' : (s == s) = true := by cases s <;> rfl
    rw [z1.1 rfl] at p5
    refine mkcQ fol J0s Tryz.func109 a109 [.c 4 true 2] ?_
    unfold a109
    simp only [init_eq, initE, qm, qr, qn]
    exact wcQ (ai @hb' @bz_F5)
  · have hb' : (s == t) = false := by cases s <;> cases t <;> first | rfl | exact absurd rfl h
    by_cases h2 : v ≤ u
    · have q := p3 h2
      have hst : (!s) = t := by cases s <;> cases t <;> first | rfl | exact absurd rfl h
      rw [z2 h2, hst] at p6
      refine mkcQ fol J0s Tryz.func109 a109 [.c 4 true 2] ?_
      unfold a109
      simp only [init_eq, initE, qm, qr, qn]
      exact wcQ (ai @h2 (ai @hs (ai @hb' @bz_F5)))
    · have q := p4 (by omega)
      have hst : (!t) = s := by cases s <;> cases t <;> first | rfl | exact absurd rfl h
      rw [z3 (by omega), hst, Int.add_comm] at p7
      refine mkcQ fol J0s Tryz.func109 a109 [.c 4 true 2] ?_
      unfold a109
      simp only [init_eq, initE, qm, qr, qn]
      exact wcQ (ai @h2 (ai @hs (ai @hb' @bz_F5)))
def a106 : AC := .seq (.reg [qr 2 (.bx 25 (.t 0)),
 qr 3 (.bx 25 (.t 1)),
 qr 4 (.al 25 [(.b false), (.l 1 [])])])
 (.seq (.dregx [(5, 11), (5, 13), (7, 11), (7, 13)] [qr 5 (.fad 0 (.t 2)),
 qr 6 (.ld false 1 (.t 5)),
 qr 7 (.fad 0 (.t 3)),
 qr 8 (.ld false 1 (.t 7)),
 qr 9 (.eqb true (.t 6) (.t 8)),
 qr 10 (.fad 1 (.t 2)),
 qr 11 (.ld false 1 (.t 10)),
 qr 12 (.fad 1 (.t 3)),
 qr 13 (.ld false 1 (.t 12)),
 qr 14 (.call 91 [(1, (.t 11)), (1, (.t 13))]),
 qr 15 (.call 51 [(1, (.t 9)), (1, (.t 14))]),
 qn (.st 2 (.t 4) (.t 15))])
 (.ret))
theorem hzmul_spec (s t : Bool) (a b : List Nat) (m : Nat) (hm : m ≤ 100000000) (ha : Wd a) (hb : Wd b) (la : a.length ≤ m) (lb : b.length ≤ m) : AFun Tryz.prog J0 106 [zL s a, zL t b] (zN (zv s a * zv t b)) := by
  have h1 := (hmul_spec a b ha hb (by omega) (by omega)).frozen
  have pP : nv B a * nv B b < B ^ (m + m) := by rw [Nat.pow_add]; exact Nat.mul_lt_mul_of_lt_of_lt (nvlt ha la) (nvlt hb lb)
  have h2 := hID (!(s == t)) pP (by omega)
  rw [zmul_eq] at h2
  refine mkcQ fol J0s Tryz.func106 a106 [.c 4 true 2] ?_
  unfold a106
  simp only [init_eq, initE, qm, qr, qn]
  repeat first | (refine hK _ ?_; clear hK K) | simp only [Sv, ↓reduceIte, Nat.reduceEqDiff] | ((first | refine vm_reg (fun K hK => ?_) | refine vm_dreg (fun K hK => ?_) | refine vm_dregx (fun K hK => ?_) | refine clp_q ?_ | refine clq_mk (by assumption) ?_ | refine mcq_q ?_ | (apply mcr_mk; assumption)); simp (disch := (first | omega | assumption)) only [S1, ↓reduceIte, Nat.reduceEqDiff, Nat.reduceAdd, Nat.reduceMul, Nat.reduceDiv, AOp.sb, AOp.mut, frzf, ↓Bool.false_eq_true, beq_self_eq_true, ite_self, Nat.reduceLeDiff, Int.reduceEq, Int.reduceSub, Int.reduceAdd, Int.reduceNeg, Int.reduceLT, Int.reduceLE, Nat.reduceLT, bz_F5, zv])
  simp (disch := (first | omega | assumption)) only [retC, rsVs_nil, rsVs_cons, rsV_t, rsV_c, rsp_pt, rsq_t, rsq_f, ocons_ss, retV_1, retV_2, retNV_nil, retNV_cons, retOk, retN, ret1, retF, ret1F, V.okArg, and_true, true_and, S1, ↓reduceIte, Nat.reduceEqDiff, Nat.reduceAdd, Nat.reduceMul, Nat.reduceDiv, AOp.sb, AOp.mut, frzf, ↓Bool.false_eq_true, beq_self_eq_true, ite_self, Nat.reduceLeDiff, Int.reduceEq, Int.reduceSub, Int.reduceAdd, Int.reduceNeg, Int.reduceLT, Int.reduceLE, Nat.reduceLT, bz_F5, zv]
theorem haddZ {x y : Int} {m : Nat} (hx : x.natAbs < B ^ m) (hy : y.natAbs < B ^ m) (hm : m ≤ 100000000) : AFun Tryz.prog J0 109 [zN x, zN y] (zN (x + y)) := by
  have := hzadd_spec (decide (x < 0)) (decide (y < 0)) (dg B x.natAbs) (dg B y.natAbs) m hm (Wd_dg _) (Wd_dg _) (dlen hx) (dlen hy)
  rwa [zv_N, zv_N] at this
def a84 : AC := .seq (.reg [qr 4 (.mv (.k (.b false)))])
 (.seq (.seq (.reg [qm 6 0,
 qr 7 (.len (.t 6)),
 qm 8 1,
 qr 9 (.len (.t 8)),
 qr 10 (.bin .neq (.t 7) (.t 9))])
 (.cond (.t 10)
 (.seq (.reg [qr 4 (.mv (.k (.b false)))])
 (.ret))
 (.skip)))
 (.seq (.seq (.reg [qr 5 (.mv (.k (.i .i64 0)))])
 (.blk 0
 (.loop
 (.seq (.seq (.reg [qm 11 5,
 qm 12 0,
 qr 13 (.len (.t 12)),
 qr 14 (.bin .lss (.t 11) (.t 13))])
 (.cond (.t 14)
 (.skip)
 (.exit 0)))
 (.seq (.blk 1
 (.seq (.dreg [qm 17 0,
 qm 18 5,
 qr 19 (.idx 1 (.t 17) (.t 18)),
 qr 20 (.ld false 1 (.t 19)),
 qm 21 1,
 qm 22 5,
 qr 23 (.idx 1 (.t 21) (.t 22)),
 qr 24 (.ld false 1 (.t 23)),
 qr 25 (.bin .neq (.t 20) (.t 24))])
 (.cond (.t 25)
 (.seq (.reg [qr 4 (.mv (.k (.b false)))])
 (.ret))
 (.skip))))
 (.reg [qm 15 5,
 qr 16 (.bin .add (.t 15) (.k (.i .i64 1))),
 qm 5 16]))))))
 (.seq (.reg [qr 4 (.mv (.k (.b true)))])
 (.ret))))
theorem hsameW_spec (a b : List Nat) (la : a.length ≤ 9223372036854775807) (lb : b.length ≤ 9223372036854775807) :
    AFun Tryz.prog J0 84 [.l 1 (W a), .l 1 (W b)] (.b (decide (a = b))) := by
  refine mkQ fol J0s Tryz.func84 a84 ?_
  unfold a84
  simp only [init_eq, initE, qm, qr, qn]
  by_cases h : (a.length : Int) = (b.length : Int)
  · refine spQ (ai @h @bz_F5) ?_
    refine vm_loopA [] Nat (fun i => ⟨[(0, .l 1 (W a)), (1, .l 1 (W b)), (5, .i .i64 (i : Int))], [], 0⟩) (fun i => i ≤ a.length ∧ ∀ j, j < i → a.getD j 0 = b.getD j 0) (fun i => a.length - i) 0 ⟨by omega, by omega⟩ (by exact leQ) (by
      simp (disch := (first | omega | assumption)) only [Sl, Sa, Sw, ↓reduceIte, Nat.reduceEqDiff, Nat.reduceLT, List.all_nil, List.all_cons, Nat.reduceBneDiff, Nat.reduceAdd, bne_iff_ne, ne_eq, reduceCtorEq, not_false_eq_true, not_true_eq_false, Bool.and_true, Bool.true_and, and_true, true_and, and_self, i_eq]
      rfl) ?_
    intro i ⟨hi, hj⟩ Q' hQ he hr
    by_cases h1 : (i : Int) < a.length
    · refine spQ (ai @h1 @bz_F5) ?_
      by_cases h2 : ((a.getD i 0 : Nat) : Int) = ((b.getD i 0 : Nat) : Int)
      · refine spQ (ai @wi (ai @h2 (ai @W_get @bz_F5))) ?_
        refine hQ _ (i + 1) ⟨by omega, fun j h3 => ?_⟩ (by omega) ?_
        · rcases Nat.lt_or_ge j i with h4 | h4
          · exact hj j h4
          · obtain rfl : j = i := by omega
            omega
        · simp (disch := (first | omega | assumption)) only [Sl, Sa, Sw, ↓reduceIte, Nat.reduceEqDiff, Nat.reduceLT, List.all_nil, List.all_cons, Nat.reduceBneDiff, Nat.reduceAdd, bne_iff_ne, ne_eq, reduceCtorEq, not_false_eq_true, not_true_eq_false, Bool.and_true, Bool.true_and, and_true, true_and, and_self, i_eq]
          omega
      · refine spQ (ai @h2 (ai @W_get @bz_F5)) ?_
        refine spQ @bz_F5 ?_
        refine hr _ ?_
        have e : ¬ a = b := fun h => h2 (by rw [h])
        exact rtQ (ai @e @bz_F5)
    · refine spQ (ai @h1 @bz_F5) ?_
      refine he _ _ ?_
      refine spQ @bz_F5 ?_
      have e : a = b := by
        refine List.ext_getElem (by omega) fun n h3 h4 => ?_
        have := hj n (by omega)
        simpa [List.getD_eq_getElem?_getD, h3, h4] using this
      exact rtQ (ai @e @bz_F5)
  · refine spQ (ai @h @bz_F5) ?_
    have e : ¬ a = b := fun h' => h (by rw [h'])
    exact rtQ (ai @e @bz_F5)
def a43 : AC := .seq (.reg [qr 4 (.mv (.k (.b false)))])
 (.seq (.reg [qm 5 0,
 qm 6 1,
 qr 7 (.call 84 [(1, (.t 5)), (1, (.t 6))]),
 qm 4 7])
 (.ret))
theorem hsame_spec (a b : List Nat) (la : a.length ≤ 9223372036854775807) (lb : b.length ≤ 9223372036854775807) :
    AFun Tryz.prog J0 43 [.l 1 (W a), .l 1 (W b)] (.b (decide (a = b))) := by
  have h := hsameW_spec a b la lb
  refine mkQ fol J0s Tryz.func43 a43 ?_
  unfold a43
  simp only [init_eq, initE, qm, qr, qn]
  exact wdQ @bz_F5
def a19 : AC := .seq (.reg [qr 2 (.bx 25 (.t 0)),
 qr 3 (.bx 25 (.t 1)),
 qr 4 (.mv (.k (.b false)))])
 (.seq (.reg [qr 5 (.fad 0 (.t 2)),
 qr 6 (.ld false 1 (.t 5)),
 qr 7 (.fad 0 (.t 3)),
 qr 8 (.ld false 1 (.t 7)),
 qr 9 (.eqb false (.t 6) (.t 8)),
 qm 10 9,
 ⟨some 11, some (10, true), .fad 1 (.t 2)⟩,
 ⟨some 12, some (10, true), .ld false 1 (.t 11)⟩,
 ⟨some 13, some (10, true), .fad 1 (.t 3)⟩,
 ⟨some 14, some (10, true), .ld false 1 (.t 13)⟩,
 ⟨some 15, some (10, true), .call 43 [(1, (.t 12)), (1, (.t 14))]⟩,
 qr 16 (.pick (.t 10) (.t 15) (.k (.b false))),
 qm 4 16])
 (.ret))
theorem hsameI_spec (s t : Bool) (a b : List Nat) (la : a.length ≤ 1000000000) (lb : b.length ≤ 1000000000) : AFun Tryz.prog J0 19 [zL s a, zL t b] (.b ((s == t) && decide (a = b))) := by
  have h1 := hsame_spec a b (by omega) (by omega)
  refine mkQ fol J0s Tryz.func19 a19 ?_
  unfold a19
  simp only [init_eq, initE, qm, qr, qn]
  by_cases h : s = t
  · have hb' : (s == t) = true := by rw [h]; cases t <;> rfl
    rw [hb', Bool.true_and]
    exact wdQ (ai @hb' @bz_F5)
  · have hb' : (s == t) = false := by cases s <;> cases t <;> first | rfl | exact absurd rfl h
    rw [hb', Bool.false_and]
    refine spQ (ai @hb' @bz_F5) ?_
    exact rtQ @bz_F5
end Go.Proofs.YthldhonccnajoaaGreatDoor
namespace Go.Proofs.YthldhonccnajoaaGreatDoor
open Go Go.RowKit Ab
set_option linter.unusedSimpArgs false
set_option linter.unusedVariables false
set_option maxHeartbeats 10000000
theorem bz_F6 : type_of% (And.intro @W_len (And.intro @D_len (And.intro @Nat.div_one (And.intro @Nat.mul_one (And.intro @tn_nat (And.intro @W_nf (And.intro @D_nf (And.intro @W_nil (And.intro @D_nil (And.intro @wi (And.intro @nf_g (And.intro @Bool.false_and (@W_cell))))))))))))) := And.intro @W_len (And.intro @D_len (And.intro @Nat.div_one (And.intro @Nat.mul_one (And.intro @tn_nat (And.intro @W_nf (And.intro @D_nf (And.intro @W_nil (And.intro @D_nil (And.intro @wi (And.intro @nf_g (And.intro @Bool.false_and (@W_cell))))))))))))
theorem take_digit (x s : Nat) (hx : x < 65536) : ∃ d m' : Nat, x + m' * 65536 = d + s ∧ d < 65536 ∧ (s ≤ x → m' = 0) ∧ (x < s → m' = (s + 65535 - x) / 65536) := by
  refine ⟨x + (s + 65535 - x) / 65536 * 65536 - s, (s + 65535 - x) / 65536, ?_, ?_, ?_, fun _ => rfl⟩
  · omega
  · omega
  · intro h; omega
theorem take_law {n i j m m' k d : Nat} {r R b : List Nat} (hj : i + j < n) (lr : r.length = n) (lR : R.length = n) (hs : R.drop (i + j) = r.drop (i + j))
    (h : nv 65536 (r.take (i + j)) + m * 65536 ^ (i + j) = nv 65536 (R.take (i + j)) + k * 65536 ^ i * nv 65536 (b.take j))
    (hd : r.getD (i + j) 0 + m' * 65536 = d + (m + k * b.getD j 0)) :
    nv 65536 (r.take (i + (j + 1))) + m' * 65536 ^ (i + (j + 1)) = nv 65536 ((R.set (i + j) d).take (i + (j + 1))) + k * 65536 ^ i * nv 65536 (b.take (j + 1)) ∧ (R.set (i + j) d).drop (i + (j + 1)) = r.drop (i + (j + 1)) := by
  rw [← Nat.add_assoc]
  constructor
  · rw [nv_take_succ' r, nv_take_succ' (R.set (i + j) d), nv_take_succ' b, Nat.pow_succ]
    have e1 : (R.set (i + j) d).take (i + j) = R.take (i + j) := by rw [List.take_set_of_le (Nat.le_refl _)]
    have e2 : (R.set (i + j) d).getD (i + j) 0 = d := by rw [List.getD_eq_getElem?_getD, List.getElem?_set_self (by omega)]; rfl
    rw [e1, e2, Nat.mul_add, show k * 65536 ^ i * (65536 ^ j * b.getD j 0) = 65536 ^ (i + j) * (k * b.getD j 0) from by rw [Nat.pow_add]; simp only [Nat.mul_assoc, Nat.mul_left_comm]]
    generalize 65536 ^ (i + j) = P at *
    have e3 : P * r.getD (i + j) 0 + m' * (P * 65536) = P * d + (m * P + P * (k * b.getD j 0)) := by
      have := congrArg (fun z => P * z) hd
      simp only [Nat.mul_add] at this
      rw [show m' * (P * 65536) = P * (m' * 65536) from by rw [Nat.mul_left_comm], this, Nat.mul_comm m P]
    omega
  · have : (R.drop (i + j)).drop 1 = (r.drop (i + j)).drop 1 := by rw [hs]
    rw [List.drop_drop, List.drop_drop] at this
    rw [List.drop_set_of_lt (by omega)]
    exact this
theorem getD_of_drop {R r : List Nat} {n : Nat} (h : R.drop n = r.drop n) : R.getD n 0 = r.getD n 0 := by
  have := congrArg (fun l => l.getD 0 0) h
  simp only [List.getD_eq_getElem?_getD, List.getElem?_drop, Nat.add_zero] at this
  rw [List.getD_eq_getElem?_getD, List.getD_eq_getElem?_getD]; exact this
def a141 : AC := .seq (.reg [qr 8 (.mv (.k (.i .i64 0)))])
 (.seq (.reg [qr 9 (.mv (.k (.i .i64 0)))])
 (.blk 0
 (.loop
 (.seq (.seq (.reg [qm 12 3,
 qm 13 9,
 qr 14 (.bin .add (.t 12) (.t 13)),
 qm 15 0,
 qr 16 (.len (.t 15)),
 qr 17 (.bin .lss (.t 14) (.t 16))])
 (.cond (.t 17)
 (.skip)
 (.exit 0)))
 (.seq (.blk 1
 (.seq (.reg [qm 20 0,
 qm 21 3,
 qm 22 9,
 qr 23 (.bin .add (.t 21) (.t 22)),
 qr 24 (.idx 1 (.t 20) (.t 23)),
 qr 25 (.ld false 1 (.t 24)),
 qm 26 8,
 qr 27 (.bin .add (.t 25) (.t 26)),
 qm 10 27])
 (.seq (.seq (.reg [qm 28 9,
 qm 29 1,
 qr 30 (.len (.t 29)),
 qr 31 (.bin .lss (.t 28) (.t 30))])
 (.cond (.t 31)
 (.reg [qm 32 10,
 qm 33 2,
 qm 34 1,
 qm 35 9,
 qr 36 (.idx 1 (.t 34) (.t 35)),
 qr 37 (.ld false 1 (.t 36)),
 qr 38 (.bin .mul (.t 33) (.t 37)),
 qr 39 (.bin .sub (.t 32) (.t 38)),
 qm 10 39])
 (.skip)))
 (.seq (.reg [qr 8 (.mv (.k (.i .i64 0)))])
 (.seq (.blk 2
 (.loop
 (.seq (.seq (.reg [qm 40 10,
 qr 41 (.bin .lss (.t 40) (.k (.i .i64 0)))])
 (.cond (.t 41)
 (.skip)
 (.exit 2)))
 (.blk 3
 (.seq (.reg [qm 42 10,
 qr 43 (.bin .sub (.k (.i .i64 65535)) (.t 42)),
 qr 44 (.bin .quo (.t 43) (.k (.i .i64 65536))),
 qm 11 44])
 (.seq (.reg [qm 45 10,
 qm 46 11,
 qr 47 (.bin .mul (.t 46) (.k (.i .i64 65536))),
 qr 48 (.bin .add (.t 45) (.t 47)),
 qm 10 48])
 (.reg [qm 49 8,
 qm 50 11,
 qr 51 (.bin .sub (.t 49) (.t 50)),
 qm 8 51])))))))
 (.reg [qm 52 0,
 qm 53 3,
 qm 54 9,
 qr 55 (.bin .add (.t 53) (.t 54)),
 qm 56 10,
 qr 57 (.idx 1 (.t 52) (.t 55)),
 qn (.st 1 (.t 57) (.t 56))]))))))
 (.reg [qm 18 9,
 qr 19 (.bin .add (.t 18) (.k (.i .i64 1))),
 qm 9 19]))))))
theorem htake_spec (r b : List Nat) (k i : Nat) (hr : Lt 65536 r) (hb : Lt 65536 b) (lr : r.length ≤ 1000000000000) (hk : k < 4294967296) (hi : i + b.length ≤ r.length) (hle : k * 65536 ^ i * nv 65536 b ≤ nv 65536 r) :
    AFun Tryz.prog J0 141 [.o 3 1 (D r), .l 1 (D b), .i .i64 (k : Int), .i .i64 (i : Int)] (.mu (.t []) (D (fl 65536 r.length (nv 65536 r - k * 65536 ^ i * nv 65536 b)))) := by
  obtain ⟨n, hn⟩ : ∃ n, n = r.length := ⟨_, rfl⟩
  rw [← hn] at lr hi
  rw [← hn]
  refine AFun.mkm (m := 0) fol J0s Tryz.func141 rfl (ac := a141) (by kernel_rfl) rfl rfl rfl rfl (by kernel_rfl) ?_
  apply vm_start
  unfold a141
  simp only [initL_eq, initE, lent, qm, qr, qn]
  rw [show (D r).length / 1 = n from by rw [D_len, Nat.div_one, hn]]
  refine spQ @bz_F6 ?_
  refine vm_loopA [] (Nat × Nat × List Nat) (fun x => ⟨[(0, .ow 1 0 n), (1, .l 1 (D b)), (2, .i .i64 (k : Int)), (3, .i .i64 (i : Int)), (8, .i .i64 (-(x.2.1 : Int))), (9, .i .i64 (x.1 : Int))], [(0, some ⟨3, 1, D x.2.2, true, false⟩)], 1⟩)
    (fun x => i + x.1 ≤ n ∧ x.2.1 ≤ k ∧ x.2.2.length = n ∧ Lt 65536 x.2.2 ∧ x.2.2.drop (i + x.1) = r.drop (i + x.1) ∧ nv 65536 (r.take (i + x.1)) + x.2.1 * 65536 ^ (i + x.1) = nv 65536 (x.2.2.take (i + x.1)) + k * 65536 ^ i * nv 65536 (b.take x.1))
    (fun x => n - x.1) (0, 0, r) ⟨by simp only; omega, Nat.zero_le _, hn.symm, hr, rfl, by simp [nv]⟩ (by exact leQ) (by
    exact ltQ) ?_
  rintro ⟨j, m, R⟩ ⟨hj, hm, lR, hR, hs, hv⟩ Q' hQ he hrr
  simp only [] at hj hm lR hR hs hv ⊢
  have hDl : (D R).length = n := by rw [D_len, lR]
  by_cases h : (i : Int) + (j : Int) < (n : Int)
  · have hx := Lt_get hr (by decide) (i + j)
    have hgx := getD_of_drop hs
    have hy := Lt_get hb (by decide) j
    obtain ⟨d, m', e1, e2, e3, e4⟩ := take_digit (r.getD (i + j) 0) (m + k * b.getD j 0) hx
    obtain ⟨v1, v2⟩ := take_law (by omega) hn.symm lR hs hv e1
    obtain ⟨x, hxx⟩ : ∃ x, x = r.getD (i + j) 0 := ⟨_, rfl⟩
    obtain ⟨z, hz⟩ : ∃ z, z = k * b.getD j 0 := ⟨_, rfl⟩
    have hzb : z ≤ k * 65535 := by rw [hz]; exact Nat.mul_le_mul_left _ (by omega)
    have hzI : (k : Int) * ((b.getD j 0 : Nat) : Int) = (z : Int) := by rw [hz, Int.natCast_mul]
    rw [← hxx] at hx hgx e1 e3 e4
    rw [← hz] at e1 e3 e4
    have hmk : m' ≤ k := by
      by_cases hc : m + z ≤ x
      · rw [e3 hc]; exact Nat.zero_le _
      · rw [e4 (by omega)]; omega
    obtain ⟨N0, hN⟩ : ∃ N0 : Int, N0 = (x : Int) - (m + z : Nat) := ⟨_, rfl⟩
    have tij : ((i : Int) + (j : Int)).toNat = i + j := by omega
    have eA : (x : Int) + -(m : Int) - (z : Int) = N0 := by omega
    have key : ∀ Q2 : Ex → St → Prop, True := fun _ => trivial
    have w1 : IntKind.i64.wrap ((x : Int) + -(m : Int)) = (x : Int) + -(m : Int) := wi (by omega)
    have w2 : IntKind.i64.wrap ((z : Nat) : Int) = ((z : Nat) : Int) := wi (by omega)
    have w3 : IntKind.i64.wrap N0 = N0 := wi (by omega)
    have eB : ¬ (j : Int) < (b.length : Int) → (x : Int) + -(m : Int) = N0 := fun hjb => by
      have : b.getD j 0 = 0 := by rw [List.getD_eq_getElem?_getD, List.getElem?_eq_none (by omega)]; rfl
      rw [this, Nat.mul_zero] at hz
      omega
    have hDg := D_get R (i + j) (by omega)
    rw [hgx] at hDg
    have hlR : (R.set (i + j) d).length = n := by rw [List.length_set, lR]
    have hLR : Lt 65536 (R.set (i + j) d) := Lt_set hR _ _ e2
    have hDb : (j : Int) < (b.length : Int) → (D b).getD j .un = .i .i64 ((b.getD j 0 : Nat) : Int) := fun h => D_get b j (by omega)
    have hpos : 0 ≤ N0 → m' = 0 ∧ N0 = (d : Int) := fun h0 => by
      have := e3 (by omega)
      subst this
      exact ⟨rfl, by omega⟩
    have hneg : N0 < 0 → (65535 - N0).tdiv 65536 = (m' : Int) := fun h0 => by
      rw [e4 (by omega), show (65535 - N0) = ((m + z + 65535 - x : Nat) : Int) from by omega]
      rfl
    have hnd : N0 + (m' : Int) * 65536 = (d : Int) := by omega
    have w4 : IntKind.i64.wrap (65535 - N0) = 65535 - N0 := wi (by omega)
    have w5 : IntKind.i64.wrap (m' : Int) = (m' : Int) := wi (by omega)
    have w6 : IntKind.i64.wrap ((m' : Int) * 65536) = (m' : Int) * 65536 := wi (by omega)
    have w7 : IntKind.i64.wrap (d : Int) = (d : Int) := wi (by omega)
    have w8 : IntKind.i64.wrap (0 - (m' : Int)) = 0 - (m' : Int) := wi (by omega)
    have hd0 : ¬ (d : Int) < 0 := by omega
    have hset := D_set5 R (i + j) d
    clear e1 e3 e4 hz hzb hN hx hxx hy hs hv hle hR hr hb
    by_cases hjb : (j : Int) < (b.length : Int)
    all_goals
      refine spQ (ai @w3 (ai @w2 (ai @w1 (ai @eB (ai @eA (ai @hzI (ai @hDb (ai @hDg (ai @tij (ai @hDl (ai @hjb (ai @h @bz_F6)))))))))))) ?_
      refine vm_loopA [] Bool (fun f => match f with
          | false => ⟨[(0, .ow 1 0 n), (1, .l 1 (D b)), (2, .i .i64 (k : Int)), (3, .i .i64 (i : Int)), (8, .i .i64 0), (9, .i .i64 (j : Int)), (10, .i .i64 N0)], [(0, some ⟨3, 1, D R, true, false⟩)], 1⟩
          | true => ⟨[(0, .ow 1 0 n), (1, .l 1 (D b)), (2, .i .i64 (k : Int)), (3, .i .i64 (i : Int)), (8, .i .i64 (0 - (m' : Int))), (9, .i .i64 (j : Int)), (10, .i .i64 (d : Int))], [(0, some ⟨3, 1, D R, true, false⟩)], 1⟩)
        (fun _ => True) (fun f => match f with | false => 1 | true => 0) false trivial (by exact leQ) (by
        exact ltQ) ?_
      rintro f - Q2 hQ2 he2 hr2
      cases f
      · simp only []
        by_cases hn0 : N0 < 0
        · repeat first
            | (refine hK _ ?_; clear hK K)
            | ((first | refine vm_reg (fun K hK => ?_) | refine vm_dreg (fun K hK => ?_) | refine vm_dregx (fun K hK => ?_)); simp (disch := (first | omega | assumption)) only [S1, ↓reduceIte, Nat.reduceEqDiff, Nat.reduceAdd, Nat.reduceMul, Nat.reduceDiv, AOp.sb, AOp.mut, frzf, ↓Bool.false_eq_true, beq_self_eq_true, ite_self, Nat.reduceLeDiff, Int.reduceEq, Int.reduceSub, Int.reduceAdd, Int.reduceNeg, Int.reduceLT, Int.reduceLE, Nat.reduceLT, bz_F6, hn0, w4, hneg hn0, w5, w6, hnd, w7, w8]; refine hK _ ?_; clear hK K)
            | simp only [Sv, ↓reduceIte, Nat.reduceEqDiff]
          refine hQ2 _ true trivial (by decide) ?_
          exact ltQ
        · obtain ⟨hm0, hN0⟩ := hpos (by omega)
          rw [hN0] at *
          refine spQ (ai @hd0 @bz_F6) ?_
          refine he2 _ _ ?_
          refine spQ (ai @hset (ai @tij (ai @hDl @bz_F6))) ?_
          refine hQ _ (j + 1, m', R.set (i + j) d) ⟨by simp only; omega, hmk, hlR, hLR, v2, v1⟩ (by simp only; omega) ?_
          exact ltQ
      · simp only []
        refine spQ (ai @hd0 @bz_F6) ?_
        refine he2 _ _ ?_
        refine spQ (ai @hset (ai @tij (ai @hDl @bz_F6))) ?_
        refine hQ _ (j + 1, m', R.set (i + j) d) ⟨by simp only; omega, hmk, hlR, hLR, v2, v1⟩ (by simp only; omega) ?_
        exact ltQ
  · have hij : i + j = n := by omega
    have hbt : b.take j = b := List.take_of_length_le (by omega)
    rw [hij, hbt, show r.take n = r from by rw [hn, List.take_length], show R.take n = R from by rw [← lR, List.take_length]] at hv
    have hRl := nv_lt hR
    rw [lR] at hRl
    have hm0 : m = 0 := by
      rcases Nat.eq_zero_or_pos m with h0 | h0
      · exact h0
      · have : 65536 ^ n * 1 ≤ 65536 ^ n * m := Nat.mul_le_mul_left _ h0
        rw [Nat.mul_comm m] at hv
        omega
    rw [hm0, Nat.zero_mul, Nat.add_zero] at hv
    have e : R = fl 65536 n (nv 65536 r - k * 65536 ^ i * nv 65536 b) := by
      rw [hv, Nat.add_sub_cancel, ← lR]; exact (fl_nv hR).symm
    refine spQ (ai @h @bz_F6) ?_
    refine he _ _ ?_
    refine spQ @bz_F6 ?_
    exact ⟨0, rfl, by rw [← e]; rfl⟩
def a140 : AC := .seq (.reg [qr 6 (.mv (.k (.b false)))])
 (.seq (.reg [qm 7 0,
 qm 8 2,
 qr 9 (.sub 1 (.t 7) (some (.t 8)) none),
 qm 10 1,
 qr 11 (.call 165 [(1, (.t 9)), (1, (.t 10))]),
 qr 12 (.bin .geq (.t 11) (.k (.i .i64 0))),
 qm 6 12])
 (.ret))
theorem hhigher_spec (r b : List Nat) (i : Nat) (hr : Lt 65536 r) (hb : Lt 65536 b) (lr : r.length ≤ 1099511627776) (lb : b.length ≤ 1099511627776) (hi : i ≤ r.length) :
    AFun Tryz.prog J0 140 [.l 1 (D r), .l 1 (D b), .i .i64 (i : Int)] (.b (decide (nv 65536 b ≤ nv 65536 (r.drop i)))) := by
  have hc := hcmp_spec (r.drop i) b (Lt_drop hr i) hb (by rw [List.length_drop]; omega) lb
  have hdd : (D r).drop i = D (r.drop i) := by simp [D]
  have h1 : decide ((0 : Int) ≤ sg (nv 65536 (r.drop i)) (nv 65536 b)) = decide (nv 65536 b ≤ nv 65536 (r.drop i)) := by rw [decide_eq_decide]; exact Iff.of_eq (sg_ge _ _)
  rw [← h1]
  generalize sg (nv 65536 (r.drop i)) (nv 65536 b) = c at *
  have hi0 : (0 : Int) ≤ (i : Int) := by omega
  have hDl := D_len r
  refine mkQ fol J0s Tryz.func140 a140 ?_
  unfold a140
  simp only [init_eq, initE, qm, qr, qn]
  repeat first | (refine hK _ ?_; clear hK K) | simp only [Sv, ↓reduceIte, Nat.reduceEqDiff] | ((first | refine vm_reg (fun K hK => ?_) | refine vm_dreg (fun K hK => ?_) | refine vm_dregx (fun K hK => ?_) | refine clp_q ?_ | refine clq_mk (by assumption) ?_ | refine mcq_q ?_ | (apply mcr_mk; assumption)); simp (disch := (first | omega | assumption)) only [S1, ↓reduceIte, Nat.reduceEqDiff, Nat.reduceAdd, Nat.reduceMul, Nat.reduceDiv, AOp.sb, AOp.mut, frzf, ↓Bool.false_eq_true, beq_self_eq_true, ite_self, Nat.reduceLeDiff, Int.reduceEq, Int.reduceSub, Int.reduceAdd, Int.reduceNeg, Int.reduceLT, Int.reduceLE, Nat.reduceLT, bz_F6, hi0, hDl, hdd, Nat.mul_one, tn_nat])
  simp (disch := (first | omega | assumption)) only [retOk, retN, ret1, retF, ret1F, V.okArg, and_true, true_and, S1, ↓reduceIte, Nat.reduceEqDiff, Nat.reduceAdd, Nat.reduceMul, Nat.reduceDiv, AOp.sb, AOp.mut, frzf, ↓Bool.false_eq_true, beq_self_eq_true, ite_self, Nat.reduceLeDiff, Int.reduceEq, Int.reduceSub, Int.reduceAdd, Int.reduceNeg, Int.reduceLT, Int.reduceLE, Nat.reduceLT, bz_F6, hi0, hDl, hdd, Nat.mul_one, tn_nat]
end Go.Proofs.YthldhonccnajoaaGreatDoor
namespace Go.Proofs.YthldhonccnajoaaGreatDoor
open Go Go.RowKit Ab
set_option linter.unusedSimpArgs false
set_option linter.unusedVariables false
set_option maxHeartbeats 10000000
theorem bz_F7 : type_of% (And.intro @W_len (And.intro @D_len (And.intro @Nat.div_one (And.intro @Nat.mul_one (And.intro @tn_nat (And.intro @W_nf (And.intro @D_nf (And.intro @W_nil (And.intro @D_nil (And.intro @wi (And.intro @nf_g (And.intro @Bool.false_and (@W_cell))))))))))))) := And.intro @W_len (And.intro @D_len (And.intro @Nat.div_one (And.intro @Nat.mul_one (And.intro @tn_nat (And.intro @W_nf (And.intro @D_nf (And.intro @W_nil (And.intro @D_nil (And.intro @wi (And.intro @nf_g (And.intro @Bool.false_and (@W_cell))))))))))))
theorem D_cell5 (a : List Nat) : (D a).all V.cell = true := by simp [D, V.cell]
def dk (R b : List Nat) (i : Nat) : Nat := max 1 (nv 65536 (R.drop (i + b.length - 1)) / (b.getD (b.length - 1) 0 + 1))
theorem dk_law {R b : List Nat} {i : Nat} (hR : Lt 65536 R) (hb : Lt 65536 b) (tb : tz b = b) (b0 : b ≠ []) (h : nv 65536 b ≤ nv 65536 (R.drop i)) (hlt : nv 65536 R < nv 65536 b * 65536 ^ (i + 1)) :
    i + b.length ≤ R.length ∧ nv 65536 (R.drop (i + b.length - 1)) < 4294967296 ∧ dk R b i < 4294967296 ∧ dk R b i * 65536 ^ i * nv 65536 b ≤ nv 65536 R := by
  have lb : 0 < b.length := List.length_pos_iff.2 b0
  have htop := nv_top (b := 65536) tb b0
  have hbl := nv_lt hb
  have hdrop := nv_lt (Lt_drop hR i)
  rw [List.length_drop] at hdrop
  have c1 : i + b.length ≤ R.length := by
    have h1 : 65536 ^ (b.length - 1) < 65536 ^ (R.length - i) := by omega
    have := (Nat.pow_lt_pow_iff_right (by decide : 1 < 65536)).1 h1
    omega
  have e1 : i + b.length - 1 = i + (b.length - 1) := by omega
  have c2 : nv 65536 (R.drop (i + b.length - 1)) < 4294967296 := by
    rw [← nv_div (by decide) hR, Nat.div_lt_iff_lt_mul (Nat.pow_pos (by decide)), e1]
    refine Nat.lt_of_lt_of_le hlt ?_
    have : nv 65536 b ≤ 65536 ^ (b.length - 1) * 65536 := by
      have e : 65536 ^ (b.length - 1) * 65536 = 65536 ^ b.length := by rw [← Nat.pow_succ, show (b.length - 1).succ = b.length from by omega]
      rw [e]; omega
    refine Nat.le_trans (Nat.mul_le_mul_right _ this) ?_
    rw [Nat.pow_succ, Nat.pow_add]
    have : 65536 ^ (b.length - 1) * 65536 * (65536 ^ i * 65536) = 4294967296 * (65536 ^ i * 65536 ^ (b.length - 1)) := by
      generalize 65536 ^ (b.length - 1) = u
      generalize 65536 ^ i = v
      rw [show 4294967296 = 65536 * 65536 from rfl]
      simp only [Nat.mul_assoc, Nat.mul_comm, Nat.mul_left_comm]
    omega
  have hone : 1 * 65536 ^ i * nv 65536 b ≤ nv 65536 R := by
    rw [Nat.one_mul]
    rw [← nv_div (by decide) hR] at h
    have := (Nat.le_div_iff_mul_le (Nat.pow_pos (by decide))).1 h
    rwa [Nat.mul_comm]
  have hk : nv 65536 (R.drop (i + b.length - 1)) / (b.getD (b.length - 1) 0 + 1) * 65536 ^ i * nv 65536 b ≤ nv 65536 R := by
    have hbt : nv 65536 b ≤ 65536 ^ (b.length - 1) * (b.getD (b.length - 1) 0 + 1) := by
      have h1 := nv_take_succ (b := 65536) b (b.length - 1) (by omega)
      rw [show b.length - 1 + 1 = b.length from by omega, List.take_length] at h1
      have h2 := nv_take_lt (b := 65536) (by decide) hb (b.length - 1)
      rw [h1, Nat.mul_add, Nat.mul_one]
      omega
    have hH := Nat.div_mul_le_self (nv 65536 (R.drop (i + b.length - 1))) (b.getD (b.length - 1) 0 + 1)
    have hRd : nv 65536 (R.drop (i + b.length - 1)) * 65536 ^ (i + b.length - 1) ≤ nv 65536 R := by
      rw [← nv_div (by decide) hR]; exact Nat.div_mul_le_self _ _
    refine Nat.le_trans ?_ hRd
    generalize nv 65536 (R.drop (i + b.length - 1)) = H at *
    generalize b.getD (b.length - 1) 0 + 1 = T at *
    rw [e1, Nat.pow_add]
    refine Nat.le_trans (Nat.mul_le_mul_left _ hbt) ?_
    have := Nat.mul_le_mul_right (65536 ^ i * 65536 ^ (b.length - 1)) hH
    refine Nat.le_trans (Nat.le_of_eq ?_) this
    generalize H / T = q
    simp only [Nat.mul_assoc, Nat.mul_comm, Nat.mul_left_comm]
  refine ⟨c1, c2, ?_, ?_⟩
  · unfold dk
    have := Nat.div_le_self (nv 65536 (R.drop (i + b.length - 1))) (b.getD (b.length - 1) 0 + 1)
    omega
  · unfold dk
    rcases Nat.le_total 1 (nv 65536 (R.drop (i + b.length - 1)) / (b.getD (b.length - 1) 0 + 1)) with h1 | h1
    · rw [Nat.max_eq_right h1]; exact hk
    · rw [Nat.max_eq_left h1]; exact hone
def a115 : AC := .seq (.reg [qr 4 (.mv (.k .nl)),
 qr 5 (.mv (.k .nl))])
 (.seq (.reg [qr 13 (.bsl 3 1 0 [] []),
 qm 14 0,
 qr 15 (.app 3 1 8 (.t 13) (.t 14)),
 qm 6 15])
 (.seq (.seq (.reg [qm 16 0,
 qr 17 (.len (.t 16)),
 qm 18 1,
 qr 19 (.len (.t 18)),
 qr 20 (.bin .lss (.t 17) (.t 19))])
 (.cond (.t 20)
 (.seq (.reg [qm 21 6,
 qr 4 (.mv (.k .nl)),
 qm 5 21])
 (.ret))
 (.skip)))
 (.seq (.reg [qm 22 0,
 qr 23 (.len (.t 22)),
 qm 24 1,
 qr 25 (.len (.t 24)),
 qr 26 (.bin .sub (.t 23) (.t 25)),
 qr 27 (.bin .add (.t 26) (.k (.i .i64 1))),
 qr 28 (.mk 3 1 8 [(.i .i64 0)] (.t 27) (.t 27)),
 qm 7 28])
 (.seq (.reg [qm 29 1,
 qm 30 1,
 qr 31 (.len (.t 30)),
 qr 32 (.bin .sub (.t 31) (.k (.i .i64 1))),
 qr 33 (.idx 1 (.t 29) (.t 32)),
 qr 34 (.ld false 1 (.t 33)),
 qr 35 (.bin .add (.t 34) (.k (.i .i64 1))),
 qm 8 35])
 (.seq (.seq (.reg [qm 36 7,
 qr 37 (.len (.t 36)),
 qr 38 (.bin .sub (.t 37) (.k (.i .i64 1))),
 qm 9 38])
 (.blk 0
 (.loop
 (.seq (.seq (.reg [qm 39 9,
 qr 40 (.bin .geq (.t 39) (.k (.i .i64 0)))])
 (.cond (.t 40)
 (.skip)
 (.exit 0)))
 (.seq (.blk 1
 (.seq (.blk 2
 (.loop
 (.seq (.seq (.reg [qm 43 6,
 qm 44 1,
 qm 45 9,
 qr 46 (.call 140 [(1, (.t 43)), (1, (.t 44)), (1, (.t 45))])])
 (.cond (.t 46)
 (.skip)
 (.exit 2)))
 (.blk 3
 (.seq (.reg [qr 10 (.mv (.k (.i .i64 0)))])
 (.seq (.seq (.reg [qm 47 6,
 qr 48 (.len (.t 47)),
 qr 49 (.bin .sub (.t 48) (.k (.i .i64 1))),
 qm 11 49])
 (.blk 4
 (.loop
 (.seq (.seq (.reg [qm 50 11,
 qm 51 9,
 qm 52 1,
 qr 53 (.len (.t 52)),
 qr 54 (.bin .add (.t 51) (.t 53)),
 qr 55 (.bin .sub (.t 54) (.k (.i .i64 1))),
 qr 56 (.bin .geq (.t 50) (.t 55))])
 (.cond (.t 56)
 (.skip)
 (.exit 4)))
 (.seq (.blk 5
 (.reg [qm 59 10,
 qr 60 (.bin .mul (.t 59) (.k (.i .i64 65536))),
 qm 61 6,
 qm 62 11,
 qr 63 (.idx 1 (.t 61) (.t 62)),
 qr 64 (.ld false 1 (.t 63)),
 qr 65 (.bin .add (.t 60) (.t 64)),
 qm 10 65]))
 (.reg [qm 57 11,
 qr 58 (.bin .sub (.t 57) (.k (.i .i64 1))),
 qm 11 58]))))))
 (.seq (.reg [qm 66 10,
 qm 67 8,
 qr 68 (.bin .quo (.t 66) (.t 67)),
 qr 69 (.mm true (.k (.i .i64 1)) (.t 68)),
 qm 12 69])
 (.seq (.reg [qm 70 6,
 qm 71 1,
 qm 72 12,
 qm 73 9,
 qr 74 (.mcall 141 0 [(1, (.t 70)), (1, (.t 71)), (1, (.t 72)), (1, (.t 73))])])
 (.reg [qm 75 7,
 qm 76 9,
 qr 77 (.idx 1 (.t 75) (.t 76)),
 qr 78 (.ld false 1 (.t 77)),
 qm 79 12,
 qr 80 (.bin .add (.t 78) (.t 79)),
 qr 81 (.idx 1 (.t 75) (.t 76)),
 qn (.st 1 (.t 81) (.t 80))])))))))))
 (.seq (.reg [qr 82 (.bsl 3 1 0 [] []),
 qm 83 6,
 qr 84 (.call 116 [(1, (.t 83))]),
 qr 85 (.app 3 1 8 (.t 82) (.t 84)),
 qm 6 85])
 (.blk 6
 (.loop
 (.seq (.seq (.reg [qm 86 6,
 qr 87 (.len (.t 86)),
 qm 88 9,
 qr 89 (.bin .lss (.t 87) (.t 88))])
 (.cond (.t 89)
 (.skip)
 (.exit 6)))
 (.blk 7
 (.reg [qm 90 6,
 qr 91 (.bsl 3 1 1 [(.i .i64 0)] [(0, (.k (.i .i64 0)))]),
 qr 92 (.app 3 1 8 (.t 90) (.t 91)),
 qm 6 92]))))))))
 (.reg [qm 41 9,
 qr 42 (.bin .sub (.t 41) (.k (.i .i64 1))),
 qm 9 42]))))))
 (.seq (.reg [qm 93 7,
 qm 94 6,
 qm 4 93,
 qm 5 94])
 (.ret)))))))
theorem hdivide_spec (a b : List Nat) (ha : Lt 65536 a) (hb : Lt 65536 b) (ta : tz a = a) (tb : tz b = b) (b0 : b ≠ []) (la : a.length ≤ 100000000000) (lb : b.length ≤ 100000000000) :
    AFun Tryz.prog J0 115 [.l 1 (D a), .l 1 (D b)] (.t [.l 1 (D (fl 65536 (a.length + 1 - b.length) (nv 65536 a / nv 65536 b))), .l 1 (D (dg 65536 (nv 65536 a % nv 65536 b)))]) := by
  have hb1 : 0 < b.length := List.length_pos_iff.2 b0
  have htop := nv_top (b := 65536) tb b0
  have hbp : 0 < nv 65536 b := Nat.lt_of_lt_of_le (Nat.pow_pos (by decide)) htop
  by_cases hl : (a.length : Int) < (b.length : Int)
  · have hal := nv_lt ha
    have : nv 65536 a < nv 65536 b := Nat.lt_of_lt_of_le hal (Nat.le_trans (Nat.pow_le_pow_right (by decide) (by omega)) htop)
    rw [Nat.mod_eq_of_lt this, ← tz_dg H2 ha, ta, show a.length + 1 - b.length = 0 from by omega, show fl 65536 0 (nv 65536 a / nv 65536 b) = [] from rfl]
    refine mkQ fol J0s Tryz.func115 a115 ?_
    unfold a115
    simp only [init_eq, initE, qm, qr, qn]
    refine spQ (ai @nappA (ai @hl (ai @D_cell5 @bz_F7))) ?_
    exact rtQ (ai @nappA (ai @D_cell5 @bz_F7))
  · obtain ⟨L, hL⟩ : ∃ L, L = a.length + 1 - b.length := ⟨_, rfl⟩
    rw [← hL]
    have hLI : (a.length : Int) - (b.length : Int) + 1 = (L : Int) := by omega
    have hL0 : (0 : Int) ≤ (L : Int) := by omega
    have tb1 : ((b.length : Int) - 1).toNat = b.length - 1 := by omega
    obtain ⟨T, hT⟩ : ∃ T, T = b.getD (b.length - 1) 0 + 1 := ⟨_, rfl⟩
    have hT1 : T ≤ 65536 := by have := Lt_get hb (by decide) (b.length - 1); omega
    have hTI : ((b.getD (b.length - 1) 0 : Nat) : Int) + 1 = (T : Int) := by omega
    have hDb := D_get b (b.length - 1) (by omega)
    refine mkQ fol J0s Tryz.func115 a115 ?_
    unfold a115
    simp only [init_eq, initE, qm, qr, qn]
    refine spQ (ai @Nat.zero_add (ai @hTI (ai @hDb (ai @tb1 (ai @mk_D5 (ai @hL0 (ai @hLI (ai @nappA (ai @hl (ai @D_cell5 @bz_F7)))))))))) ?_
    have hQ0 : Lt 65536 (List.replicate L 0) := Lt_rep (by decide)
    refine vm_loopA [] (Nat × List Nat × List Nat) (fun x => ⟨[(0, .l 1 (D a)), (1, .l 1 (D b)), (6, .ow 1 0 x.2.1.length), (7, .ow 1 1 L), (8, .i .i64 (T : Int)), (9, .i .i64 ((x.1 : Int) - 1))],
        [(0, some ⟨3, 1, D x.2.1, true, false⟩), (1, some ⟨3, 1, D x.2.2, true, false⟩)], 2⟩)
      (fun x => x.1 ≤ L ∧ Lt 65536 x.2.1 ∧ Lt 65536 x.2.2 ∧ x.2.2.length = L ∧ x.1 - 1 ≤ x.2.1.length ∧ x.2.1.length ≤ 100000000000 ∧ nv 65536 x.2.2 * nv 65536 b + nv 65536 x.2.1 = nv 65536 a ∧ nv 65536 x.2.1 < nv 65536 b * 65536 ^ x.1 ∧ (∀ j, j < x.1 → x.2.2.getD j 0 = 0) ∧ (x.1 = 0 → tz x.2.1 = x.2.1))
      (fun x => x.1) (L, a, List.replicate L 0) ⟨Nat.le_refl _, ha, hQ0, by simp, by simp only; omega, la, by simp only [nv_rep, Nat.zero_mul, Nat.zero_add], ?_, fun j hj => by simp only [List.getD_eq_getElem?_getD, List.getElem?_replicate]; split <;> simp, fun h => by simp only at h; omega⟩ (by exact leQ) (by
      exact ltQ) ?_
    · simp only
      refine Nat.lt_of_lt_of_le (nv_lt ha) ?_
      refine Nat.le_trans (Nat.le_of_eq ?_) (Nat.mul_le_mul_right _ htop)
      rw [← Nat.pow_add]; congr 1; omega
    rintro ⟨t, R, Q⟩ ⟨ht, hR, hQl, lQ, tR, lR, hv, hvlt, hz, htz⟩ Q' hQ he hrr
    simp only [] at ht hR hQl lQ tR lR hv hvlt hz htz ⊢
    by_cases h : (0 : Int) ≤ (t : Int) - 1
    · obtain ⟨i, rfl⟩ : ∃ i, t = i + 1 := ⟨t - 1, by omega⟩
      have ti : ((i + 1 : Nat) : Int) - 1 = (i : Int) := by omega
      rw [ti] at h ⊢
      obtain ⟨n, hn⟩ : ∃ n, n = R.length := ⟨_, rfl⟩
      have hqi := hz i (by omega)
      refine spQ (ai @h (ai @D_cell5 @bz_F7)) ?_
      refine vm_loopA [] (Nat × List Nat) (fun x => ⟨[(0, .l 1 (D a)), (1, .l 1 (D b)), (6, .ow 1 0 n), (7, .ow 1 1 L), (8, .i .i64 (T : Int)), (9, .i .i64 (i : Int))],
          [(0, some ⟨3, 1, D x.2, true, false⟩), (1, some ⟨3, 1, D (Q.set i x.1), true, false⟩)], 2⟩)
        (fun x => Lt 65536 x.2 ∧ x.2.length = n ∧ x.1 * 65536 ^ i * nv 65536 b + nv 65536 x.2 = nv 65536 R ∧ x.1 < 65536)
        (fun x => nv 65536 x.2) (0, R) ⟨hR, hn.symm, by simp, by simp only; omega⟩ (by exact leQ) (by
        simp (disch := (first | omega | assumption)) only [Sl, Sa, Sw, ↓reduceIte, Nat.reduceEqDiff, Nat.reduceLT, List.all_nil, List.all_cons, Nat.reduceBneDiff, Nat.reduceAdd, bne_iff_ne, ne_eq, reduceCtorEq, not_false_eq_true, not_true_eq_false, Bool.and_true, Bool.true_and, and_true, true_and, and_self, i_eq]
        rw [show Q.set i 0 = Q from ?_]
        · repeat' first | rfl | omega | (simp only [List.length_append, List.length_cons, List.length_nil]; done) | apply And.intro
        · refine List.ext_getElem (by simp) fun u h1 h2 => ?_
          rw [List.getElem_set]
          split
          · rename_i e; subst e
            rw [List.getD_eq_getElem?_getD, List.getElem?_eq_getElem h2] at hqi
            exact hqi.symm
          · rfl) ?_
      rintro ⟨c, U⟩ ⟨hU, lU, hc, hc65⟩ Q2 hQ2 he2 hr2
      simp only [] at hU lU hc hc65 ⊢
      have hUlt : nv 65536 U < nv 65536 b * 65536 ^ (i + 1) := by omega
      have hhi := hhigher_spec U b i hU hb (by omega) (by omega) (by omega)
      have hDU := D_len U
      by_cases hh : nv 65536 b ≤ nv 65536 (U.drop i)
      · rw [decide_eq_true hh] at hhi
        obtain ⟨k1, k2, k3, k4⟩ := dk_law hU hb tb b0 hh hUlt
        refine wkQ (ai @lU (ai @D_cell5 @bz_F7)) ?_
        obtain ⟨g, hg⟩ : ∃ g, g = i + b.length - 1 := ⟨_, rfl⟩
        have hgI : (i : Int) + (b.length : Int) - 1 = (g : Int) := by omega
        rw [← hg] at k2
        have hmono : ∀ j, g ≤ j → nv 65536 (U.drop j) < 4294967296 := fun j hj => by
          refine Nat.lt_of_le_of_lt ?_ k2
          rw [← nv_div (by decide) hU, ← nv_div (by decide) hU]
          exact Nat.div_le_div_left (Nat.pow_le_pow_right (by decide) hj) (Nat.pow_pos (by decide))
        refine vm_loopA [] Nat (fun j => ⟨[(0, .l 1 (D a)), (1, .l 1 (D b)), (6, .ow 1 0 n), (7, .ow 1 1 L), (8, .i .i64 (T : Int)), (9, .i .i64 (i : Int)), (10, .i .i64 ((nv 65536 (U.drop j) : Nat) : Int)), (11, .i .i64 ((j : Int) - 1))],
            [(0, some ⟨3, 1, D U, true, false⟩), (1, some ⟨3, 1, D (Q.set i c), true, false⟩)], 2⟩)
          (fun j => g ≤ j ∧ j ≤ n) (fun j => j) n ⟨by omega, Nat.le_refl _⟩ (by exact leQ) (by
          simp (disch := (first | omega | assumption)) only [Sl, Sa, Sw, ↓reduceIte, Nat.reduceEqDiff, Nat.reduceLT, List.all_nil, List.all_cons, Nat.reduceBneDiff, Nat.reduceAdd, bne_iff_ne, ne_eq, reduceCtorEq, not_false_eq_true, not_true_eq_false, Bool.and_true, Bool.true_and, and_true, true_and, and_self, i_eq]
          rw [show U.drop n = [] from List.drop_of_length_le (by omega)]
          repeat' first | rfl | omega | (simp only [List.length_append, List.length_cons, List.length_nil]; done) | apply And.intro) ?_
        rintro j ⟨hj1, hj2⟩ Q3 hQ3 he3 hr3
        try simp only [] at hj1 hj2 ⊢
        by_cases hj : (g : Int) ≤ (j : Int) - 1
        · obtain ⟨u, rfl⟩ : ∃ u, j = u + 1 := ⟨j - 1, by omega⟩
          have hju : ((u + 1 : Nat) : Int) - 1 = (u : Int) := by omega
          have hDg := D_get U u (by omega)
          have hnd := nv_drop_get (b := 65536) U u (by omega)
          have hm1 := hmono u (by omega)
          have hgu : (g : Int) ≤ (u : Int) := by omega
          obtain ⟨N1, hN1⟩ : ∃ N1, N1 = nv 65536 (U.drop (u + 1)) := ⟨_, rfl⟩
          have hval : (N1 : Int) * 65536 + ((U.getD u 0 : Nat) : Int) = ((nv 65536 (U.drop u) : Nat) : Int) := by rw [hnd, hN1]; omega
          rw [← hN1, hju]
          rw [← hN1] at hnd
          have wv1 : IntKind.i64.wrap ((N1 : Int) * 65536) = (N1 : Int) * 65536 := wi (by omega)
          refine spQ (ai @wv1 (ai @hval (ai @hDg (ai @lU (ai @hDU (ai @hgu (ai @hgI (ai @D_cell5 @bz_F7)))))))) ?_
          refine hQ3 _ u ⟨by omega, by omega⟩ (by omega) ?_
          exact ltQ
        · obtain rfl : j = g := by omega
          have hTn : ¬ (T : Int) = 0 := by omega
          obtain ⟨kk, hkk⟩ : ∃ kk, kk = dk U b i := ⟨_, rfl⟩
          rw [← hkk] at k3 k4
          have hmx : max (1 : Int) ((nv 65536 (U.drop j) / T : Nat) : Int) = (kk : Int) := by
            rw [hkk]; unfold dk; rw [← hg, ← hT]; omega
          have hqd : ((nv 65536 (U.drop j) : Nat) : Int).tdiv (T : Int) = ((nv 65536 (U.drop j) / T : Nat) : Int) := rfl
          have wq : IntKind.i64.wrap ((nv 65536 (U.drop j) / T : Nat) : Int) = ((nv 65536 (U.drop j) / T : Nat) : Int) := by
            have h1 := Nat.div_le_self (nv 65536 (U.drop j)) T
            clear hmx hqd
            generalize nv 65536 (U.drop j) / T = qq at *
            exact wi (by omega)
          have hk1 : 1 ≤ kk := by rw [hkk]; unfold dk; omega
          have htk := htake_spec U b kk i hU hb (by omega) k3 k1 k4
          rw [lU] at htk
          obtain ⟨KK, hKK⟩ : ∃ KK, KK = kk * 65536 ^ i * nv 65536 b := ⟨_, rfl⟩
          rw [← hKK] at htk k4
          have hKp : 0 < KK := by rw [hKK]; exact Nat.mul_pos (Nat.mul_pos hk1 (Nat.pow_pos (by decide))) hbp
          have hUl := nv_lt hU
          rw [lU] at hUl
          have hnew : nv 65536 (fl 65536 n (nv 65536 U - KK)) = nv 65536 U - KK := by rw [nv_fl, Nat.mod_eq_of_lt (by omega)]
          have hsum : (c + kk) * 65536 ^ i * nv 65536 b = c * 65536 ^ i * nv 65536 b + KK := by rw [hKK, Nat.add_mul, Nat.add_mul]
          have hck : c + kk < 65536 := by
            refine Nat.lt_of_not_le fun hge => ?_
            have h1 := Nat.mul_le_mul_right (nv 65536 b) (Nat.mul_le_mul_right (65536 ^ i) hge)
            have h2 : 65536 * 65536 ^ i * nv 65536 b = nv 65536 b * 65536 ^ (i + 1) := by rw [Nat.pow_succ, Nat.mul_comm (nv 65536 b), Nat.mul_comm 65536]
            omega
          have hsl : (Q.set i c).length = L := by rw [List.length_set, lQ]
          have hDq := D_get (Q.set i c) i (by omega)
          have hDql := D_len (Q.set i c)
          rw [show (Q.set i c).getD i 0 = c from by rw [List.getD_eq_getElem?_getD, List.getElem?_set_self (by omega)]; rfl] at hDq
          have hst := D_set5 (Q.set i c) i (c + kk)
          rw [List.set_set] at hst
          have hckI : (c : Int) + (kk : Int) = ((c + kk : Nat) : Int) := by omega
          have hi0 : (0 : Int) ≤ (i : Int) := by omega
          clear hmono
          refine spQ (ai @hj (ai @hgI (ai @D_cell5 @bz_F7))) ?_
          refine he3 _ _ ?_
          refine wkQ (ai @hst (ai @hckI (ai @hsl (ai @hDql (ai @hDq (ai @lU (ai @hmx (ai @wq (ai @hqd (ai @hTn (ai @D_cell5 @bz_F7))))))))))) ?_
          refine hQ2 _ (c + kk, fl 65536 n (nv 65536 U - KK)) ⟨fl_Lt (by decide) _ _, fl_len _ _, ?_, hck⟩ ?_ ?_
          · simp only []; rw [hnew, hsum]; omega
          · simp only []; rw [hnew]; omega
          · simp (disch := (first | omega | assumption)) only [Sl, Sa, Sw, ↓reduceIte, Nat.reduceEqDiff, Nat.reduceLT, List.all_nil, List.all_cons, Nat.reduceBneDiff, Nat.reduceAdd, bne_iff_ne, ne_eq, reduceCtorEq, not_false_eq_true, not_true_eq_false, Bool.and_true, Bool.true_and, and_true, true_and, and_self, i_eq]
            repeat' first | rfl | omega | (simp only [List.length_append, List.length_cons, List.length_nil]; done) | apply And.intro
      · rw [decide_eq_false hh] at hhi
        have hcu := hcut_spec U (by omega)
        have tzl := tz_len U
        have hsl : (Q.set i c).length = L := by rw [List.length_set, lQ]
        refine wkQ (ai @D_cell5 @bz_F7) ?_
        refine he2 _ _ ?_
        refine wkQ (ai @Nat.zero_add (ai @nappA (ai @D_cell5 @bz_F7))) ?_
        refine vm_loopA [] Nat (fun p => ⟨[(0, .l 1 (D a)), (1, .l 1 (D b)), (6, .ow 1 0 ((tz U).length + p)), (7, .ow 1 1 L), (8, .i .i64 (T : Int)), (9, .i .i64 (i : Int))],
            [(0, some ⟨3, 1, D (tz U ++ List.replicate p 0), true, false⟩), (1, some ⟨3, 1, D (Q.set i c), true, false⟩)], 2⟩)
          (fun p => p = 0 ∨ (tz U).length + p ≤ i) (fun p => i - p) 0 (.inl rfl) (by exact leQ) (by
          simp (disch := (first | omega | assumption)) only [Sl, Sa, Sw, ↓reduceIte, Nat.reduceEqDiff, Nat.reduceLT, List.all_nil, List.all_cons, Nat.reduceBneDiff, Nat.reduceAdd, bne_iff_ne, ne_eq, reduceCtorEq, not_false_eq_true, not_true_eq_false, Bool.and_true, Bool.true_and, and_true, true_and, and_self, i_eq]
          rw [show tz U ++ List.replicate 0 0 = tz U from by simp]
          repeat' first | rfl | omega | (simp only [List.length_append, List.length_cons, List.length_nil]; done) | apply And.intro) ?_
        rintro p hp Q3 hQ3 he3 hr3
        try simp only [] at hp ⊢
        have hpl : (tz U ++ List.replicate p 0).length = (tz U).length + p := by simp
        have hcat := D_cat5 (tz U ++ List.replicate p 0) 0
        rw [List.append_assoc, ← List.replicate_succ'] at hcat
        have hcl := D_len (tz U ++ List.replicate p 0)
        rw [hpl] at hcl
        by_cases hlt : (((tz U).length + p : Nat) : Int) < (i : Int)
        · refine spQ (ai @hcl (ai @hcat (ai @hlt (ai @D_cell5 @bz_F7)))) ?_
          refine hQ3 _ (p + 1) (.inr (by omega)) (by omega) ?_
          exact ltQ
        · have hnR : nv 65536 (tz U ++ List.replicate p 0) = nv 65536 U := by rw [nv_app, nv_rep, Nat.mul_zero, Nat.add_zero, nv_tz]
          have hns := nv_set (b := 65536) Q i c (by omega)
          rw [hqi, Nat.mul_zero, Nat.add_zero] at hns
          refine spQ (ai @hlt (ai @D_cell5 @bz_F7)) ?_
          refine he3 _ _ ?_
          refine spQ (ai @D_cell5 @bz_F7) ?_
          refine hQ _ (i, tz U ++ List.replicate p 0, Q.set i c) ⟨by simp only; omega, ?_, Lt_set hQl _ _ hc65, hsl, by simp only [hpl]; omega, by simp only [hpl]; omega, ?_, ?_, fun j hj => ?_, fun h0 => ?_⟩ (by simp only; omega) ?_
          · intro x hx
            rcases List.mem_append.1 hx with hx | hx
            · exact Lt_tz hU x hx
            · rw [List.eq_of_mem_replicate hx]; decide
          · simp only []
            rw [hnR, hns, Nat.add_mul, Nat.mul_comm (65536 ^ i) c]; omega
          · simp only []
            rw [hnR]
            rw [← nv_div (by decide) hU] at hh
            have := (Nat.div_lt_iff_lt_mul (Nat.pow_pos (by decide))).1 (Nat.lt_of_not_le hh)
            omega
          · simp only [] at hj ⊢
            rw [getD_set_ne _ _ _ _ (by omega)]; exact hz j (by omega)
          · simp only [] at h0 ⊢
            obtain rfl : p = 0 := by omega
            rw [List.replicate_zero, List.append_nil]; exact tz_tz U
          · simp (disch := (first | omega | assumption)) only [Sl, Sa, Sw, ↓reduceIte, Nat.reduceEqDiff, Nat.reduceLT, List.all_nil, List.all_cons, Nat.reduceBneDiff, Nat.reduceAdd, bne_iff_ne, ne_eq, reduceCtorEq, not_false_eq_true, not_true_eq_false, Bool.and_true, Bool.true_and, and_true, true_and, and_self, i_eq, hpl]
            repeat' first | rfl | omega | (simp only [List.length_append, List.length_cons, List.length_nil]; done) | apply And.intro
    · obtain rfl : t = 0 := by omega
      rw [Nat.pow_zero, Nat.mul_one] at hvlt
      obtain ⟨q1, q2⟩ := (Nat.div_mod_unique (a := nv 65536 a) (b := nv 65536 b) (c := nv 65536 R) (d := nv 65536 Q) hbp).2 ⟨by rw [Nat.mul_comm (nv 65536 b)]; omega, hvlt⟩
      have eQ : fl 65536 L (nv 65536 a / nv 65536 b) = Q := by rw [q1, ← lQ]; exact fl_nv hQl
      have eR : dg 65536 (nv 65536 a % nv 65536 b) = R := by rw [q2, ← tz_dg H2 hR]; exact htz rfl
      refine spQ (ai @h (ai @D_cell5 @bz_F7)) ?_
      refine he _ _ ?_
      refine spQ (ai @D_cell5 @bz_F7) ?_
      exact rtQ (ai @eR (ai @eQ (ai @D_cell5 @bz_F7)))
end Go.Proofs.YthldhonccnajoaaGreatDoor
namespace Go.Proofs.YthldhonccnajoaaGreatDoor
open Go Go.RowKit Ab
set_option linter.unusedSimpArgs false
set_option linter.unusedVariables false
set_option maxHeartbeats 10000000
theorem bz_F8 : type_of% (And.intro @W_len (And.intro @D_len (And.intro @Nat.div_one (And.intro @Nat.mul_one (And.intro @tn_nat (And.intro @W_nf (And.intro @D_nf (And.intro @W_nil (And.intro @D_nil (And.intro @wi (And.intro @nf_g (And.intro @Bool.false_and (@W_cell))))))))))))) := And.intro @W_len (And.intro @D_len (And.intro @Nat.div_one (And.intro @Nat.mul_one (And.intro @tn_nat (And.intro @W_nf (And.intro @D_nf (And.intro @W_nil (And.intro @D_nil (And.intro @wi (And.intro @nf_g (And.intro @Bool.false_and (@W_cell))))))))))))
theorem quo_fit {u v la lb : Nat} (hu : u < 65536 ^ la) (hv : 65536 ^ (lb - 1) ≤ v) (hlb : 0 < lb) : nv 65536 (fl 65536 (la + 1 - lb) (u / v)) = u / v := by
  have hv0 : 0 < v := Nat.lt_of_lt_of_le (Nat.pow_pos (by decide)) hv
  rw [nv_fl]
  refine Nat.mod_eq_of_lt ?_
  rw [Nat.div_lt_iff_lt_mul hv0]
  refine Nat.lt_of_lt_of_le hu (Nat.le_trans ?_ (Nat.mul_le_mul_left _ hv))
  rw [← Nat.pow_add]
  exact Nat.pow_le_pow_right (by decide) (by omega)
theorem hdivN (u v m : Nat) (hu : u < B ^ m) (hv : v < B ^ m) (hm : m ≤ 10000000000) (h0 : v ≠ 0) :
    ∃ q : List Nat, Lt 65536 q ∧ nv 65536 q = u / v ∧ q.length ≤ 4 * m + 1 ∧ AFun Tryz.prog J0 115 [.l 1 (D (dg 65536 u)), .l 1 (D (dg 65536 v))] (.t [.l 1 (D q), .l 1 (D (dg 65536 (u % v)))]) := by
  have b0 : dg 65536 v ≠ [] := fun h => h0 ((dg_nil H2).1 h)
  have hla := dgH_lt hu
  have hlb := dgH_lt hv
  have hd := hdivide_spec (dg 65536 u) (dg 65536 v) (dg_Lt (by decide) _) (dg_Lt (by decide) _) (tz_dg' _) (tz_dg' _) b0 (by omega) (by omega)
  rw [nv_dg H2, nv_dg H2] at hd
  have ht := nv_top (b := 65536) (tz_dg' v) b0
  rw [nv_dg H2] at ht
  have hul := nv_lt (dg_Lt (b := 65536) (by decide) u)
  rw [nv_dg H2] at hul
  exact ⟨_, fl_Lt (by decide) _ _, quo_fit hul ht (List.length_pos_iff.2 b0), by rw [fl_len]; omega, hd⟩
def a82 : AC := .seq (.reg [qr 4 (.mv (.k .nl)),
 qr 5 (.mv (.k .nl))])
 (.seq (.reg [qm 12 0,
 qm 13 1,
 qr 14 (.call 113 [(1, (.t 12)), (1, (.t 13)), (1, (.k (.i .i64 63)))]),
 qm 11 14,
 qr 15 (.ext (.t 11) 0),
 qr 16 (.ext (.t 11) 1),
 qr 17 (.ext (.t 11) 2),
 qm 6 15,
 qm 7 16,
 qm 8 17])
 (.seq (.seq (.reg [qm 18 8])
 (.cond (.t 18)
 (.seq (.dreg [qm 19 6,
 qm 20 7,
 qr 21 (.bin .quo (.t 19) (.t 20)),
 qr 22 (.call 114 [(1, (.t 21))]),
 qm 23 6,
 qm 24 7,
 qr 25 (.bin .rem (.t 23) (.t 24)),
 qr 26 (.call 114 [(1, (.t 25))]),
 qm 4 22,
 qm 5 26])
 (.ret))
 (.skip)))
 (.seq (.reg [qm 28 0,
 qr 29 (.call 92 [(1, (.t 28))]),
 qm 30 1,
 qr 31 (.call 92 [(1, (.t 30))]),
 qr 32 (.call 115 [(1, (.t 29)), (1, (.t 31))]),
 qm 27 32,
 qr 33 (.ext (.t 27) 0),
 qr 34 (.ext (.t 27) 1),
 qm 9 33,
 qm 10 34])
 (.seq (.reg [qm 35 9,
 qr 36 (.call 85 [(1, (.t 35))]),
 qm 37 10,
 qr 38 (.call 85 [(1, (.t 37))]),
 qm 4 36,
 qm 5 38])
 (.ret)))))
theorem hquo_spec (a b : List Nat) (ha : Wd a) (hb : Wd b) (la : a.length ≤ 1000000000) (lb : b.length ≤ 1000000000) (h0 : nv B b ≠ 0) : AFun Tryz.prog J0 82 [.l 1 (W a), .l 1 (W b)] (.t [.l 1 (W (dg B (nv B a / nv B b))), .l 1 (W (dg B (nv B a % nv B b)))]) := by
  have ho := hones_spec a b 63 (by decide) ha hb (by omega) (by omega)
  have d1 := hdigits_spec a ha (by omega)
  have d2 := hdigits_spec b hb (by omega)
  obtain ⟨m, hm⟩ : ∃ m, m = 1000000000 := ⟨_, rfl⟩
  rw [← hm] at la lb
  have hu := nvlt ha la
  have hv := nvlt hb lb
  generalize nv B a = u at *
  generalize nv B b = v at *
  have hB : B = 18446744073709551616 := rfl
  obtain ⟨q, q1, q2, q3, hd⟩ := hdivN u v m hu hv (by omega) h0
  have n1 := (hnumber_spec q q1 (by omega)).frozen
  have hrl : (dg 65536 (u % v)).length ≤ 4 * m := dgH_lt (Nat.lt_of_le_of_lt (Nat.mod_le _ _) hu)
  have n2 := (hnumber_spec (dg 65536 (u % v)) (dg_Lt (by decide) _) (by omega)).frozen
  rw [q2] at n1
  rw [nv_dg H2] at n2
  by_cases h : u < 9223372036854775808 ∧ v < 9223372036854775808
  · rw [decide_eq_true (show u < 2 ^ 63 ∧ v < 2 ^ 63 from h), Nat.mod_eq_of_lt (by omega : u < B), Nat.mod_eq_of_lt (by omega : v < B)] at ho
    have g1 := Nat.div_le_self u v
    have g2 := Nat.mod_le u v
    have hof := (hof_spec (u / v) (by omega)).frozen
    have hof2 := (hof_spec (u % v) (by omega)).frozen
    have h0I : ¬ (v : Int) = 0 := by omega
    have hq : (u : Int).tdiv (v : Int) = ((u / v : Nat) : Int) := rfl
    have hr : (u : Int).tmod (v : Int) = ((u % v : Nat) : Int) := rfl
    have w1 : IntKind.u64.wrap ((u / v : Nat) : Int) = ((u / v : Nat) : Int) := by
      clear hq hof n1 q2
      generalize u / v = z at *
      rw [wu (by omega)]
    have w2 : IntKind.u64.wrap ((u % v : Nat) : Int) = ((u % v : Nat) : Int) := by
      clear hr hof2 n2 hrl
      generalize u % v = z at *
      rw [wu (by omega)]
    clear d1 d2 n1 n2 hd
    refine mkQ fol J0s Tryz.func82 a82 ?_
    unfold a82
    simp only [init_eq, initE, qm, qr, qn]
    exact wdQ (ai @w2 (ai @w1 (ai @hr (ai @hq (ai @h0I @bz_F8)))))
  · rw [decide_eq_false (show ¬ (u < 2 ^ 63 ∧ v < 2 ^ 63) from h)] at ho
    refine mkQ fol J0s Tryz.func82 a82 ?_
    unfold a82
    simp only [init_eq, initE, qm, qr, qn]
    exact wdQ @bz_F8
def a81 : AC := .seq (.reg [qr 4 (.mv (.k .nl))])
 (.seq (.reg [qm 13 0,
 qm 14 1,
 qr 15 (.call 113 [(1, (.t 13)), (1, (.t 14)), (1, (.k (.i .i64 63)))]),
 qm 12 15,
 qr 16 (.ext (.t 12) 0),
 qr 17 (.ext (.t 12) 1),
 qr 18 (.ext (.t 12) 2),
 qm 5 16,
 qm 6 17,
 qm 7 18])
 (.seq (.blk 0
 (.loop
 (.seq (.seq (.reg [qm 19 7,
 qm 20 19,
 ⟨some 21, some (20, true), .mv (.t 6)⟩,
 ⟨some 22, some (20, true), .bin .gtr (.t 21) (.k (.i .u64 0))⟩,
 qr 23 (.pick (.t 20) (.t 22) (.k (.b false)))])
 (.cond (.t 23)
 (.skip)
 (.exit 0)))
 (.blk 1
 (.dreg [qm 24 6,
 qm 25 5,
 qm 26 6,
 qr 27 (.bin .rem (.t 25) (.t 26)),
 qm 5 24,
 qm 6 27])))))
 (.seq (.seq (.reg [qm 28 7])
 (.cond (.t 28)
 (.seq (.reg [qm 29 5,
 qr 30 (.call 114 [(1, (.t 29))]),
 qm 4 30])
 (.ret))
 (.skip)))
 (.seq (.reg [qm 31 0,
 qr 32 (.call 92 [(1, (.t 31))]),
 qm 33 1,
 qr 34 (.call 92 [(1, (.t 33))]),
 qm 8 32,
 qm 9 34])
 (.seq (.blk 2
 (.loop
 (.seq (.seq (.reg [qm 35 9,
 qr 36 (.len (.t 35)),
 qr 37 (.bin .gtr (.t 36) (.k (.i .i64 0)))])
 (.cond (.t 37)
 (.skip)
 (.exit 2)))
 (.blk 3
 (.seq (.reg [qm 39 8,
 qm 40 9,
 qr 41 (.call 115 [(1, (.t 39)), (1, (.t 40))]),
 qm 38 41,
 qr 42 (.ext (.t 38) 0),
 qr 43 (.ext (.t 38) 1),
 qm 10 42,
 qm 11 43])
 (.reg [qm 44 9,
 qm 45 11,
 qr 46 (.call 116 [(1, (.t 45))]),
 qm 8 44,
 qm 9 46]))))))
 (.seq (.reg [qm 47 8,
 qr 48 (.call 85 [(1, (.t 47))]),
 qm 4 48])
 (.ret)))))))
theorem hgcd_spec (a b : List Nat) (ha : Wd a) (hb : Wd b) (la : a.length ≤ 1000000000) (lb : b.length ≤ 1000000000) : AFun Tryz.prog J0 81 [.l 1 (W a), .l 1 (W b)] (.l 1 (W (dg B (Nat.gcd (nv B a) (nv B b))))) := by
  have ho := hones_spec a b 63 (by decide) ha hb (by omega) (by omega)
  have d1 := hdigits_spec a ha (by omega)
  have d2 := hdigits_spec b hb (by omega)
  obtain ⟨m, hm⟩ : ∃ m, m = 1000000000 := ⟨_, rfl⟩
  rw [← hm] at la lb
  have hu := nvlt ha la
  have hv := nvlt hb lb
  generalize nv B a = u at *
  generalize nv B b = v at *
  have hB : B = 18446744073709551616 := rfl
  by_cases h : u < 9223372036854775808 ∧ v < 9223372036854775808
  · rw [decide_eq_true (show u < 2 ^ 63 ∧ v < 2 ^ 63 from h), Nat.mod_eq_of_lt (by omega : u < B), Nat.mod_eq_of_lt (by omega : v < B)] at ho
    clear d1 d2
    refine mkQ fol J0s Tryz.func81 a81 ?_
    unfold a81
    simp only [init_eq, initE, qm, qr, qn]
    refine wkQ @bz_F8 ?_
    refine vm_loopA [] (Nat × Nat) (fun x => ⟨[(0, .l 1 (W a)), (1, .l 1 (W b)), (5, .i .u64 (x.1 : Int)), (6, .i .u64 (x.2 : Int)), (7, .b true)], [], 0⟩)
      (fun x => x.1 < 9223372036854775808 ∧ x.2 < 9223372036854775808 ∧ Nat.gcd x.1 x.2 = Nat.gcd u v) (fun x => x.2) (u, v) ⟨h.1, h.2, rfl⟩ (by exact leQ) (by
      exact ltQ) ?_
    rintro ⟨x, y⟩ ⟨hx, hy, hg⟩ Q' hQ he hr
    simp only [] at hx hy hg ⊢
    by_cases h0 : y = 0
    · subst h0
      rw [Nat.gcd_zero_right] at hg
      have hn : ¬ (0 : Int) < ((0 : Nat) : Int) := by decide
      have hof := (hof_spec x (by omega)).frozen
      rw [hg] at hof
      refine spQ (ai @hn @bz_F8) ?_
      refine he _ _ ?_
      rw [hg]
      exact wdQ @bz_F8
    · have hp : 0 < y := Nat.pos_of_ne_zero h0
      have hpI : (0 : Int) < (y : Int) := by omega
      have h0I : ¬ (y : Int) = 0 := by omega
      have hrr : (x : Int).tmod (y : Int) = ((x % y : Nat) : Int) := rfl
      have hlt := Nat.mod_lt x hp
      have w2 : IntKind.u64.wrap ((x % y : Nat) : Int) = ((x % y : Nat) : Int) := by
        clear hrr
        generalize x % y = z at *
        rw [wu (by omega)]
      refine spQ (ai @w2 (ai @hrr (ai @h0I (ai @hpI @bz_F8)))) ?_
      refine hQ _ (y, x % y) ⟨hy, by simp only; omega, ?_⟩ hlt ?_
      · simp only []
        rw [← hg, Nat.gcd_comm x y, Nat.gcd_rec y x, Nat.gcd_comm]
      · simp (disch := (first | omega | assumption)) only [Sl, Sa, Sw, ↓reduceIte, Nat.reduceEqDiff, Nat.reduceLT, List.all_nil, List.all_cons, Nat.reduceBneDiff, Nat.reduceAdd, bne_iff_ne, ne_eq, reduceCtorEq, not_false_eq_true, not_true_eq_false, Bool.and_true, Bool.true_and, and_true, true_and, and_self, i_eq]
        repeat' first | rfl | omega | (simp only [List.length_append, List.length_cons, List.length_nil]; done) | apply And.intro
  · rw [decide_eq_false (show ¬ (u < 2 ^ 63 ∧ v < 2 ^ 63) from h)] at ho
    refine mkQ fol J0s Tryz.func81 a81 ?_
    unfold a81
    simp only [init_eq, initE, qm, qr, qn]
    refine wkQ @bz_F8 ?_
    refine vm_loopA [] Unit (fun _ => ⟨[(0, .l 1 (W a)), (1, .l 1 (W b)), (7, .b false)], [], 0⟩) (fun _ => True) (fun _ => 0) () trivial (by exact leQ) (by
      simp (disch := (first | omega | assumption)) only [Sl, Sa, Sw, ↓reduceIte, Nat.reduceEqDiff, Nat.reduceLT, List.all_nil, List.all_cons, Nat.reduceBneDiff, Nat.reduceAdd, bne_iff_ne, ne_eq, reduceCtorEq, not_false_eq_true, not_true_eq_false, Bool.and_true, Bool.true_and, and_true, true_and, and_self, i_eq]
      try rfl) ?_
    rintro - - Q' hQ he hr
    refine spQ @bz_F8 ?_
    refine he _ _ ?_
    refine wkQ @bz_F8 ?_
    refine vm_loopA [] (Nat × Nat) (fun x => ⟨[(8, .l 1 (D (dg 65536 x.1))), (9, .l 1 (D (dg 65536 x.2)))], [], 0⟩)
      (fun x => x.1 < B ^ m ∧ x.2 < B ^ m ∧ Nat.gcd x.1 x.2 = Nat.gcd u v) (fun x => x.2) (u, v) ⟨hu, hv, rfl⟩ (by exact leQ) (by
      exact ltQ) ?_
    rintro ⟨x, y⟩ ⟨hx, hy, hg⟩ Q2 hQ2 he2 hr2
    simp only [] at hx hy hg ⊢
    have hxl := dgH_lt hx
    by_cases h0 : y = 0
    · subst h0
      rw [Nat.gcd_zero_right] at hg
      have hp : ¬ (0 : Int) < (((dg 65536 0).length : Nat) : Int) := by rw [dg_zero]; decide
      subst hg
      have n1 := (hnumber_spec (dg 65536 (Nat.gcd u v)) (dg_Lt (by decide) _) (by omega)).frozen
      rw [nv_dg H2] at n1
      refine spQ (ai @hp @bz_F8) ?_
      refine he2 _ _ ?_
      exact wdQ @bz_F8
    · have hp : 0 < y := Nat.pos_of_ne_zero h0
      have hp2 : (0 : Int) < (((dg 65536 y).length : Nat) : Int) := by
        have : dg 65536 y ≠ [] := fun h => h0 ((dg_nil H2).1 h)
        have := List.length_pos_iff.2 this
        omega
      have hlt := Nat.mod_lt x hp
      obtain ⟨q, q1, q2, q3, hd⟩ := hdivN x y m hx hy (by omega) h0
      have hyl : (dg 65536 (x % y)).length ≤ 4 * m := dgH_lt (Nat.lt_trans hlt hy)
      have hcu := hcut_spec (dg 65536 (x % y)) (by omega)
      rw [tz_dg'] at hcu
      refine wkQ (ai @hp2 @bz_F8) ?_
      refine hQ2 _ (y, x % y) ⟨hy, Nat.lt_trans hlt hy, ?_⟩ hlt ?_
      · simp only []
        rw [← hg, Nat.gcd_comm x y, Nat.gcd_rec y x, Nat.gcd_comm]
      · simp (disch := (first | omega | assumption)) only [Sl, Sa, Sw, ↓reduceIte, Nat.reduceEqDiff, Nat.reduceLT, List.all_nil, List.all_cons, Nat.reduceBneDiff, Nat.reduceAdd, bne_iff_ne, ne_eq, reduceCtorEq, not_false_eq_true, not_true_eq_false, Bool.and_true, Bool.true_and, and_true, true_and, and_self, i_eq]
        repeat' first | rfl | omega | (simp only [List.length_append, List.length_cons, List.length_nil]; done) | apply And.intro
end Go.Proofs.YthldhonccnajoaaGreatDoor
