/-
  gauss: a polynomial's value at a Gaussian integer.
-/
import Derived.Test.YtfkldohgiifgbaaG4
namespace Go.Proofs.Ytfkldohgiifgbaa
open Go Go.RowKit Ab
set_option linter.unusedSimpArgs false
set_option linter.unusedVariables false
set_option maxHeartbeats 10000000
theorem bz_G5 : type_of% (And.intro @W_len (And.intro @D_len (And.intro @Nat.div_one (And.intro @Nat.mul_one (And.intro @tn_nat (And.intro @W_nf (And.intro @D_nf (And.intro @W_nil (And.intro @D_nil (And.intro @wi (And.intro @nf_g (And.intro @Bool.false_and (And.intro @W_cell (And.intro @ZC_cell (@ZC_nil))))))))))))))) := And.intro @W_len (And.intro @D_len (And.intro @Nat.div_one (And.intro @Nat.mul_one (And.intro @tn_nat (And.intro @W_nf (And.intro @D_nf (And.intro @W_nil (And.intro @D_nil (And.intro @wi (And.intro @nf_g (And.intro @Bool.false_and (And.intro @W_cell (And.intro @ZC_cell (@ZC_nil))))))))))))))

def I64 (l : List Int) : List V := l.map fun n => .i .i64 n
theorem I64_len (l : List Int) : (I64 l).length = l.length := by simp [I64]
theorem I64_get (l : List Int) (i : Nat) (h : i < l.length) : (I64 l).getD i .un = .i .i64 (l.getD i 0) := by
  simp [I64, List.getD_eq_getElem?_getD, h]
theorem I64_app1 (l : List Int) (x : Int) : I64 l ++ [V.i .i64 x] = I64 (l ++ [x]) := by simp [I64]
theorem I64_nil : I64 [] = [] := rfl
theorem I64_nf (l : List Int) : anyNF (I64 l) = false := by
  induction l with
  | nil => rfl
  | cons x r ih => simpa [I64, anyNF, V.nf] using ih
theorem I64_cell (l : List Int) : (I64 l).all V.cell = true := by simp [I64, V.cell]
/-- s^i, where it is small -/
def pwr (s i : Nat) : Nat := if s ^ i < SM then s ^ i else SM
theorem take_snoc (l : List Int) (i : Nat) (h : i < l.length) : l.take (i + 1) = l.take i ++ [l.getD i 0] := by
  rw [List.take_succ_eq_append_getElem h, List.getD_eq_getElem?_getD, List.getElem?_eq_getElem h]; rfl
theorem nfl_len (cs : List Int) : (nfl cs).length = cs.length := by simp [nfl]
theorem nfl_get (cs : List Int) (i : Nat) (h : i < cs.length) : (nfl cs).getD i (false, []) = nfp (cs.getD i 0) := by
  simp [nfl, List.getD_eq_getElem?_getD, h]
theorem zsmallN {z : Int} {m : Nat} (hz : z.natAbs < B ^ m) (hm : m ≤ 1000000000) : AFun Try.prog J0 64 [zN z] (.t [.i .i64 (smV z), .i .i64 (smE z)]) := by
  have := zsmall_spec (decide (z < 0)) (dg B z.natAbs) (Wd_dg _) (Nat.le_trans (dlen hz) hm)
  rwa [zv_N] at this
/-- where the bound is passed, it is passed for all -/
theorem not_vOk {cs : List Int} {z : GZ} {i : Nat} (h : ¬ wsum (max (gsz z) 1) (cs.take i) < SM) : ¬ vOk cs z := fun h' => h (Nat.lt_of_le_of_lt (wsum_take_le _ _ _) h'.2)
theorem big_c {c s i : Nat} (hs : 1 ≤ s) (hc : SM ≤ c) : ¬ s ^ i * c < SM := fun h => by
  have := Nat.mul_le_mul_right c (Nat.pow_pos hs : 1 ≤ s ^ i)
  omega
theorem big_p {c s i : Nat} (hc : c ≠ 0) (hs : ¬ s ^ i < SM) : ¬ s ^ i * c < SM := fun h => by
  have := Nat.mul_le_mul_left (s ^ i) (Nat.pos_of_ne_zero hc)
  omega
theorem fits_c {c : Int} {s i : Nat} (hs : 1 ≤ s) : (gabs c * s ^ i < SM) ↔ (s ^ i * c.natAbs < SM) := by
  rcases Nat.lt_or_ge c.natAbs SM with h | h
  · rw [gabs_lt h, Nat.mul_comm]
  · rw [gabs_ge (by omega)]
    exact ⟨fun h1 => absurd (by rw [Nat.mul_comm]; exact h1) (big_c (c := SM) hs (Nat.le_refl _)), fun h1 => absurd h1 (big_c hs h)⟩
theorem sm_fits {c : Int} (h : Pi c) : smV c = c ∧ smE c = 0 := ⟨if_pos ⟨h.1, by have := h.2; omega⟩, if_pos ⟨h.1, by have := h.2; omega⟩⟩
theorem sm_nofit {c : Int} (h : ¬ Pi c) : smE c = 13 := if_neg fun h' => h ⟨h'.1, by have := h'.2; omega⟩

-- surd/gauss.Value
def a14 : AC := .seq (.reg [⟨some 3, none, .bx 31 (.t 1)⟩, 
      ⟨some 4, none, .al 31 [(.i .i64 0), (.i .i64 0)]⟩, 
      ⟨some 5, none, .mv (.k (.i .i64 0))⟩])
  (.seq (.reg [⟨some 20, none, .ld true 2 (.t 3)⟩, 
      ⟨some 21, none, .call 35 [(1, (.t 20))]⟩, 
      ⟨some 19, none, .mv (.t 21)⟩, 
      ⟨some 22, none, .ext (.t 19) 0⟩, 
      ⟨some 23, none, .ext (.t 19) 1⟩, 
      ⟨some 6, none, .mv (.t 22)⟩, 
      ⟨some 7, none, .mv (.t 23)⟩])
  (.seq (.seq (.reg [⟨some 24, none, .mv (.t 7)⟩, 
        ⟨some 25, none, .bin .neq (.t 24) (.k (.i .i64 0))⟩])
    (.cond (.t 25)
    (.seq (.reg [⟨some 26, none, .bld [(.i .i64 0), (.i .i64 0)] []⟩, 
          ⟨some 27, none, .mv (.t 7)⟩, 
          ⟨none, none, .st 2 (.t 4) (.t 26)⟩, 
          ⟨some 5, none, .mv (.t 27)⟩])
      (.ret))
    (.skip)))
  (.seq (.reg [⟨some 28, none, .mv (.t 6)⟩, 
      ⟨some 29, none, .mm true (.t 28) (.k (.i .i64 1))⟩, 
      ⟨some 6, none, .mv (.t 29)⟩])
  (.seq (.reg [⟨some 30, none, .mv (.t 0)⟩, 
      ⟨some 31, none, .call 63 [(2, (.t 30))]⟩, 
      ⟨some 0, none, .mv (.t 31)⟩])
  (.seq (.reg [⟨some 8, none, .mv (.k (.i .i64 0))⟩, 
      ⟨some 9, none, .mv (.k (.i .i64 1))⟩])
  (.seq (.reg [⟨some 10, none, .mv (.k .nl)⟩])
  (.seq (.seq (.reg [⟨some 32, none, .mv (.t 0)⟩, 
        ⟨some 33, none, .len (.t 32)⟩, 
        ⟨some 34, none, .mv (.k (.i .i64 0))⟩])
    (.blk 0
    (.loop
      (.seq (.reg [⟨some 35, none, .bin .lss (.t 34) (.t 33)⟩])
        (.seq (.cond (.t 35)
          (.skip)
          (.exit 0))
        (.seq (.blk 1
          (.seq (.reg [⟨some 36, none, .idx 2 (.t 32) (.t 34)⟩, 
                ⟨some 37, none, .ld true 2 (.t 36)⟩, 
                ⟨some 12, none, .al 83 [(.b false), (.l 1 [])]⟩, 
                ⟨none, none, .st 2 (.t 12) (.t 37)⟩])
            (.seq (.reg [⟨some 39, none, .ld true 2 (.t 12)⟩, 
                ⟨some 40, none, .call 64 [(1, (.t 39))]⟩, 
                ⟨some 38, none, .mv (.t 40)⟩, 
                ⟨some 41, none, .ext (.t 38) 0⟩, 
                ⟨some 42, none, .ext (.t 38) 1⟩, 
                ⟨some 13, none, .mv (.t 41)⟩, 
                ⟨some 14, none, .mv (.t 42)⟩])
            (.seq (.seq (.reg [⟨some 43, none, .mv (.t 14)⟩, 
                  ⟨some 44, none, .bin .neq (.t 43) (.k (.i .i64 0))⟩])
              (.cond (.t 44)
              (.seq (.reg [⟨some 45, none, .bld [(.i .i64 0), (.i .i64 0)] []⟩, 
                    ⟨none, none, .st 2 (.t 4) (.t 45)⟩, 
                    ⟨some 5, none, .mv (.k (.i .i64 13))⟩])
                (.ret))
              (.skip)))
            (.seq (.reg [⟨some 46, none, .mv (.t 13)⟩, 
                ⟨some 47, none, .call 65 [(1, (.t 46))]⟩, 
                ⟨some 15, none, .mv (.t 47)⟩])
            (.seq (.seq (.reg [⟨some 48, none, .mv (.t 15)⟩, 
                  ⟨some 49, none, .bin .neq (.t 48) (.k (.i .i64 0))⟩])
              (.cond (.t 49)
              (.seq (.seq (.reg [⟨some 50, none, .mv (.t 9)⟩, 
                      ⟨some 51, none, .bin .eql (.t 50) (.k (.i .i64 1125899906842624))⟩, 
                      ⟨some 52, none, .mv (.t 51)⟩, 
                      ⟨some 53, some (52, false), .mv (.t 15)⟩, 
                      ⟨some 54, some (52, false), .mv (.t 9)⟩, 
                      ⟨some 55, some (52, false), .call 66 [(1, (.t 53)), (1, (.t 54))]⟩, 
                      ⟨some 56, some (52, false), .un .not (.t 55)⟩, 
                      ⟨some 57, none, .pick (.t 52) (.k (.b true)) (.t 56)⟩])
                  (.cond (.t 57)
                  (.seq (.reg [⟨some 58, none, .bld [(.i .i64 0), (.i .i64 0)] []⟩, 
                        ⟨none, none, .st 2 (.t 4) (.t 58)⟩, 
                        ⟨some 5, none, .mv (.k (.i .i64 13))⟩])
                    (.ret))
                  (.skip)))
                (.seq (.reg [⟨some 59, none, .mv (.t 8)⟩, 
                    ⟨some 60, none, .mv (.t 15)⟩, 
                    ⟨some 61, none, .mv (.t 9)⟩, 
                    ⟨some 62, none, .bin .mul (.t 60) (.t 61)⟩, 
                    ⟨some 63, none, .bin .add (.t 59) (.t 62)⟩, 
                    ⟨some 8, none, .mv (.t 63)⟩])
                (.seq (.reg [⟨some 64, none, .mv (.t 8)⟩, 
                    ⟨some 65, none, .bin .geq (.t 64) (.k (.i .i64 1125899906842624))⟩])
                (.cond (.t 65)
                (.seq (.reg [⟨some 66, none, .bld [(.i .i64 0), (.i .i64 0)] []⟩, 
                      ⟨none, none, .st 2 (.t 4) (.t 66)⟩, 
                      ⟨some 5, none, .mv (.k (.i .i64 13))⟩])
                  (.ret))
                (.skip)))))
              (.skip)))
            (.seq (.reg [⟨some 67, none, .mv (.t 10)⟩, 
                ⟨some 68, none, .mv (.t 13)⟩, 
                ⟨some 69, none, .bsl 3 1 1 [(.i .i64 0)] [(0, (.t 68))]⟩, 
                ⟨some 70, none, .app 3 1 8 (.t 67) (.t 69)⟩, 
                ⟨some 10, none, .mv (.t 70)⟩])
            (.seq (.reg [⟨some 71, none, .mv (.t 9)⟩, 
                ⟨some 72, none, .bin .neq (.t 71) (.k (.i .i64 1125899906842624))⟩])
            (.cond (.t 72)
            (.seq (.reg [⟨some 73, none, .mv (.t 9)⟩, 
                  ⟨some 74, none, .mv (.t 6)⟩, 
                  ⟨some 75, none, .call 66 [(1, (.t 73)), (1, (.t 74))]⟩])
              (.cond (.t 75)
              (.reg [⟨some 76, none, .mv (.t 9)⟩, 
                  ⟨some 77, none, .mv (.t 6)⟩, 
                  ⟨some 78, none, .bin .mul (.t 76) (.t 77)⟩, 
                  ⟨some 9, none, .mv (.t 78)⟩])
              (.reg [⟨some 9, none, .mv (.k (.i .i64 1125899906842624))⟩])))
            (.skip))))))))))
        (.reg [⟨some 79, none, .bin .add (.t 34) (.k (.i .i64 1))⟩, 
          ⟨some 34, none, .mv (.t 79)⟩])))))))
  (.seq (.reg [⟨some 80, none, .ld true 2 (.t 3)⟩, 
      ⟨some 81, none, .call 67 [(1, (.t 80))]⟩, 
      ⟨some 16, none, .mv (.k (.z 0 0))⟩, 
      ⟨some 17, none, .mv (.t 81)⟩])
  (.seq (.seq (.reg [⟨some 82, none, .mv (.t 10)⟩, 
        ⟨some 83, none, .len (.t 82)⟩, 
        ⟨some 84, none, .bin .sub (.t 83) (.k (.i .i64 1))⟩, 
        ⟨some 18, none, .mv (.t 84)⟩])
    (.blk 2
    (.loop
      (.seq (.seq (.reg [⟨some 85, none, .mv (.t 18)⟩, 
              ⟨some 86, none, .bin .geq (.t 85) (.k (.i .i64 0))⟩])
          (.cond (.t 86)
          (.skip)
          (.exit 2)))
        (.seq (.blk 3
          (.reg [⟨some 89, none, .mv (.t 16)⟩, 
              ⟨some 90, none, .mv (.t 17)⟩, 
              ⟨some 91, none, .pur (.nm .zmul) [(.t 89), (.t 90)]⟩, 
              ⟨some 92, none, .mv (.t 10)⟩, 
              ⟨some 93, none, .mv (.t 18)⟩, 
              ⟨some 94, none, .idx 1 (.t 92) (.t 93)⟩, 
              ⟨some 95, none, .ld false 1 (.t 94)⟩, 
              ⟨some 96, none, .pur (.nm .i2f) [(.t 95)]⟩, 
              ⟨some 97, none, .pur (.nm .mkz) [(.t 96), (.k (.f 0))]⟩, 
              ⟨some 98, none, .pur (.nm .zadd) [(.t 91), (.t 97)]⟩, 
              ⟨some 16, none, .mv (.t 98)⟩]))
        (.reg [⟨some 87, none, .mv (.t 18)⟩, 
          ⟨some 88, none, .bin .sub (.t 87) (.k (.i .i64 1))⟩, 
          ⟨some 18, none, .mv (.t 88)⟩]))))))
  (.seq (.reg [⟨some 99, none, .mv (.t 16)⟩, 
      ⟨some 100, none, .call 68 [(1, (.t 99))]⟩, 
      ⟨none, none, .st 2 (.t 4) (.t 100)⟩, 
      ⟨some 5, none, .mv (.k (.i .i64 0))⟩])
  (.ret)))))))))))
theorem gvalS (l : List (Bool × List Nat)) (m : Nat) (hm : m ≤ 100000000) (hl : ZOk l m) (z : GZ) : AFun Try.prog J0 14 [.l 2 (ZC l), nV z] (.t [nV (vF (zcs l) z), .i .i64 (vE (zcs l) z)]) := by
  have hnorm := (zpnorm_spec l m hm hl).frozen
  rw [← vF_tzi, ← vE_tzi]
  have hcm : ∀ c, c ∈ tzi (zcs l) → c.natAbs < B ^ m := fun c hc => by
    have : c ∈ zcs l := by rw [← tzi_take] at hc; exact List.mem_of_mem_take hc
    obtain ⟨p, hp, rfl⟩ := List.mem_map.1 this
    obtain ⟨wa, la⟩ := hl.2 p hp
    exact zv_lt wa la
  have hcl : (tzi (zcs l)).length ≤ m := Nat.le_trans (tzi_len _) (by rw [zcs_len]; exact hl.1)
  generalize tzi (zcs l) = cs at *
  obtain ⟨r1, hr1⟩ : ∃ r, r = (vF cs z).1 := ⟨_, rfl⟩
  obtain ⟨r2, hr2⟩ : ∃ r, r = (vF cs z).2 := ⟨_, rfl⟩
  obtain ⟨e, he0⟩ : ∃ e, e = vE cs z := ⟨_, rfl⟩
  simp only [nV]
  rw [← hr1, ← hr2, ← he0]
  have fails : ¬ vOk cs z → r1 = 0 ∧ r2 = 0 ∧ e = 13 := fun h => by
    rw [hr1, hr2, he0, show vF cs z = (0, 0) from if_neg h, show vE cs z = 13 from if_neg h]; exact ⟨rfl, rfl, rfl⟩
  by_cases h1 : gsz z < SM
  · have p1 := gsize_ok h1
    have hin := inside_spec z h1
    obtain ⟨S, hS⟩ : ∃ S, S = max (gsz z) 1 := ⟨_, rfl⟩
    have hS1 : 1 ≤ S := by omega
    have hS2 : S < SM := by simp only [SM] at *; omega
    have hzS : gsz z ≤ S := by omega
    have hmx : max ((gsz z : Nat) : Int) 1 = (S : Int) := by omega
    have nok : ∀ i, ¬ wsum S (cs.take i) < SM → r1 = 0 ∧ r2 = 0 ∧ e = 13 := fun i h => fails (not_vOk (by rw [← hS]; exact h))
    simp only [nV] at p1 hin
    obtain ⟨n, hn⟩ : ∃ n, n = cs.length := ⟨_, rfl⟩
    have hql : (ZC (nfl cs)).length / 2 = n := by rw [ZC_len, nfl_len]; omega
    have hqz : (ZC (nfl cs)).length = n * 2 := by rw [ZC_len, nfl_len]; omega
    refine AFun.mkc fol J0s Try.func14 rfl (ac := a14) (by kernel_rfl) (rs := [.c 4 true 2, .t 5]) (by kernel_rfl) rfl ?_
    apply vm_start
    unfold a14
    simp only [init_eq, initE]
    have zc1 := p1
    have zc2 := hnorm
    repeat first | (refine hK _ ?_; clear hK K) | simp only [Sv, ↓reduceIte, Nat.reduceEqDiff] | ((first | refine vm_reg (fun K hK => ?_) | refine vm_dreg (fun K hK => ?_) | refine clp_q ?_ | refine clq_mk (by assumption) ?_); simp (disch := (first | omega | assumption)) only [S1, ↓reduceIte, Nat.reduceEqDiff, Nat.reduceAdd, Nat.reduceMul, Nat.reduceDiv, AOp.sb, AOp.mut, ↓Bool.false_eq_true, beq_self_eq_true, ite_self, Nat.reduceLeDiff, Int.reduceEq, Int.reduceSub, Int.reduceAdd, Int.reduceNeg, Int.reduceLT, Int.reduceLE, Nat.reduceLT, bz_G5, hmx, hql])
    refine vm_loopA [(10, 3, 1)] Nat (fun i => ⟨[(3, .pt 0 0), (4, .pt 1 0), (6, .i .i64 (S : Int)), (8, .i .i64 ((wsum S (cs.take i) : Nat) : Int)), (9, .i .i64 ((pwr S i : Nat) : Int)), (10, .ow 1 2 i), (32, .l 2 (ZC (nfl cs))), (33, .i .i64 (n : Int)), (34, .i .i64 (i : Int))],
        [(0, some ⟨31, 2, [.i .i64 z.1, .i .i64 z.2], true, true⟩), (1, some ⟨31, 2, [.i .i64 0, .i .i64 0], true, true⟩), (2, some ⟨3, 1, I64 (cs.take i), true, false⟩)], 3⟩)
      (fun i => i ≤ n ∧ wsum S (cs.take i) < SM) (fun i => n - i) 0 ⟨Nat.zero_le _, by rw [List.take_zero]; exact (by decide : 0 < SM)⟩ (by simp (disch := (first | omega | assumption)) only [Sl, Sa, Sw, ↓reduceIte, Nat.reduceEqDiff, Nat.reduceLT, List.all_nil, List.all_cons, Nat.reduceBneDiff, Nat.reduceAdd, bne_iff_ne, ne_eq, reduceCtorEq, not_false_eq_true, not_true_eq_false, Bool.and_true, Bool.true_and, and_true, true_and, and_self]) (by
      simp (disch := (first | omega | assumption)) only [Sl, Sa, Sw, ↓reduceIte, Nat.reduceEqDiff, Nat.reduceLT, List.all_nil, List.all_cons, Nat.reduceBneDiff, Nat.reduceAdd, bne_iff_ne, ne_eq, reduceCtorEq, not_false_eq_true, not_true_eq_false, Bool.and_true, Bool.true_and, and_true, true_and, and_self, i_eq]
      rw [List.take_zero, show pwr S 0 = 1 from by unfold pwr; rw [Nat.pow_zero]; rfl]
      repeat' first | rfl | omega | (simp only [List.length_append, List.length_cons, List.length_nil]; done) | apply And.intro) ?_
    rintro i ⟨hi, hw⟩ Q' hQ he hr
    by_cases hin1 : (i : Int) < (n : Int)
    · have hic : i < cs.length := by omega
      obtain ⟨row1, row2⟩ := ZC_row (nfl cs) i (by rw [nfl_len]; exact hic)
      rw [nfl_get cs i hic] at row1
      simp only [nfp] at row1
      have hcB : (cs.getD i 0).natAbs < B ^ m := hcm _ (by rw [List.getD_eq_getElem?_getD, List.getElem?_eq_getElem hic]; exact List.getElem_mem hic)
      have hws := wsum_take_succ S cs i hic
      have hsnoc := take_snoc cs i hic
      generalize cs.getD i 0 = c at *
      have hsm := zsmallN hcB (by omega)
      have hab := gabs_spec c
      have nok1 := nok (i + 1)
      rw [hws] at nok1
      by_cases hP : Pi c
      · rw [(sm_fits hP).1, (sm_fits hP).2] at hsm
        have hap := I64_app1 (cs.take i) c
        rw [← hsnoc] at hap
        have il1 : (I64 (cs.take (i + 1))).length = i + 1 := by rw [I64_len, List.length_take, ← hn]; omega
        have il0 : (I64 (cs.take i)).length = i := by rw [I64_len, List.length_take, ← hn]; omega
        by_cases hc0 : c = 0
        · subst hc0
          have hab0 : ((gabs 0 : Nat) : Int) = 0 := rfl
          rw [hab0] at hab
          have hws0 : wsum S (cs.take (i + 1)) = wsum S (cs.take i) := by rw [hws]; simp
          by_cases hp1 : S ^ i < SM
          · have hpw : pwr S i = S ^ i := if_pos hp1
            have pf := gfits_spec (S ^ i) S (Nat.le_of_lt hS2)
            rw [← Nat.pow_succ] at pf
            simp only [SM] at hp1
            have hne : ¬ ((S ^ i : Nat) : Int) = 1125899906842624 := by omega
            rw [hpw]
            by_cases hp2 : S ^ (i + 1) < SM
            · have hpw1 : pwr S (i + 1) = S ^ (i + 1) := if_pos hp2
              rw [decide_eq_true hp2] at pf
              have wm : IntKind.i64.wrap (((S ^ i : Nat) : Int) * (S : Int)) = ((S ^ (i + 1) : Nat) : Int) := by
                have e2 : ((S ^ i : Nat) : Int) * (S : Int) = ((S ^ (i + 1) : Nat) : Int) := by rw [Nat.pow_succ, Int.natCast_mul]
                rw [e2]; refine wi ?_
                simp only [SM] at hp2; omega
              have zc3 := hsm
              have zc4 := hab
              have zc5 := pf
              repeat first | (refine hK _ ?_; clear hK K) | simp only [Sv, ↓reduceIte, Nat.reduceEqDiff] | ((first | refine vm_reg (fun K hK => ?_) | refine vm_dreg (fun K hK => ?_) | refine clp_q ?_ | refine clq_mk (by assumption) ?_); simp (disch := (first | omega | assumption)) only [S1, ↓reduceIte, Nat.reduceEqDiff, Nat.reduceAdd, Nat.reduceMul, Nat.reduceDiv, AOp.sb, AOp.mut, ↓Bool.false_eq_true, beq_self_eq_true, ite_self, Nat.reduceLeDiff, Int.reduceEq, Int.reduceSub, Int.reduceAdd, Int.reduceNeg, Int.reduceLT, Int.reduceLE, Nat.reduceLT, bz_G5, hin1, hqz, row1, hne, hap, wm])
              refine hQ _ (i + 1) ⟨by omega, by rw [hws0]; exact hw⟩ (by omega) ?_
              rw [hpw1]
              simp (disch := (first | omega | assumption)) only [Sl, Sa, Sw, ↓reduceIte, Nat.reduceEqDiff, Nat.reduceLT, List.all_nil, List.all_cons, Nat.reduceBneDiff, Nat.reduceAdd, bne_iff_ne, ne_eq, reduceCtorEq, not_false_eq_true, not_true_eq_false, Bool.and_true, Bool.true_and, and_true, true_and, and_self, i_eq]
              try rw [hws0]
              repeat' first | rfl | omega | (simp only [List.length_append, List.length_cons, List.length_nil]; done) | apply And.intro
            · have hpw1 : pwr S (i + 1) = SM := if_neg hp2
              rw [decide_eq_false hp2] at pf
              have zc6 := hsm
              have zc7 := hab
              have zc8 := pf
              repeat first | (refine hK _ ?_; clear hK K) | simp only [Sv, ↓reduceIte, Nat.reduceEqDiff] | ((first | refine vm_reg (fun K hK => ?_) | refine vm_dreg (fun K hK => ?_) | refine clp_q ?_ | refine clq_mk (by assumption) ?_); simp (disch := (first | omega | assumption)) only [S1, ↓reduceIte, Nat.reduceEqDiff, Nat.reduceAdd, Nat.reduceMul, Nat.reduceDiv, AOp.sb, AOp.mut, ↓Bool.false_eq_true, beq_self_eq_true, ite_self, Nat.reduceLeDiff, Int.reduceEq, Int.reduceSub, Int.reduceAdd, Int.reduceNeg, Int.reduceLT, Int.reduceLE, Nat.reduceLT, bz_G5, hin1, hqz, row1, hne, hap])
              refine hQ _ (i + 1) ⟨by omega, by rw [hws0]; exact hw⟩ (by omega) ?_
              rw [hpw1]
              simp (disch := (first | omega | assumption)) only [Sl, Sa, Sw, ↓reduceIte, Nat.reduceEqDiff, Nat.reduceLT, List.all_nil, List.all_cons, Nat.reduceBneDiff, Nat.reduceAdd, bne_iff_ne, ne_eq, reduceCtorEq, not_false_eq_true, not_true_eq_false, Bool.and_true, Bool.true_and, and_true, true_and, and_self, i_eq]
              try rw [hws0]
              repeat' first | rfl | omega | (simp only [List.length_append, List.length_cons, List.length_nil]; done) | apply And.intro
          · have hpw : pwr S i = SM := if_neg hp1
            have hpw1 : pwr S (i + 1) = SM := if_neg fun h => hp1 (pow_small hS1 (Nat.le_succ i) h)
            rw [hpw]
            have zc9 := hsm
            have zc10 := hab
            repeat first | (refine hK _ ?_; clear hK K) | simp only [Sv, ↓reduceIte, Nat.reduceEqDiff] | ((first | refine vm_reg (fun K hK => ?_) | refine vm_dreg (fun K hK => ?_) | refine clp_q ?_ | refine clq_mk (by assumption) ?_); simp (disch := (first | omega | assumption)) only [S1, ↓reduceIte, Nat.reduceEqDiff, Nat.reduceAdd, Nat.reduceMul, Nat.reduceDiv, AOp.sb, AOp.mut, ↓Bool.false_eq_true, beq_self_eq_true, ite_self, Nat.reduceLeDiff, Int.reduceEq, Int.reduceSub, Int.reduceAdd, Int.reduceNeg, Int.reduceLT, Int.reduceLE, Nat.reduceLT, bz_G5, hin1, hqz, row1, hap])
            refine hQ _ (i + 1) ⟨by omega, by rw [hws0]; exact hw⟩ (by omega) ?_
            rw [hpw1]
            simp (disch := (first | omega | assumption)) only [Sl, Sa, Sw, ↓reduceIte, Nat.reduceEqDiff, Nat.reduceLT, List.all_nil, List.all_cons, Nat.reduceBneDiff, Nat.reduceAdd, bne_iff_ne, ne_eq, reduceCtorEq, not_false_eq_true, not_true_eq_false, Bool.and_true, Bool.true_and, and_true, true_and, and_self, i_eq]
            rw [hws0]
            repeat' first | rfl | omega | (simp only [List.length_append, List.length_cons, List.length_nil]; done) | apply And.intro
        · have hg0 : ¬ ((gabs c : Nat) : Int) = 0 := by unfold gabs; simp only [SM]; omega
          by_cases hp0 : S ^ i < SM
          · have pf1 := gfits_spec (gabs c) (S ^ i) (Nat.le_of_lt hp0)
            have hfc := fits_c (c := c) (s := S) (i := i) hS1
            have hpw0 : pwr S i = S ^ i := if_pos hp0
            have hne0 : ¬ ((S ^ i : Nat) : Int) = 1125899906842624 := by simp only [SM] at hp0; omega
            by_cases hf : gabs c * S ^ i < SM
            · rw [decide_eq_true hf] at pf1
              have hf2 := hfc.1 hf
              have hgc : gabs c = c.natAbs := by
                have h3 : gabs c < SM := by
                  have := Nat.mul_le_mul_left (gabs c) (Nat.pow_pos hS1 : 1 ≤ S ^ i)
                  omega
                unfold gabs at h3 ⊢; simp only [SM] at h3 ⊢; omega
              rw [hgc] at pf1 hab hg0
              obtain ⟨t, ht⟩ : ∃ t, t = S ^ i * c.natAbs := ⟨_, rfl⟩
              rw [← ht] at hf2 hws nok1
              have hmul : ((c.natAbs : Nat) : Int) * ((S ^ i : Nat) : Int) = (t : Int) := by rw [ht, Nat.mul_comm, Int.natCast_mul]
              have hadd : ((wsum S (cs.take i) : Nat) : Int) + (t : Int) = ((wsum S (cs.take (i + 1)) : Nat) : Int) := by rw [hws]; rfl
              have hwt : IntKind.i64.wrap (t : Int) = (t : Int) := by simp only [SM] at hf2; exact wi (by omega)
              have hwa : IntKind.i64.wrap ((wsum S (cs.take (i + 1)) : Nat) : Int) = ((wsum S (cs.take (i + 1)) : Nat) : Int) := by simp only [SM] at hf2 hw; exact wi (by omega)
              rw [← hws] at nok1
              by_cases hw2 : wsum S (cs.take (i + 1)) < SM
              · have hge : ¬ (1125899906842624 : Int) ≤ ((wsum S (cs.take (i + 1)) : Nat) : Int) := by simp only [SM] at hw2; omega
                by_cases hp1 : S ^ i < SM
                · have hpw : pwr S i = S ^ i := if_pos hp1
                  have pf := gfits_spec (S ^ i) S (Nat.le_of_lt hS2)
                  rw [← Nat.pow_succ] at pf
                  simp only [SM] at hp1
                  have hne : ¬ ((S ^ i : Nat) : Int) = 1125899906842624 := by omega
                  rw [hpw]
                  by_cases hp2 : S ^ (i + 1) < SM
                  · have hpw1 : pwr S (i + 1) = S ^ (i + 1) := if_pos hp2
                    rw [decide_eq_true hp2] at pf
                    have wm : IntKind.i64.wrap (((S ^ i : Nat) : Int) * (S : Int)) = ((S ^ (i + 1) : Nat) : Int) := by
                      have e2 : ((S ^ i : Nat) : Int) * (S : Int) = ((S ^ (i + 1) : Nat) : Int) := by rw [Nat.pow_succ, Int.natCast_mul]
                      rw [e2]; refine wi ?_
                      simp only [SM] at hp2; omega
                    have zc11 := hsm
                    have zc12 := hab
                    have zc13 := pf1
                    have zc14 := pf
                    repeat first | (refine hK _ ?_; clear hK K) | simp only [Sv, ↓reduceIte, Nat.reduceEqDiff] | ((first | refine vm_reg (fun K hK => ?_) | refine vm_dreg (fun K hK => ?_) | refine clp_q ?_ | refine clq_mk (by assumption) ?_); simp (disch := (first | omega | assumption)) only [S1, ↓reduceIte, Nat.reduceEqDiff, Nat.reduceAdd, Nat.reduceMul, Nat.reduceDiv, AOp.sb, AOp.mut, ↓Bool.false_eq_true, beq_self_eq_true, ite_self, Nat.reduceLeDiff, Int.reduceEq, Int.reduceSub, Int.reduceAdd, Int.reduceNeg, Int.reduceLT, Int.reduceLE, Nat.reduceLT, bz_G5, hin1, hqz, row1, hg0, hne0, hmul, hwt, hadd, hwa, hge, hne, hap, wm])
                    refine hQ _ (i + 1) ⟨by omega, hw2⟩ (by omega) ?_
                    rw [hpw1]
                    simp (disch := (first | omega | assumption)) only [Sl, Sa, Sw, ↓reduceIte, Nat.reduceEqDiff, Nat.reduceLT, List.all_nil, List.all_cons, Nat.reduceBneDiff, Nat.reduceAdd, bne_iff_ne, ne_eq, reduceCtorEq, not_false_eq_true, not_true_eq_false, Bool.and_true, Bool.true_and, and_true, true_and, and_self, i_eq]
                    try rw [← hws]
                    repeat' first | rfl | omega | (simp only [List.length_append, List.length_cons, List.length_nil]; done) | apply And.intro
                  · have hpw1 : pwr S (i + 1) = SM := if_neg hp2
                    rw [decide_eq_false hp2] at pf
                    have zc15 := hsm
                    have zc16 := hab
                    have zc17 := pf1
                    have zc18 := pf
                    repeat first | (refine hK _ ?_; clear hK K) | simp only [Sv, ↓reduceIte, Nat.reduceEqDiff] | ((first | refine vm_reg (fun K hK => ?_) | refine vm_dreg (fun K hK => ?_) | refine clp_q ?_ | refine clq_mk (by assumption) ?_); simp (disch := (first | omega | assumption)) only [S1, ↓reduceIte, Nat.reduceEqDiff, Nat.reduceAdd, Nat.reduceMul, Nat.reduceDiv, AOp.sb, AOp.mut, ↓Bool.false_eq_true, beq_self_eq_true, ite_self, Nat.reduceLeDiff, Int.reduceEq, Int.reduceSub, Int.reduceAdd, Int.reduceNeg, Int.reduceLT, Int.reduceLE, Nat.reduceLT, bz_G5, hin1, hqz, row1, hg0, hne0, hmul, hwt, hadd, hwa, hge, hne, hap])
                    refine hQ _ (i + 1) ⟨by omega, hw2⟩ (by omega) ?_
                    rw [hpw1]
                    simp (disch := (first | omega | assumption)) only [Sl, Sa, Sw, ↓reduceIte, Nat.reduceEqDiff, Nat.reduceLT, List.all_nil, List.all_cons, Nat.reduceBneDiff, Nat.reduceAdd, bne_iff_ne, ne_eq, reduceCtorEq, not_false_eq_true, not_true_eq_false, Bool.and_true, Bool.true_and, and_true, true_and, and_self, i_eq]
                    try rw [← hws]
                    repeat' first | rfl | omega | (simp only [List.length_append, List.length_cons, List.length_nil]; done) | apply And.intro
                · exact absurd hp0 hp1
              · obtain ⟨rfl, rfl, rfl⟩ := nok1 hw2
                have hge : (1125899906842624 : Int) ≤ ((wsum S (cs.take (i + 1)) : Nat) : Int) := by simp only [SM] at hw2; omega
                rw [hpw0]
                have zc19 := hsm
                have zc20 := hab
                have zc21 := pf1
                repeat first | (refine hK _ ?_; clear hK K) | simp only [Sv, ↓reduceIte, Nat.reduceEqDiff] | ((first | refine vm_reg (fun K hK => ?_) | refine vm_dreg (fun K hK => ?_) | refine clp_q ?_ | refine clq_mk (by assumption) ?_); simp (disch := (first | omega | assumption)) only [S1, ↓reduceIte, Nat.reduceEqDiff, Nat.reduceAdd, Nat.reduceMul, Nat.reduceDiv, AOp.sb, AOp.mut, ↓Bool.false_eq_true, beq_self_eq_true, ite_self, Nat.reduceLeDiff, Int.reduceEq, Int.reduceSub, Int.reduceAdd, Int.reduceNeg, Int.reduceLT, Int.reduceLE, Nat.reduceLT, bz_G5, hin1, hqz, row1, hg0, hne0, hmul, hwt, hadd, hwa, hge])
                refine hr _ ?_
                simp (disch := (first | omega | assumption)) only [retC, rsVs_nil, rsVs_cons, rsV_t, rsV_c, rsp_pt, rsq_t, rsq_f, ocons_ss, retV_1, retV_2, retNV_nil, retNV_cons, retOk, retN, ret1, retF, ret1F, V.okArg, and_true, true_and, S1, ↓reduceIte, Nat.reduceEqDiff, Nat.reduceAdd, Nat.reduceMul, Nat.reduceDiv, AOp.sb, AOp.mut, ↓Bool.false_eq_true, beq_self_eq_true, ite_self, Nat.reduceLeDiff, Int.reduceEq, Int.reduceSub, Int.reduceAdd, Int.reduceNeg, Int.reduceLT, Int.reduceLE, Nat.reduceLT, bz_G5]
            · obtain ⟨rfl, rfl, rfl⟩ := nok1 (by have := mt hfc.2 hf; omega)
              rw [decide_eq_false hf] at pf1
              rw [hpw0]
              have zc22 := hsm
              have zc23 := hab
              have zc24 := pf1
              repeat first | (refine hK _ ?_; clear hK K) | simp only [Sv, ↓reduceIte, Nat.reduceEqDiff] | ((first | refine vm_reg (fun K hK => ?_) | refine vm_dreg (fun K hK => ?_) | refine clp_q ?_ | refine clq_mk (by assumption) ?_); simp (disch := (first | omega | assumption)) only [S1, ↓reduceIte, Nat.reduceEqDiff, Nat.reduceAdd, Nat.reduceMul, Nat.reduceDiv, AOp.sb, AOp.mut, ↓Bool.false_eq_true, beq_self_eq_true, ite_self, Nat.reduceLeDiff, Int.reduceEq, Int.reduceSub, Int.reduceAdd, Int.reduceNeg, Int.reduceLT, Int.reduceLE, Nat.reduceLT, bz_G5, hin1, hqz, row1, hg0, hne0])
              refine hr _ ?_
              simp (disch := (first | omega | assumption)) only [retC, rsVs_nil, rsVs_cons, rsV_t, rsV_c, rsp_pt, rsq_t, rsq_f, ocons_ss, retV_1, retV_2, retNV_nil, retNV_cons, retOk, retN, ret1, retF, ret1F, V.okArg, and_true, true_and, S1, ↓reduceIte, Nat.reduceEqDiff, Nat.reduceAdd, Nat.reduceMul, Nat.reduceDiv, AOp.sb, AOp.mut, ↓Bool.false_eq_true, beq_self_eq_true, ite_self, Nat.reduceLeDiff, Int.reduceEq, Int.reduceSub, Int.reduceAdd, Int.reduceNeg, Int.reduceLT, Int.reduceLE, Nat.reduceLT, bz_G5]
          · obtain ⟨rfl, rfl, rfl⟩ := nok1 (by have := big_p (c := c.natAbs) (by omega) hp0; omega)
            have hpw : pwr S i = SM := if_neg hp0
            rw [hpw]
            have zc25 := hsm
            have zc26 := hab
            repeat first | (refine hK _ ?_; clear hK K) | simp only [Sv, ↓reduceIte, Nat.reduceEqDiff] | ((first | refine vm_reg (fun K hK => ?_) | refine vm_dreg (fun K hK => ?_) | refine clp_q ?_ | refine clq_mk (by assumption) ?_); simp (disch := (first | omega | assumption)) only [S1, ↓reduceIte, Nat.reduceEqDiff, Nat.reduceAdd, Nat.reduceMul, Nat.reduceDiv, AOp.sb, AOp.mut, ↓Bool.false_eq_true, beq_self_eq_true, ite_self, Nat.reduceLeDiff, Int.reduceEq, Int.reduceSub, Int.reduceAdd, Int.reduceNeg, Int.reduceLT, Int.reduceLE, Nat.reduceLT, bz_G5, hin1, hqz, row1, hg0])
            refine hr _ ?_
            simp (disch := (first | omega | assumption)) only [retC, rsVs_nil, rsVs_cons, rsV_t, rsV_c, rsp_pt, rsq_t, rsq_f, ocons_ss, retV_1, retV_2, retNV_nil, retNV_cons, retOk, retN, ret1, retF, ret1F, V.okArg, and_true, true_and, S1, ↓reduceIte, Nat.reduceEqDiff, Nat.reduceAdd, Nat.reduceMul, Nat.reduceDiv, AOp.sb, AOp.mut, ↓Bool.false_eq_true, beq_self_eq_true, ite_self, Nat.reduceLeDiff, Int.reduceEq, Int.reduceSub, Int.reduceAdd, Int.reduceNeg, Int.reduceLT, Int.reduceLE, Nat.reduceLT, bz_G5]
      · obtain ⟨rfl, rfl, rfl⟩ := nok1 fun h => big_c (i := i) hS1 (show SM ≤ c.natAbs from by unfold Pi at hP; simp only [SM]; omega) (by omega)
        rw [sm_nofit hP] at hsm
        have zc27 := hsm
        repeat first | (refine hK _ ?_; clear hK K) | simp only [Sv, ↓reduceIte, Nat.reduceEqDiff] | ((first | refine vm_reg (fun K hK => ?_) | refine vm_dreg (fun K hK => ?_) | refine clp_q ?_ | refine clq_mk (by assumption) ?_); simp (disch := (first | omega | assumption)) only [S1, ↓reduceIte, Nat.reduceEqDiff, Nat.reduceAdd, Nat.reduceMul, Nat.reduceDiv, AOp.sb, AOp.mut, ↓Bool.false_eq_true, beq_self_eq_true, ite_self, Nat.reduceLeDiff, Int.reduceEq, Int.reduceSub, Int.reduceAdd, Int.reduceNeg, Int.reduceLT, Int.reduceLE, Nat.reduceLT, bz_G5, hin1, hqz, row1])
        refine hr _ ?_
        simp (disch := (first | omega | assumption)) only [retC, rsVs_nil, rsVs_cons, rsV_t, rsV_c, rsp_pt, rsq_t, rsq_f, ocons_ss, retV_1, retV_2, retNV_nil, retNV_cons, retOk, retN, ret1, retF, ret1F, V.okArg, and_true, true_and, S1, ↓reduceIte, Nat.reduceEqDiff, Nat.reduceAdd, Nat.reduceMul, Nat.reduceDiv, AOp.sb, AOp.mut, ↓Bool.false_eq_true, beq_self_eq_true, ite_self, Nat.reduceLeDiff, Int.reduceEq, Int.reduceSub, Int.reduceAdd, Int.reduceNeg, Int.reduceLT, Int.reduceLE, Nat.reduceLT, bz_G5]
    · obtain rfl : i = n := by omega
      rw [show cs.take i = cs from by rw [hn, List.take_length]] at hw ⊢
      have hok : vOk cs z := ⟨h1, by rw [← hS]; exact hw⟩
      obtain rfl : e = 0 := by rw [he0]; exact if_pos hok
      rw [show vF cs z = horner z cs from if_pos hok] at hr1 hr2
      have hlast := outside_spec (horner z cs) (Nat.lt_of_le_of_lt (horner_sz z hzS cs) hw)
      simp only [nV] at hlast
      rw [← hr1, ← hr2] at hlast
      have hI : (I64 cs).length = i := by rw [I64_len, ← hn]
      repeat first
        | (refine hK _ ?_; clear hK K)
        | ((first | refine vm_reg (fun K hK => ?_) | refine vm_dreg (fun K hK => ?_)); simp (disch := (first | omega | assumption)) only [S1, ↓reduceIte, Nat.reduceEqDiff, Nat.reduceAdd, Nat.reduceMul, Nat.reduceDiv, AOp.sb, AOp.mut, ↓Bool.false_eq_true, beq_self_eq_true, ite_self, Nat.reduceLeDiff, Int.reduceEq, Int.reduceSub, Int.reduceAdd, Int.reduceNeg, Int.reduceLT, Int.reduceLE, Nat.reduceLT, bz_G5, hin1]; refine hK _ ?_; clear hK K)
        | simp only [Sv, ↓reduceIte, Nat.reduceEqDiff]
      refine he _ _ ?_
      have zc28 := hin
      repeat first | (refine hK _ ?_; clear hK K) | simp only [Sv, ↓reduceIte, Nat.reduceEqDiff] | ((first | refine vm_reg (fun K hK => ?_) | refine vm_dreg (fun K hK => ?_) | refine clp_q ?_ | refine clq_mk (by assumption) ?_); simp (disch := (first | omega | assumption)) only [S1, ↓reduceIte, Nat.reduceEqDiff, Nat.reduceAdd, Nat.reduceMul, Nat.reduceDiv, AOp.sb, AOp.mut, ↓Bool.false_eq_true, beq_self_eq_true, ite_self, Nat.reduceLeDiff, Int.reduceEq, Int.reduceSub, Int.reduceAdd, Int.reduceNeg, Int.reduceLT, Int.reduceLE, Nat.reduceLT, bz_G5])
      refine vm_loopA [] Nat (fun k => ⟨[(4, .pt 0 0), (10, .ow 1 1 i), (16, .z (horner z (cs.drop k)).1 (horner z (cs.drop k)).2), (17, .z z.1 z.2), (18, .i .i64 ((k : Int) - 1))],
          [(0, some ⟨31, 2, [.i .i64 0, .i .i64 0], true, true⟩), (1, some ⟨3, 1, I64 cs, true, false⟩)], 2⟩)
        (fun k => k ≤ i) (fun k => k) i (Nat.le_refl _) (by simp (disch := (first | omega | assumption)) only [Sl, Sa, Sw, ↓reduceIte, Nat.reduceEqDiff, Nat.reduceLT, List.all_nil, List.all_cons, Nat.reduceBneDiff, Nat.reduceAdd, bne_iff_ne, ne_eq, reduceCtorEq, not_false_eq_true, not_true_eq_false, Bool.and_true, Bool.true_and, and_true, true_and, and_self]) (by
        simp (disch := (first | omega | assumption)) only [Sl, Sa, Sw, ↓reduceIte, Nat.reduceEqDiff, Nat.reduceLT, List.all_nil, List.all_cons, Nat.reduceBneDiff, Nat.reduceAdd, bne_iff_ne, ne_eq, reduceCtorEq, not_false_eq_true, not_true_eq_false, Bool.and_true, Bool.true_and, and_true, true_and, and_self, i_eq, z_eq]
        rw [List.drop_of_length_le (by omega)]
        repeat' first | rfl | omega | (simp only [List.length_append, List.length_cons, List.length_nil]; done) | apply And.intro) ?_
      intro k hk Q2 hQ2 he2 hr2'
      by_cases hk0 : (0 : Int) ≤ (k : Int) - 1
      · obtain ⟨j, rfl⟩ : ∃ j, k = j + 1 := ⟨k - 1, by omega⟩
        have hj : j < cs.length := by omega
        have hd := horner_drop z cs j hj
        have hwd := wsum_drop S cs j (by omega)
        have hwe : wsum S (cs.drop j) = (cs.getD j 0).natAbs + S * wsum S (cs.drop (j + 1)) := by
          rw [List.drop_eq_getElem_cons hj, wsum, List.getD_eq_getElem?_getD, List.getElem?_eq_getElem hj]; rfl
        have hwj : wsum S (cs.drop j) < SM := by
          have := Nat.mul_le_mul_right (wsum S (cs.drop j)) (Nat.pow_pos hS1 : 1 ≤ S ^ j)
          omega
        have hsz := horner_sz z hzS (cs.drop (j + 1))
        have hgm : gsz (horner z (cs.drop (j + 1))) * gsz z ≤ S * wsum S (cs.drop (j + 1)) := by
          rw [Nat.mul_comm S]; exact Nat.mul_le_mul hsz hzS
        have hz1 := gmul_ok (x := horner z (cs.drop (j + 1))) (y := z) (by omega)
        have hg2 := gsz_mul (horner z (cs.drop (j + 1))) z
        have hget := I64_get cs j hj
        generalize cs.getD j 0 = c at *
        have e1 : (horner z (cs.drop j)).1 = (horner z (cs.drop (j + 1))).1 * z.1 - (horner z (cs.drop (j + 1))).2 * z.2 + c := by rw [hd]; rfl
        have e2 : (horner z (cs.drop j)).2 = (horner z (cs.drop (j + 1))).1 * z.2 + (horner z (cs.drop (j + 1))).2 * z.1 + 0 := by rw [hd]; rfl
        generalize horner z (cs.drop (j + 1)) = v at *
        unfold gmul at hg2
        rw [show gsz (v.1 * z.1 - v.2 * z.2, v.1 * z.2 + v.2 * z.1) = (v.1 * z.1 - v.2 * z.2).natAbs + (v.1 * z.2 + v.2 * z.1).natAbs from rfl] at hg2
        have hc : c.natAbs < 9007199254740992 := by simp only [SM] at hwj; omega
        have hz2 : (v.1 * z.1 - v.2 * z.2 + c).natAbs < 9007199254740992 ∧ (v.1 * z.2 + v.2 * z.1 + 0).natAbs < 9007199254740992 := by
          simp only [SM] at hwj
          generalize v.1 * z.1 - v.2 * z.2 = x1 at *
          generalize v.1 * z.2 + v.2 * z.1 = x2 at *
          omega
        have ej : ((j + 1 : Nat) : Int) - 1 = (j : Int) := by omega
        simp only [ej]
        have hj0 : (0 : Int) ≤ (j : Int) := by omega
        repeat first
          | (refine hK _ ?_; clear hK K)
          | ((first | refine vm_reg (fun K hK => ?_) | refine vm_dreg (fun K hK => ?_)); simp (disch := (first | omega | assumption)) only [S1, ↓reduceIte, Nat.reduceEqDiff, Nat.reduceAdd, Nat.reduceMul, Nat.reduceDiv, AOp.sb, AOp.mut, ↓Bool.false_eq_true, beq_self_eq_true, ite_self, Nat.reduceLeDiff, Int.reduceEq, Int.reduceSub, Int.reduceAdd, Int.reduceNeg, Int.reduceLT, Int.reduceLE, Nat.reduceLT, bz_G5, hj0, hI, hget, hc, hz1, hz2]; refine hK _ ?_; clear hK K)
          | simp only [Sv, ↓reduceIte, Nat.reduceEqDiff]
        refine hQ2 _ j (by omega) (by omega) ?_
        simp (disch := (first | omega | assumption)) only [Sl, Sa, Sw, ↓reduceIte, Nat.reduceEqDiff, Nat.reduceLT, List.all_nil, List.all_cons, Nat.reduceBneDiff, Nat.reduceAdd, bne_iff_ne, ne_eq, reduceCtorEq, not_false_eq_true, not_true_eq_false, Bool.and_true, Bool.true_and, and_true, true_and, and_self, i_eq, z_eq]
        repeat' first | rfl | omega | (simp only [List.length_append, List.length_cons, List.length_nil]; done) | apply And.intro
        all_goals first | exact e1.symm | exact e2.symm
      · obtain rfl : k = 0 := by omega
        rw [List.drop_zero, ← hr1, ← hr2]
        repeat first
          | (refine hK _ ?_; clear hK K)
          | ((first | refine vm_reg (fun K hK => ?_) | refine vm_dreg (fun K hK => ?_)); simp (disch := (first | omega | assumption)) only [S1, ↓reduceIte, Nat.reduceEqDiff, Nat.reduceAdd, Nat.reduceMul, Nat.reduceDiv, AOp.sb, AOp.mut, ↓Bool.false_eq_true, beq_self_eq_true, ite_self, Nat.reduceLeDiff, Int.reduceEq, Int.reduceSub, Int.reduceAdd, Int.reduceNeg, Int.reduceLT, Int.reduceLE, Nat.reduceLT, bz_G5, hk0]; refine hK _ ?_; clear hK K)
          | simp only [Sv, ↓reduceIte, Nat.reduceEqDiff]
        refine he2 _ _ ?_
        have zc29 := hlast
        repeat first | (refine hK _ ?_; clear hK K) | simp only [Sv, ↓reduceIte, Nat.reduceEqDiff] | ((first | refine vm_reg (fun K hK => ?_) | refine vm_dreg (fun K hK => ?_) | refine clp_q ?_ | refine clq_mk (by assumption) ?_); simp (disch := (first | omega | assumption)) only [S1, ↓reduceIte, Nat.reduceEqDiff, Nat.reduceAdd, Nat.reduceMul, Nat.reduceDiv, AOp.sb, AOp.mut, ↓Bool.false_eq_true, beq_self_eq_true, ite_self, Nat.reduceLeDiff, Int.reduceEq, Int.reduceSub, Int.reduceAdd, Int.reduceNeg, Int.reduceLT, Int.reduceLE, Nat.reduceLT, bz_G5])
        simp (disch := (first | omega | assumption)) only [retC, rsVs_nil, rsVs_cons, rsV_t, rsV_c, rsp_pt, rsq_t, rsq_f, ocons_ss, retV_1, retV_2, retNV_nil, retNV_cons, retOk, retN, ret1, retF, ret1F, V.okArg, and_true, true_and, S1, ↓reduceIte, Nat.reduceEqDiff, Nat.reduceAdd, Nat.reduceMul, Nat.reduceDiv, AOp.sb, AOp.mut, ↓Bool.false_eq_true, beq_self_eq_true, ite_self, Nat.reduceLeDiff, Int.reduceEq, Int.reduceSub, Int.reduceAdd, Int.reduceNeg, Int.reduceLT, Int.reduceLE, Nat.reduceLT, bz_G5]
  · have p1 := gsize_bad h1
    obtain ⟨rfl, rfl, rfl⟩ := fails fun h => h1 h.1
    simp only [nV] at p1
    refine AFun.mkc fol J0s Try.func14 rfl (ac := a14) (by kernel_rfl) (rs := [.c 4 true 2, .t 5]) (by kernel_rfl) rfl ?_
    apply vm_start
    unfold a14
    simp only [init_eq, initE]
    have zc30 := p1
    repeat first | (refine hK _ ?_; clear hK K) | simp only [Sv, ↓reduceIte, Nat.reduceEqDiff] | ((first | refine vm_reg (fun K hK => ?_) | refine vm_dreg (fun K hK => ?_) | refine clp_q ?_ | refine clq_mk (by assumption) ?_); simp (disch := (first | omega | assumption)) only [S1, ↓reduceIte, Nat.reduceEqDiff, Nat.reduceAdd, Nat.reduceMul, Nat.reduceDiv, AOp.sb, AOp.mut, ↓Bool.false_eq_true, beq_self_eq_true, ite_self, Nat.reduceLeDiff, Int.reduceEq, Int.reduceSub, Int.reduceAdd, Int.reduceNeg, Int.reduceLT, Int.reduceLE, Nat.reduceLT, bz_G5])
    simp (disch := (first | omega | assumption)) only [retC, rsVs_nil, rsVs_cons, rsV_t, rsV_c, rsp_pt, rsq_t, rsq_f, ocons_ss, retV_1, retV_2, retNV_nil, retNV_cons, retOk, retN, ret1, retF, ret1F, V.okArg, and_true, true_and, S1, ↓reduceIte, Nat.reduceEqDiff, Nat.reduceAdd, Nat.reduceMul, Nat.reduceDiv, AOp.sb, AOp.mut, ↓Bool.false_eq_true, beq_self_eq_true, ite_self, Nat.reduceLeDiff, Int.reduceEq, Int.reduceSub, Int.reduceAdd, Int.reduceNeg, Int.reduceLT, Int.reduceLE, Nat.reduceLT, bz_G5]
end Go.Proofs.Ytfkldohgiifgbaa
