/-
  mul: products.
-/
import Derived.Test.YtlhadigkmlldeaaGreatDoorGF
import Derived.Test.YtlhadigkmlldeaaGreatDoorNM8
import Derived.Test.YtlhadigkmlldeaaGreatDoorGG
import Derived.Test.YtlhadigkmlldeaaGreatDoorGC
namespace Go.Proofs.YtlhadigkmlldeaaGreatDoor
open Go Go.RowKit Ab
set_option linter.unusedSimpArgs false
set_option linter.unusedVariables false
set_option maxHeartbeats 10000000
theorem bz_P1 : type_of% (And.intro @wi (And.intro @tn_nat (And.intro @Nat.div_one (And.intro @Nat.mul_one (And.intro @W_len (And.intro @W_nf (And.intro @W_cell (And.intro @W_nil (@W_get))))))))) := And.intro @wi (And.intro @tn_nat (And.intro @Nat.div_one (And.intro @Nat.mul_one (And.intro @W_len (And.intro @W_nf (And.intro @W_cell (And.intro @W_nil (@W_get))))))))

theorem mk_W' (n : Nat) : (List.replicate n [V.i .u64 0]).flatten = W (List.replicate n 0) := mk_W n
theorem tn_pp (a b : Nat) : ((a : Int) + (b : Int)).toNat = a + b := by omega
theorem mn' (a b : Nat) : min (a : Int) (b : Int) = ((min a b : Nat) : Int) := by omega

-- surd/mul.cut
def a183 : AC := .seq (.reg [⟨some 4, none, .mv (.k .nl)⟩,
 ⟨some 5, none, .mv (.k .nl)⟩])
 (.seq (.reg [⟨some 6, none, .mv (.t 1)⟩,
 ⟨some 7, none, .mv (.t 0)⟩,
 ⟨some 8, none, .len (.t 7)⟩,
 ⟨some 9, none, .mm false (.t 6) (.t 8)⟩,
 ⟨some 1, none, .mv (.t 9)⟩])
 (.seq (.dreg [⟨some 10, none, .mv (.t 0)⟩,
 ⟨some 11, none, .mv (.t 1)⟩,
 ⟨some 12, none, .sub 1 (.t 10) (some (.t 11)) none⟩,
 ⟨some 13, none, .call 131 [(1, (.t 12))]⟩,
 ⟨some 14, none, .mv (.t 0)⟩,
 ⟨some 15, none, .mv (.t 1)⟩,
 ⟨some 16, none, .sub 1 (.t 14) none (some (.t 15))⟩,
 ⟨some 17, none, .call 131 [(1, (.t 16))]⟩,
 ⟨some 4, none, .mv (.t 13)⟩,
 ⟨some 5, none, .mv (.t 17)⟩])
 (.ret)))
theorem mcut_spec (a : List Nat) (n : Nat) (ha : Wd a) (la : a.length ≤ 1000000000) : AFun Tryz.prog J0 183 [.l 1 (W a), .i .i64 (n : Int)] (.t [.l 1 (W (dg B (nv B a / B ^ n))), .l 1 (W (dg B (nv B a % B ^ n)))]) := by
  have e1 : nv B (a.drop (min n a.length)) = nv B a / B ^ n := by
    rcases Nat.le_total n a.length with h | h
    · rw [Nat.min_eq_left h, nv_div (by decide) ha]
    · rw [Nat.min_eq_right h, List.drop_length, Nat.div_eq_of_lt (Nat.lt_of_lt_of_le (nv_lt ha) (Nat.pow_le_pow_right (by decide) h))]; rfl
  have e2 : nv B (a.take (min n a.length)) = nv B a % B ^ n := by
    rcases Nat.le_total n a.length with h | h
    · rw [Nat.min_eq_left h, nv_mod (by decide) ha]
    · rw [Nat.min_eq_right h, List.take_length, Nat.mod_eq_of_lt (Nat.lt_of_lt_of_le (nv_lt ha) (Nat.pow_le_pow_right (by decide) h))]
  have hml : min n a.length ≤ a.length := Nat.min_le_right _ _
  generalize hm : min n a.length = m at e1 e2 hml
  have h1 := norm_dg (a.drop m) (Wd_drop ha _) (by rw [List.length_drop]; omega)
  have h2 := norm_dg (a.take m) (Wd_take ha _) (by rw [List.length_take]; omega)
  rw [e1] at h1
  rw [e2] at h2
  refine AFun.mk fol J0s Tryz.func183 rfl (ac := a183) (by kernel_rfl) rfl rfl rfl ?_
  apply vm_start
  unfold a183
  simp only [init_eq, initE]
  exact wdQ (ai @W_take (ai @W_drop (ai @hm (ai @mn' (ai @lnilA @bz_P1)))))

/-- so many words 0 below -/
def lf (v n : Nat) : List Nat := if v = 0 then [] else List.replicate n 0 ++ dg B v
theorem lf_nv (v n : Nat) : nv B (lf v n) = v * B ^ n := by
  unfold lf
  split
  · rename_i h; rw [h, Nat.zero_mul]; rfl
  · rw [nv_app, nv_rep, List.length_replicate, nv_dgB, Nat.zero_add, Nat.mul_comm]
theorem lf_Wd (v n : Nat) : Wd (lf v n) := by
  unfold lf
  split
  · exact Wd_nil
  · exact Wd_app (Lt_rep (by decide)) (Wd_dg v)
theorem lf_len {v n m : Nat} (h : v < B ^ m) : (lf v n).length ≤ n + m := by
  unfold lf
  split
  · exact Nat.zero_le _
  · rw [List.length_append, List.length_replicate]; have := dlen h; omega
-- surd/mul.lift
def a184 : AC := .seq (.reg [⟨some 4, none, .mv (.k .nl)⟩])
 (.seq (.seq (.reg [⟨some 5, none, .mv (.t 0)⟩,
 ⟨some 6, none, .len (.t 5)⟩,
 ⟨some 7, none, .bin .eql (.t 6) (.k (.i .i64 0))⟩])
 (.cond (.t 7)
 (.seq (.reg [⟨some 4, none, .mv (.k .nl)⟩])
 (.ret))
 (.skip)))
 (.seq (.reg [⟨some 8, none, .mv (.t 1)⟩,
 ⟨some 9, none, .mk 70 1 8 [(.i .u64 0)] (.t 8) (.t 8)⟩,
 ⟨some 10, none, .mv (.t 0)⟩,
 ⟨some 11, none, .app 70 1 8 (.t 9) (.t 10)⟩,
 ⟨some 4, none, .mv (.t 11)⟩])
 (.ret)))
theorem lift_spec (v n : Nat) (hn : n ≤ 1000000000) (hl : (dg B v).length ≤ 1000000000) : AFun Tryz.prog J0 184 [.l 1 (W (dg B v)), .i .i64 (n : Int)] (.l 1 (W (lf v n))) := by
  have hd0 : (((dg B v).length : Int) = 0) = (v = 0) := propext ⟨fun h => (dg_nil B2).1 (List.eq_nil_of_length_eq_zero (by omega)), fun h => by rw [h]; rfl⟩
  refine AFun.mk fol J0s Tryz.func184 rfl (ac := a184) (by kernel_rfl) rfl rfl rfl ?_
  apply vm_start
  unfold a184
  simp only [init_eq, initE]
  by_cases h0 : v = 0
  · subst h0
    rw [show lf 0 n = [] from rfl]
    rw [dg_zero]
    exact pdQ (ai @lnilA @bz_P1)
  · rw [show lf v n = List.replicate n 0 ++ dg B v from if_neg h0]
    repeat first
      | (refine hK _ ?_; clear hK K)
      | ((first | refine vm_reg (fun K hK => ?_) | refine vm_dreg (fun K hK => ?_) | refine vm_dregx (fun K hK => ?_)); simp (disch := (first | omega | assumption)) only [S1, ↓reduceIte, Nat.reduceEqDiff, Nat.reduceAdd, Nat.reduceMul, Nat.reduceDiv, AOp.sb, AOp.mut, ↓Bool.false_eq_true, beq_self_eq_true, ite_self, Nat.reduceLeDiff, Int.reduceEq, Int.reduceSub, Int.reduceAdd, Int.reduceNeg, Int.reduceLT, Int.reduceLE, Nat.reduceLT, bz_P1, List.length_nil, hd0, h0, mk_W', W_app, List.length_replicate]; refine hK _ ?_; clear hK K)
      | simp only [Sv, ↓reduceIte, Nat.reduceEqDiff]
    exact rtQ (ai @lnilA @bz_P1)

-- surd/mul.halves
def a170 : AC := .seq (.reg [⟨some 4, none, .mv (.k .nl)⟩])
 (.seq (.reg [⟨some 14, none, .mv (.t 1)⟩,
 ⟨some 15, none, .len (.t 14)⟩,
 ⟨some 16, none, .bin .add (.t 15) (.k (.i .i64 1))⟩,
 ⟨some 17, none, .bin .quo (.t 16) (.k (.i .i64 2))⟩,
 ⟨some 5, none, .mv (.t 17)⟩])
 (.seq (.reg [⟨some 19, none, .mv (.t 0)⟩,
 ⟨some 20, none, .mv (.t 5)⟩,
 ⟨some 21, none, .call 183 [(1, (.t 19)), (1, (.t 20))]⟩,
 ⟨some 18, none, .mv (.t 21)⟩,
 ⟨some 22, none, .ext (.t 18) 0⟩,
 ⟨some 23, none, .ext (.t 18) 1⟩,
 ⟨some 6, none, .mv (.t 22)⟩,
 ⟨some 7, none, .mv (.t 23)⟩])
 (.seq (.reg [⟨some 25, none, .mv (.t 1)⟩,
 ⟨some 26, none, .mv (.t 5)⟩,
 ⟨some 27, none, .call 183 [(1, (.t 25)), (1, (.t 26))]⟩,
 ⟨some 24, none, .mv (.t 27)⟩,
 ⟨some 28, none, .ext (.t 24) 0⟩,
 ⟨some 29, none, .ext (.t 24) 1⟩,
 ⟨some 8, none, .mv (.t 28)⟩,
 ⟨some 9, none, .mv (.t 29)⟩])
 (.seq (.reg [⟨some 30, none, .mv (.t 6)⟩,
 ⟨some 31, none, .mv (.t 8)⟩,
 ⟨some 32, none, .call 149 [(1, (.t 30)), (1, (.t 31))]⟩,
 ⟨some 33, none, .mv (.t 7)⟩,
 ⟨some 34, none, .mv (.t 9)⟩,
 ⟨some 35, none, .call 149 [(1, (.t 33)), (1, (.t 34))]⟩,
 ⟨some 10, none, .mv (.t 32)⟩,
 ⟨some 11, none, .mv (.t 35)⟩])
 (.seq (.reg [⟨some 37, none, .mv (.t 6)⟩,
 ⟨some 38, none, .mv (.t 7)⟩,
 ⟨some 39, none, .call 147 [(1, (.t 37)), (1, (.t 38))]⟩,
 ⟨some 40, none, .mv (.t 8)⟩,
 ⟨some 41, none, .mv (.t 9)⟩,
 ⟨some 42, none, .call 147 [(1, (.t 40)), (1, (.t 41))]⟩,
 ⟨some 43, none, .call 149 [(1, (.t 39)), (1, (.t 42))]⟩,
 ⟨some 44, none, .mv (.t 10)⟩,
 ⟨some 45, none, .mv (.t 11)⟩,
 ⟨some 46, none, .call 147 [(1, (.t 44)), (1, (.t 45))]⟩,
 ⟨some 47, none, .call 169 [(1, (.t 43)), (1, (.t 46))]⟩,
 ⟨some 36, none, .mv (.t 47)⟩,
 ⟨some 48, none, .ext (.t 36) 0⟩,
 ⟨some 49, none, .ext (.t 36) 1⟩,
 ⟨some 12, none, .mv (.t 48)⟩,
 ⟨some 13, none, .mv (.t 49)⟩])
 (.seq (.reg [⟨some 50, none, .mv (.t 10)⟩,
 ⟨some 51, none, .mv (.t 5)⟩,
 ⟨some 52, none, .bin .mul (.k (.i .i64 2)) (.t 51)⟩,
 ⟨some 53, none, .call 184 [(1, (.t 50)), (1, (.t 52))]⟩,
 ⟨some 54, none, .mv (.t 12)⟩,
 ⟨some 55, none, .mv (.t 5)⟩,
 ⟨some 56, none, .call 184 [(1, (.t 54)), (1, (.t 55))]⟩,
 ⟨some 57, none, .call 147 [(1, (.t 53)), (1, (.t 56))]⟩,
 ⟨some 58, none, .mv (.t 11)⟩,
 ⟨some 59, none, .call 147 [(1, (.t 57)), (1, (.t 58))]⟩,
 ⟨some 4, none, .mv (.t 59)⟩])
 (.ret)))))))
theorem halves_spec (k : Nat) (hk : k ≤ 100000000)
    (IH : ∀ x y : List Nat, Wd x → Wd y → x.length ≤ k → y.length ≤ k → AFun Tryz.prog J0 149 [.l 1 (W x), .l 1 (W y)] (.l 1 (W (dg B (nv B x * nv B y)))))
    (a b : List Nat) (ha : Wd a) (hb : Wd b) (hab : a.length ≤ b.length) (h40 : 40 ≤ b.length) (lb : b.length ≤ k + 1) :
    AFun Tryz.prog J0 170 [.l 1 (W a), .l 1 (W b)] (.l 1 (W (dg B (nv B a * nv B b)))) := by
  obtain ⟨n, hn⟩ : ∃ n, n = (b.length + 1) / 2 := ⟨_, rfl⟩
  have hni : ((b.length : Int) + 1).tdiv 2 = (n : Int) := by rw [hn]; exact rfl
  have ha2 : nv B a < B ^ (n + n) := nvlt ha (by omega)
  have hb2 : nv B b < B ^ (n + n) := nvlt hb (by omega)
  rw [Nat.pow_add] at ha2 hb2
  have hP : 0 < B ^ n := Nat.pow_pos (by decide)
  have a1 : nv B a / B ^ n < B ^ n := (Nat.div_lt_iff_lt_mul hP).2 ha2
  have b1 : nv B b / B ^ n < B ^ n := (Nat.div_lt_iff_lt_mul hP).2 hb2
  have a0 : nv B a % B ^ n < B ^ n := Nat.mod_lt _ hP
  have b0 : nv B b % B ^ n < B ^ n := Nat.mod_lt _ hP
  have hca := mcut_spec a n ha (by omega)
  have hcb := mcut_spec b n hb (by omega)
  obtain ⟨kar1, kar2⟩ := kar (n := n) (a1 := nv B a / B ^ n) (a0 := nv B a % B ^ n) (b1 := nv B b / B ^ n) (b0 := nv B b % B ^ n)
  rw [Nat.mod_add_div, Nat.mod_add_div] at kar1
  rw [kar1]
  generalize nv B a / B ^ n = A1 at *
  generalize nv B a % B ^ n = A0 at *
  generalize nv B b / B ^ n = B1 at *
  generalize nv B b % B ^ n = B0 at *
  have la1 := dlen a1
  have la0 := dlen a0
  have lb1 := dlen b1
  have lb0 := dlen b0
  have sa := padd a1 a0
  have sb := padd b1 b0
  have lsa := dlen sa
  have lsb := dlen sb
  have hi := IH (dg B A1) (dg B B1) (Wd_dg _) (Wd_dg _) (by omega) (by omega)
  have lo := IH (dg B A0) (dg B B0) (Wd_dg _) (Wd_dg _) (by omega) (by omega)
  have ada := add_spec (dg B A1) (dg B A0) (Wd_dg _) (Wd_dg _) (by omega) (by omega)
  have adb := add_spec (dg B B1) (dg B B0) (Wd_dg _) (Wd_dg _) (by omega) (by omega)
  have mi := IH (dg B (A1 + A0)) (dg B (B1 + B0)) (Wd_dg _) (Wd_dg _) (by omega) (by omega)
  simp only [nv_dgB] at hi lo ada adb mi
  have phi : A1 * B1 < B ^ (n + n) := by rw [Nat.pow_add]; exact Nat.mul_lt_mul_of_lt_of_lt a1 b1
  have plo : A0 * B0 < B ^ (n + n) := by rw [Nat.pow_add]; exact Nat.mul_lt_mul_of_lt_of_lt a0 b0
  have pmi : (A1 + A0) * (B1 + B0) < B ^ (n + 1 + (n + 1)) := by rw [Nat.pow_add B (n + 1)]; exact Nat.mul_lt_mul_of_lt_of_lt sa sb
  have lhi := dlen phi
  have llo := dlen plo
  have lmi := dlen pmi
  have phl := padd phi plo
  have lhl := dlen phl
  have adh := add_spec (dg B (A1 * B1)) (dg B (A0 * B0)) (Wd_dg _) (Wd_dg _) (by omega) (by omega)
  have sbm := sub_spec (dg B ((A1 + A0) * (B1 + B0))) (dg B (A1 * B1 + A0 * B0)) (Wd_dg _) (Wd_dg _) (by omega) (by omega)
  simp only [nv_dgB] at adh sbm
  rw [if_neg (Nat.not_lt.2 kar2), if_neg (Nat.not_lt.2 kar2)] at sbm
  have pmd : (A1 + A0) * (B1 + B0) - (A1 * B1 + A0 * B0) < B ^ (n + 1 + (n + 1)) := Nat.lt_of_le_of_lt (Nat.sub_le _ _) pmi
  generalize (A1 + A0) * (B1 + B0) - (A1 * B1 + A0 * B0) = M at *
  have lmd := dlen pmd
  have lh := lift_spec (A1 * B1) (2 * n) (by omega) (by omega)
  have lm := lift_spec M n (by omega) (by omega)
  have llh := lf_len (n := 2 * n) phi
  have llm := lf_len (n := n) pmd
  have ad1 := add_spec (lf (A1 * B1) (2 * n)) (lf M n) (lf_Wd _ _) (lf_Wd _ _) (by omega) (by omega)
  rw [lf_nv, lf_nv] at ad1
  have l1 : (dg B (A1 * B1 * B ^ (2 * n) + M * B ^ n)).length ≤ 4 * n + 10 := by
    have q1 : A1 * B1 * B ^ (2 * n) < B ^ (4 * n + 9) := by
      have := Nat.mul_lt_mul_of_pos_right phi (Nat.pow_pos (n := 2 * n) (by decide : 0 < B))
      rw [← Nat.pow_add] at this
      exact pup this (by omega)
    have q2 : M * B ^ n < B ^ (4 * n + 9) := by
      have := Nat.mul_lt_mul_of_pos_right pmd hP
      rw [← Nat.pow_add] at this
      exact pup this (by omega)
    exact dlen (padd q1 q2)
  have ad2 := add_spec (dg B (A1 * B1 * B ^ (2 * n) + M * B ^ n)) (dg B (A0 * B0)) (Wd_dg _) (Wd_dg _) (by omega) (by omega)
  simp only [nv_dgB] at ad2
  have h2n : (2 : Int) * (n : Int) = ((2 * n : Nat) : Int) := by omega
  have h20 : ¬ (2 : Int) = 0 := by decide
  refine AFun.mk fol J0s Tryz.func170 rfl (ac := a170) (by kernel_rfl) rfl rfl rfl ?_
  apply vm_start
  unfold a170
  simp only [init_eq, initE]
  exact wdQ (ai @h2n (ai @Int.natCast_zero (ai @h20 (ai @hni (ai @lnilA @bz_P1)))))

-- surd/mul.product
def a149 : AC := .seq (.reg [⟨some 4, none, .mv (.k .nl)⟩])
 (.seq (.seq (.reg [⟨some 11, none, .mv (.t 0)⟩,
 ⟨some 12, none, .len (.t 11)⟩,
 ⟨some 13, none, .mv (.t 1)⟩,
 ⟨some 14, none, .len (.t 13)⟩,
 ⟨some 15, none, .bin .gtr (.t 12) (.t 14)⟩])
 (.cond (.t 15)
 (.reg [⟨some 16, none, .mv (.t 1)⟩,
 ⟨some 17, none, .mv (.t 0)⟩,
 ⟨some 0, none, .mv (.t 16)⟩,
 ⟨some 1, none, .mv (.t 17)⟩])
 (.skip)))
 (.seq (.blk 0
 (.seq (.reg [⟨some 19, none, .mv (.t 0)⟩,
 ⟨some 20, none, .len (.t 19)⟩,
 ⟨some 21, none, .bin .eql (.t 20) (.k (.i .i64 0))⟩,
 ⟨some 18, none, .mv (.t 21)⟩])
 (.cond (.t 18)
 (.seq (.reg [⟨some 4, none, .mv (.k .nl)⟩])
 (.ret))
 (.seq (.reg [⟨some 23, none, .mv (.t 0)⟩,
 ⟨some 24, none, .len (.t 23)⟩,
 ⟨some 25, none, .bin .geq (.t 24) (.k (.i .i64 40))⟩,
 ⟨some 22, none, .mv (.t 25)⟩])
 (.cond (.t 22)
 (.seq (.reg [⟨some 26, none, .mv (.t 0)⟩,
 ⟨some 27, none, .mv (.t 1)⟩,
 ⟨some 28, none, .call 170 [(1, (.t 26)), (1, (.t 27))]⟩,
 ⟨some 4, none, .mv (.t 28)⟩])
 (.ret))
 (.skip))))))
 (.seq (.reg [⟨some 29, none, .mv (.t 0)⟩,
 ⟨some 30, none, .len (.t 29)⟩,
 ⟨some 31, none, .mv (.t 1)⟩,
 ⟨some 32, none, .len (.t 31)⟩,
 ⟨some 33, none, .bin .add (.t 30) (.t 32)⟩,
 ⟨some 34, none, .mk 70 1 8 [(.i .u64 0)] (.t 33) (.t 33)⟩,
 ⟨some 5, none, .mv (.t 34)⟩])
 (.seq (.seq (.reg [⟨some 35, none, .mv (.t 0)⟩,
 ⟨some 36, none, .len (.t 35)⟩,
 ⟨some 37, none, .mv (.k (.i .i64 0))⟩])
 (.blk 1
 (.loop
 (.seq (.reg [⟨some 38, none, .bin .lss (.t 37) (.t 36)⟩])
 (.seq (.cond (.t 38)
 (.skip)
 (.exit 1))
 (.seq (.blk 2
 (.seq (.reg [⟨some 39, none, .mv (.t 37)⟩,
 ⟨some 40, none, .idx 1 (.t 35) (.t 37)⟩,
 ⟨some 41, none, .ld false 1 (.t 40)⟩,
 ⟨some 6, none, .mv (.t 39)⟩,
 ⟨some 7, none, .mv (.t 41)⟩])
 (.seq (.reg [⟨some 8, none, .mv (.k (.i .u64 0))⟩])
 (.seq (.seq (.reg [⟨some 42, none, .mv (.t 1)⟩,
 ⟨some 43, none, .len (.t 42)⟩,
 ⟨some 44, none, .mv (.k (.i .i64 0))⟩])
 (.blk 3
 (.loop
 (.seq (.reg [⟨some 45, none, .bin .lss (.t 44) (.t 43)⟩])
 (.seq (.cond (.t 45)
 (.skip)
 (.exit 3))
 (.seq (.blk 4
 (.seq (.reg [⟨some 46, none, .mv (.t 44)⟩,
 ⟨some 47, none, .idx 1 (.t 42) (.t 44)⟩,
 ⟨some 48, none, .ld false 1 (.t 47)⟩,
 ⟨some 9, none, .mv (.t 46)⟩,
 ⟨some 10, none, .mv (.t 48)⟩])
 (.reg [⟨some 50, none, .mv (.t 5)⟩,
 ⟨some 51, none, .mv (.t 6)⟩,
 ⟨some 52, none, .mv (.t 9)⟩,
 ⟨some 53, none, .bin .add (.t 51) (.t 52)⟩,
 ⟨some 54, none, .mv (.t 10)⟩,
 ⟨some 55, none, .mv (.t 7)⟩,
 ⟨some 56, none, .mv (.t 8)⟩,
 ⟨some 57, none, .mv (.t 5)⟩,
 ⟨some 58, none, .mv (.t 6)⟩,
 ⟨some 59, none, .mv (.t 9)⟩,
 ⟨some 60, none, .bin .add (.t 58) (.t 59)⟩,
 ⟨some 61, none, .idx 1 (.t 57) (.t 60)⟩,
 ⟨some 62, none, .ld false 1 (.t 61)⟩,
 ⟨some 63, none, .call 167 [(1, (.t 54)), (1, (.t 55)), (1, (.t 56)), (1, (.t 62))]⟩,
 ⟨some 49, none, .mv (.t 63)⟩,
 ⟨some 64, none, .ext (.t 49) 0⟩,
 ⟨some 65, none, .ext (.t 49) 1⟩,
 ⟨some 8, none, .mv (.t 64)⟩,
 ⟨some 66, none, .idx 1 (.t 50) (.t 53)⟩,
 ⟨none, none, .st 1 (.t 66) (.t 65)⟩])))
 (.reg [⟨some 67, none, .bin .add (.t 44) (.k (.i .i64 1))⟩,
 ⟨some 44, none, .mv (.t 67)⟩])))))))
 (.reg [⟨some 68, none, .mv (.t 5)⟩,
 ⟨some 69, none, .mv (.t 6)⟩,
 ⟨some 70, none, .mv (.t 1)⟩,
 ⟨some 71, none, .len (.t 70)⟩,
 ⟨some 72, none, .bin .add (.t 69) (.t 71)⟩,
 ⟨some 73, none, .mv (.t 8)⟩,
 ⟨some 74, none, .idx 1 (.t 68) (.t 72)⟩,
 ⟨none, none, .st 1 (.t 74) (.t 73)⟩])))))
 (.reg [⟨some 75, none, .bin .add (.t 37) (.k (.i .i64 1))⟩,
 ⟨some 37, none, .mv (.t 75)⟩])))))))
 (.seq (.reg [⟨some 76, none, .mv (.t 5)⟩,
 ⟨some 77, none, .call 146 [(1, (.t 76))]⟩,
 ⟨some 4, none, .mv (.t 77)⟩])
 (.ret))))))
theorem school_pre (a b : List Nat) : a.length ≤ b.length ∨ b.length < a.length := by omega
theorem product_aux (k : Nat) (hk : k ≤ 100000000) : ∀ x y : List Nat, Wd x → Wd y → x.length ≤ k → y.length ≤ k → AFun Tryz.prog J0 149 [.l 1 (W x), .l 1 (W y)] (.l 1 (W (dg B (nv B x * nv B y)))) := by
  induction k with
  | zero =>
    intro x y hx hy lx ly
    have hx0 : x = [] := List.eq_nil_of_length_eq_zero (by omega)
    have hy0 : y = [] := List.eq_nil_of_length_eq_zero (by omega)
    subst hx0; subst hy0
    rw [show nv B [] * nv B [] = 0 from rfl, dg_zero]
    refine AFun.mk fol J0s Tryz.func149 rfl (ac := a149) (by kernel_rfl) rfl rfl rfl ?_
    apply vm_start
    unfold a149
    simp only [init_eq, initE]
    refine spQ (ai @lnilA @bz_P1) ?_
    exact rtQ (ai @lnilA @bz_P1)
  | succ k ih =>
    have IH := ih (by omega)
    intro x y hx hy lx ly
    refine AFun.mk fol J0s Tryz.func149 rfl (ac := a149) (by kernel_rfl) rfl rfl rfl ?_
    apply vm_start
    unfold a149
    simp only [init_eq, initE]
    by_cases hsw : (y.length : Int) < (x.length : Int)
    · rw [Nat.mul_comm]
      by_cases h0 : ((y).length : Int) = 0
      · have e : dg B (nv B (y) * nv B (x)) = [] := by rw [show y = [] from List.eq_nil_of_length_eq_zero (by omega), show nv B [] = 0 from rfl, Nat.zero_mul]; rfl
        rw [e]
        have q1 : ¬ (((x).length : Int) < 0) := by omega
        have q2 := (show (0 : Int) < (x.length : Int) by omega)
        refine spQ (ai @h0 (ai @q2 (ai @q1 (ai @lnilA @bz_P1)))) ?_
        exact rtQ (ai @lnilA @bz_P1)
      · by_cases h40 : (40 : Int) ≤ ((y).length : Int)
        · have hh := halves_spec k (by omega) IH (y) (x) hy hx (by omega) (by omega) (by omega)
          exact wdQ (ai @h40 (ai @h0 (ai @hsw (ai @lnilA @bz_P1))))
        · obtain ⟨la, hla⟩ : ∃ la, la = (y).length := ⟨_, rfl⟩
          obtain ⟨lb, hlb⟩ : ∃ lb, lb = (x).length := ⟨_, rfl⟩
          have hs2 := hsw
          rw [← hla, ← hlb] at hs2
          rw [← hla] at h0 h40
          repeat first
            | (refine hK _ ?_; clear hK K)
            | ((first | refine vm_reg (fun K hK => ?_) | refine vm_dreg (fun K hK => ?_) | refine vm_dregx (fun K hK => ?_)); simp (disch := (first | omega | assumption)) only [S1, ↓reduceIte, Nat.reduceEqDiff, Nat.reduceAdd, Nat.reduceMul, Nat.reduceDiv, AOp.sb, AOp.mut, ↓Bool.false_eq_true, beq_self_eq_true, ite_self, Nat.reduceLeDiff, Int.reduceEq, Int.reduceSub, Int.reduceAdd, Int.reduceNeg, Int.reduceLT, Int.reduceLE, Nat.reduceLT, bz_P1, List.length_nil, hs2, h0, h40, mk_W', tn_pp, ← hla, ← hlb]; refine hK _ ?_; clear hK K)
            | simp only [Sv, ↓reduceIte, Nat.reduceEqDiff]
          refine vm_loopA [] (Nat × List Nat) (fun s => ⟨[(1, .l 1 (W (x))), (5, .ow 1 0 (la + lb)), (35, .l 1 (W (y))), (36, .i .i64 (la : Int)), (37, .i .i64 (s.1 : Int))],
              [(0, some ⟨70, 1, W s.2, true, false⟩)], 1⟩)
            (fun s => s.1 ≤ la ∧ s.2.length = la + lb ∧ Wd s.2 ∧ nv B s.2 = nv B ((y).take s.1) * nv B (x) ∧ ∀ k, s.1 + lb ≤ k → s.2.getD k 0 = 0) (fun s => la - s.1) (0, List.replicate (la + lb) 0)
            ⟨Nat.zero_le _, by simp, Lt_rep (by decide), by rw [nv_rep, List.take_zero, show nv B [] = 0 from rfl, Nat.zero_mul], fun k hk => by simp only [List.getD_eq_getElem?_getD, List.getElem?_replicate]; split <;> rfl⟩ (by exact leQ) (by
            exact ltQ) ?_
          rintro ⟨i, R⟩ ⟨hi, lR, wR, vR, zR⟩ Q' hQ he hr
          simp only [] at hi lR wR vR zR ⊢
          by_cases hil : (i : Int) < (la : Int)
          · have hil' : i < (y).length := by omega
            have hw := Wd_get hy i
            repeat first
              | (refine hK _ ?_; clear hK K)
              | ((first | refine vm_reg (fun K hK => ?_) | refine vm_dreg (fun K hK => ?_) | refine vm_dregx (fun K hK => ?_)); simp (disch := (first | omega | assumption)) only [S1, ↓reduceIte, Nat.reduceEqDiff, Nat.reduceAdd, Nat.reduceMul, Nat.reduceDiv, AOp.sb, AOp.mut, ↓Bool.false_eq_true, beq_self_eq_true, ite_self, Nat.reduceLeDiff, Int.reduceEq, Int.reduceSub, Int.reduceAdd, Int.reduceNeg, Int.reduceLT, Int.reduceLE, Nat.reduceLT, bz_P1, List.length_nil, hil, ← hla, ← hlb]; refine hK _ ?_; clear hK K)
              | simp only [Sv, ↓reduceIte, Nat.reduceEqDiff]
            refine vm_loopA [] (Nat × List Nat × Nat) (fun s => ⟨[(1, .l 1 (W (x))), (5, .ow 1 0 (la + lb)), (35, .l 1 (W (y))), (36, .i .i64 (la : Int)), (37, .i .i64 (i : Int)), (6, .i .i64 (i : Int)), (7, .i .u64 (((y).getD i 0 : Nat) : Int)), (8, .i .u64 (s.2.2 : Int)), (42, .l 1 (W (x))), (43, .i .i64 (lb : Int)), (44, .i .i64 (s.1 : Int))],
                [(0, some ⟨70, 1, W s.2.1, true, false⟩)], 1⟩)
              (fun s => s.1 ≤ lb ∧ s.2.1.length = la + lb ∧ Wd s.2.1 ∧ s.2.2 < 18446744073709551616 ∧ nv B s.2.1 + B ^ (i + s.1) * s.2.2 = nv B ((y).take i) * nv B (x) + B ^ i * ((y).getD i 0 * nv B ((x).take s.1)) ∧ ∀ k, i + lb ≤ k → s.2.1.getD k 0 = 0) (fun s => lb - s.1) (0, R, 0)
              ⟨Nat.zero_le _, lR, wR, (show (0 : Nat) < 18446744073709551616 from by decide), by simp only [List.take_zero, show nv B [] = 0 from rfl, Nat.mul_zero, Nat.add_zero]; exact vR, zR⟩ (by exact leQ) (by
              exact ltQ) ?_
            rintro ⟨j, S, c⟩ ⟨hj, lS, wS, hc, vS, zS⟩ Q'' hQ' he' hr'
            simp only [] at hj lS wS hc vS zS ⊢
            by_cases hjl : (j : Int) < (lb : Int)
            · have hjl' : j < (x).length := by omega
              have hx2 := Wd_get hx j
              have hs := Wd_get wS (i + j)
              have hmw := mulW_spec ((x).getD j 0) ((y).getD i 0) c (S.getD (i + j) 0) hx2 hw hc hs
              have hcl := mulW_lt hx2 hw hc hs
              have hst := mul_step (l := S) (k := i + j) (w := (y).getD i 0) (x := (x).getD j 0) (by omega) vS
              have htk := nv_take_succ (b := B) (x) j hjl'
              repeat first | (refine hK _ ?_; clear hK K) | simp only [Sv, ↓reduceIte, Nat.reduceEqDiff] | ((first | refine vm_reg (fun K hK => ?_) | refine vm_dreg (fun K hK => ?_) | refine vm_dregx (fun K hK => ?_) | refine clp_q ?_ | refine clq_mk (by assumption) ?_ | refine mcq_q ?_ | (apply mcr_mk; assumption)); simp (disch := (first | omega | assumption)) only [S1, ↓reduceIte, Nat.reduceEqDiff, Nat.reduceAdd, Nat.reduceMul, Nat.reduceDiv, AOp.sb, AOp.mut, ↓Bool.false_eq_true, beq_self_eq_true, ite_self, Nat.reduceLeDiff, Int.reduceEq, Int.reduceSub, Int.reduceAdd, Int.reduceNeg, Int.reduceLT, Int.reduceLE, Nat.reduceLT, bz_P1, List.length_nil, hjl, tn_pp, lS, W_set, ← hla, ← hlb])
              refine hQ' _ (j + 1, S.set (i + j) (((x).getD j 0 * (y).getD i 0 + c + S.getD (i + j) 0) % 18446744073709551616), ((x).getD j 0 * (y).getD i 0 + c + S.getD (i + j) 0) / 18446744073709551616)
                ⟨by simp only; omega, by simp only [List.length_set]; exact lS, Lt_set wS _ _ (Nat.mod_lt _ (by decide)), hcl, ?_, fun k hk => by simp only; rw [getD_set_ne _ _ _ _ (by first | omega | (simp only at hk; omega))]; exact zS k hk⟩ (by simp only; omega) ?_
              · simp only []
                rw [htk, Nat.mul_add, Nat.mul_add, show i + (j + 1) = i + j + 1 from rfl]
                rw [show B ^ i * ((y).getD i 0 * (B ^ j * (x).getD j 0)) = B ^ (i + j) * ((x).getD j 0 * (y).getD i 0) from by rw [Nat.pow_add, Nat.mul_assoc, Nat.mul_left_comm ((y).getD i 0), Nat.mul_comm ((y).getD i 0)]]
                exact hst
              · simp (disch := (first | omega | assumption)) only [Sl, Sa, Sw, ↓reduceIte, Nat.reduceEqDiff, Nat.reduceLT, List.all_nil, List.all_cons, Nat.reduceBneDiff, Nat.reduceAdd, bne_iff_ne, ne_eq, reduceCtorEq, not_false_eq_true, not_true_eq_false, Bool.and_true, Bool.true_and, and_true, true_and, and_self, i_eq]
                repeat' first | rfl | omega | (simp only [List.length_append, List.length_cons, List.length_nil]; done) | apply And.intro
            · obtain rfl : j = lb := by omega
              have hz := zS (i + j) (Nat.le_refl _)
              have hset := nv_set (b := B) S (i + j) c (by omega)
              rw [hz, Nat.mul_zero, Nat.add_zero] at hset
              rw [show (x).take j = x from by rw [hlb, List.take_length]] at vS
              repeat first
                | (refine hK _ ?_; clear hK K)
                | ((first | refine vm_reg (fun K hK => ?_) | refine vm_dreg (fun K hK => ?_) | refine vm_dregx (fun K hK => ?_)); simp (disch := (first | omega | assumption)) only [S1, ↓reduceIte, Nat.reduceEqDiff, Nat.reduceAdd, Nat.reduceMul, Nat.reduceDiv, AOp.sb, AOp.mut, ↓Bool.false_eq_true, beq_self_eq_true, ite_self, Nat.reduceLeDiff, Int.reduceEq, Int.reduceSub, Int.reduceAdd, Int.reduceNeg, Int.reduceLT, Int.reduceLE, Nat.reduceLT, bz_P1, List.length_nil, hjl, ← hla, ← hlb]; refine hK _ ?_; clear hK K)
                | simp only [Sv, ↓reduceIte, Nat.reduceEqDiff]
              refine he' _ _ ?_
              repeat first
                | (refine hK _ ?_; clear hK K)
                | ((first | refine vm_reg (fun K hK => ?_) | refine vm_dreg (fun K hK => ?_) | refine vm_dregx (fun K hK => ?_)); simp (disch := (first | omega | assumption)) only [S1, ↓reduceIte, Nat.reduceEqDiff, Nat.reduceAdd, Nat.reduceMul, Nat.reduceDiv, AOp.sb, AOp.mut, ↓Bool.false_eq_true, beq_self_eq_true, ite_self, Nat.reduceLeDiff, Int.reduceEq, Int.reduceSub, Int.reduceAdd, Int.reduceNeg, Int.reduceLT, Int.reduceLE, Nat.reduceLT, bz_P1, List.length_nil, tn_pp, lS, W_set, ← hla, ← hlb]; refine hK _ ?_; clear hK K)
                | simp only [Sv, ↓reduceIte, Nat.reduceEqDiff]
              refine hQ _ (i + 1, S.set (i + j) c) ⟨by simp only; omega, by simp only [List.length_set]; exact lS, Lt_set wS _ _ hc, ?_, fun k hk => by simp only; rw [getD_set_ne _ _ _ _ (by first | omega | (simp only at hk; omega))]; exact zS k (by first | omega | (simp only at hk; omega))⟩ (by simp only; omega) ?_
              · simp only []
                rw [hset, vS, nv_take_succ (b := B) (y) i hil', Nat.add_mul, Nat.mul_assoc]
              · simp (disch := (first | omega | assumption)) only [Sl, Sa, Sw, ↓reduceIte, Nat.reduceEqDiff, Nat.reduceLT, List.all_nil, List.all_cons, Nat.reduceBneDiff, Nat.reduceAdd, bne_iff_ne, ne_eq, reduceCtorEq, not_false_eq_true, not_true_eq_false, Bool.and_true, Bool.true_and, and_true, true_and, and_self, i_eq]
                repeat' first | rfl | omega | (simp only [List.length_append, List.length_cons, List.length_nil]; done) | apply And.intro
          · obtain rfl : i = la := by omega
            rw [show (y).take i = y from by rw [hla, List.take_length]] at vR
            have htr := (trim_spec R (by omega)).frozen
            rw [tz_dg B2 wR, vR] at htr
            refine spQ (ai @hil (ai @lnilA @bz_P1)) ?_
            refine he _ _ ?_
            exact wdQ (ai @lnilA @bz_P1)
    · by_cases h0 : ((x).length : Int) = 0
      · have e : dg B (nv B (x) * nv B (y)) = [] := by rw [show x = [] from List.eq_nil_of_length_eq_zero (by omega), show nv B [] = 0 from rfl, Nat.zero_mul]; rfl
        rw [e]
        have q1 : ¬ (((y).length : Int) < 0) := by omega
        have q2 := q1
        refine spQ (ai @h0 (ai @q2 (ai @q1 (ai @lnilA @bz_P1)))) ?_
        exact rtQ (ai @lnilA @bz_P1)
      · by_cases h40 : (40 : Int) ≤ ((x).length : Int)
        · have hh := halves_spec k (by omega) IH (x) (y) hx hy (by omega) (by omega) (by omega)
          exact wdQ (ai @h40 (ai @h0 (ai @hsw (ai @lnilA @bz_P1))))
        · obtain ⟨la, hla⟩ : ∃ la, la = (x).length := ⟨_, rfl⟩
          obtain ⟨lb, hlb⟩ : ∃ lb, lb = (y).length := ⟨_, rfl⟩
          have hs2 := hsw
          rw [← hla, ← hlb] at hs2
          rw [← hla] at h0 h40
          repeat first
            | (refine hK _ ?_; clear hK K)
            | ((first | refine vm_reg (fun K hK => ?_) | refine vm_dreg (fun K hK => ?_) | refine vm_dregx (fun K hK => ?_)); simp (disch := (first | omega | assumption)) only [S1, ↓reduceIte, Nat.reduceEqDiff, Nat.reduceAdd, Nat.reduceMul, Nat.reduceDiv, AOp.sb, AOp.mut, ↓Bool.false_eq_true, beq_self_eq_true, ite_self, Nat.reduceLeDiff, Int.reduceEq, Int.reduceSub, Int.reduceAdd, Int.reduceNeg, Int.reduceLT, Int.reduceLE, Nat.reduceLT, bz_P1, List.length_nil, hs2, h0, h40, mk_W', tn_pp, ← hla, ← hlb]; refine hK _ ?_; clear hK K)
            | simp only [Sv, ↓reduceIte, Nat.reduceEqDiff]
          refine vm_loopA [] (Nat × List Nat) (fun s => ⟨[(1, .l 1 (W (y))), (5, .ow 1 0 (la + lb)), (35, .l 1 (W (x))), (36, .i .i64 (la : Int)), (37, .i .i64 (s.1 : Int))],
              [(0, some ⟨70, 1, W s.2, true, false⟩)], 1⟩)
            (fun s => s.1 ≤ la ∧ s.2.length = la + lb ∧ Wd s.2 ∧ nv B s.2 = nv B ((x).take s.1) * nv B (y) ∧ ∀ k, s.1 + lb ≤ k → s.2.getD k 0 = 0) (fun s => la - s.1) (0, List.replicate (la + lb) 0)
            ⟨Nat.zero_le _, by simp, Lt_rep (by decide), by rw [nv_rep, List.take_zero, show nv B [] = 0 from rfl, Nat.zero_mul], fun k hk => by simp only [List.getD_eq_getElem?_getD, List.getElem?_replicate]; split <;> rfl⟩ (by exact leQ) (by
            exact ltQ) ?_
          rintro ⟨i, R⟩ ⟨hi, lR, wR, vR, zR⟩ Q' hQ he hr
          simp only [] at hi lR wR vR zR ⊢
          by_cases hil : (i : Int) < (la : Int)
          · have hil' : i < (x).length := by omega
            have hw := Wd_get hx i
            repeat first
              | (refine hK _ ?_; clear hK K)
              | ((first | refine vm_reg (fun K hK => ?_) | refine vm_dreg (fun K hK => ?_) | refine vm_dregx (fun K hK => ?_)); simp (disch := (first | omega | assumption)) only [S1, ↓reduceIte, Nat.reduceEqDiff, Nat.reduceAdd, Nat.reduceMul, Nat.reduceDiv, AOp.sb, AOp.mut, ↓Bool.false_eq_true, beq_self_eq_true, ite_self, Nat.reduceLeDiff, Int.reduceEq, Int.reduceSub, Int.reduceAdd, Int.reduceNeg, Int.reduceLT, Int.reduceLE, Nat.reduceLT, bz_P1, List.length_nil, hil, ← hla, ← hlb]; refine hK _ ?_; clear hK K)
              | simp only [Sv, ↓reduceIte, Nat.reduceEqDiff]
            refine vm_loopA [] (Nat × List Nat × Nat) (fun s => ⟨[(1, .l 1 (W (y))), (5, .ow 1 0 (la + lb)), (35, .l 1 (W (x))), (36, .i .i64 (la : Int)), (37, .i .i64 (i : Int)), (6, .i .i64 (i : Int)), (7, .i .u64 (((x).getD i 0 : Nat) : Int)), (8, .i .u64 (s.2.2 : Int)), (42, .l 1 (W (y))), (43, .i .i64 (lb : Int)), (44, .i .i64 (s.1 : Int))],
                [(0, some ⟨70, 1, W s.2.1, true, false⟩)], 1⟩)
              (fun s => s.1 ≤ lb ∧ s.2.1.length = la + lb ∧ Wd s.2.1 ∧ s.2.2 < 18446744073709551616 ∧ nv B s.2.1 + B ^ (i + s.1) * s.2.2 = nv B ((x).take i) * nv B (y) + B ^ i * ((x).getD i 0 * nv B ((y).take s.1)) ∧ ∀ k, i + lb ≤ k → s.2.1.getD k 0 = 0) (fun s => lb - s.1) (0, R, 0)
              ⟨Nat.zero_le _, lR, wR, (show (0 : Nat) < 18446744073709551616 from by decide), by simp only [List.take_zero, show nv B [] = 0 from rfl, Nat.mul_zero, Nat.add_zero]; exact vR, zR⟩ (by exact leQ) (by
              exact ltQ) ?_
            rintro ⟨j, S, c⟩ ⟨hj, lS, wS, hc, vS, zS⟩ Q'' hQ' he' hr'
            simp only [] at hj lS wS hc vS zS ⊢
            by_cases hjl : (j : Int) < (lb : Int)
            · have hjl' : j < (y).length := by omega
              have hx2 := Wd_get hy j
              have hs := Wd_get wS (i + j)
              have hmw := mulW_spec ((y).getD j 0) ((x).getD i 0) c (S.getD (i + j) 0) hx2 hw hc hs
              have hcl := mulW_lt hx2 hw hc hs
              have hst := mul_step (l := S) (k := i + j) (w := (x).getD i 0) (x := (y).getD j 0) (by omega) vS
              have htk := nv_take_succ (b := B) (y) j hjl'
              repeat first | (refine hK _ ?_; clear hK K) | simp only [Sv, ↓reduceIte, Nat.reduceEqDiff] | ((first | refine vm_reg (fun K hK => ?_) | refine vm_dreg (fun K hK => ?_) | refine vm_dregx (fun K hK => ?_) | refine clp_q ?_ | refine clq_mk (by assumption) ?_ | refine mcq_q ?_ | (apply mcr_mk; assumption)); simp (disch := (first | omega | assumption)) only [S1, ↓reduceIte, Nat.reduceEqDiff, Nat.reduceAdd, Nat.reduceMul, Nat.reduceDiv, AOp.sb, AOp.mut, ↓Bool.false_eq_true, beq_self_eq_true, ite_self, Nat.reduceLeDiff, Int.reduceEq, Int.reduceSub, Int.reduceAdd, Int.reduceNeg, Int.reduceLT, Int.reduceLE, Nat.reduceLT, bz_P1, List.length_nil, hjl, tn_pp, lS, W_set, ← hla, ← hlb])
              refine hQ' _ (j + 1, S.set (i + j) (((y).getD j 0 * (x).getD i 0 + c + S.getD (i + j) 0) % 18446744073709551616), ((y).getD j 0 * (x).getD i 0 + c + S.getD (i + j) 0) / 18446744073709551616)
                ⟨by simp only; omega, by simp only [List.length_set]; exact lS, Lt_set wS _ _ (Nat.mod_lt _ (by decide)), hcl, ?_, fun k hk => by simp only; rw [getD_set_ne _ _ _ _ (by first | omega | (simp only at hk; omega))]; exact zS k hk⟩ (by simp only; omega) ?_
              · simp only []
                rw [htk, Nat.mul_add, Nat.mul_add, show i + (j + 1) = i + j + 1 from rfl]
                rw [show B ^ i * ((x).getD i 0 * (B ^ j * (y).getD j 0)) = B ^ (i + j) * ((y).getD j 0 * (x).getD i 0) from by rw [Nat.pow_add, Nat.mul_assoc, Nat.mul_left_comm ((x).getD i 0), Nat.mul_comm ((x).getD i 0)]]
                exact hst
              · simp (disch := (first | omega | assumption)) only [Sl, Sa, Sw, ↓reduceIte, Nat.reduceEqDiff, Nat.reduceLT, List.all_nil, List.all_cons, Nat.reduceBneDiff, Nat.reduceAdd, bne_iff_ne, ne_eq, reduceCtorEq, not_false_eq_true, not_true_eq_false, Bool.and_true, Bool.true_and, and_true, true_and, and_self, i_eq]
                repeat' first | rfl | omega | (simp only [List.length_append, List.length_cons, List.length_nil]; done) | apply And.intro
            · obtain rfl : j = lb := by omega
              have hz := zS (i + j) (Nat.le_refl _)
              have hset := nv_set (b := B) S (i + j) c (by omega)
              rw [hz, Nat.mul_zero, Nat.add_zero] at hset
              rw [show (y).take j = y from by rw [hlb, List.take_length]] at vS
              repeat first
                | (refine hK _ ?_; clear hK K)
                | ((first | refine vm_reg (fun K hK => ?_) | refine vm_dreg (fun K hK => ?_) | refine vm_dregx (fun K hK => ?_)); simp (disch := (first | omega | assumption)) only [S1, ↓reduceIte, Nat.reduceEqDiff, Nat.reduceAdd, Nat.reduceMul, Nat.reduceDiv, AOp.sb, AOp.mut, ↓Bool.false_eq_true, beq_self_eq_true, ite_self, Nat.reduceLeDiff, Int.reduceEq, Int.reduceSub, Int.reduceAdd, Int.reduceNeg, Int.reduceLT, Int.reduceLE, Nat.reduceLT, bz_P1, List.length_nil, hjl, ← hla, ← hlb]; refine hK _ ?_; clear hK K)
                | simp only [Sv, ↓reduceIte, Nat.reduceEqDiff]
              refine he' _ _ ?_
              repeat first
                | (refine hK _ ?_; clear hK K)
                | ((first | refine vm_reg (fun K hK => ?_) | refine vm_dreg (fun K hK => ?_) | refine vm_dregx (fun K hK => ?_)); simp (disch := (first | omega | assumption)) only [S1, ↓reduceIte, Nat.reduceEqDiff, Nat.reduceAdd, Nat.reduceMul, Nat.reduceDiv, AOp.sb, AOp.mut, ↓Bool.false_eq_true, beq_self_eq_true, ite_self, Nat.reduceLeDiff, Int.reduceEq, Int.reduceSub, Int.reduceAdd, Int.reduceNeg, Int.reduceLT, Int.reduceLE, Nat.reduceLT, bz_P1, List.length_nil, tn_pp, lS, W_set, ← hla, ← hlb]; refine hK _ ?_; clear hK K)
                | simp only [Sv, ↓reduceIte, Nat.reduceEqDiff]
              refine hQ _ (i + 1, S.set (i + j) c) ⟨by simp only; omega, by simp only [List.length_set]; exact lS, Lt_set wS _ _ hc, ?_, fun k hk => by simp only; rw [getD_set_ne _ _ _ _ (by first | omega | (simp only at hk; omega))]; exact zS k (by first | omega | (simp only at hk; omega))⟩ (by simp only; omega) ?_
              · simp only []
                rw [hset, vS, nv_take_succ (b := B) (x) i hil', Nat.add_mul, Nat.mul_assoc]
              · simp (disch := (first | omega | assumption)) only [Sl, Sa, Sw, ↓reduceIte, Nat.reduceEqDiff, Nat.reduceLT, List.all_nil, List.all_cons, Nat.reduceBneDiff, Nat.reduceAdd, bne_iff_ne, ne_eq, reduceCtorEq, not_false_eq_true, not_true_eq_false, Bool.and_true, Bool.true_and, and_true, true_and, and_self, i_eq]
                repeat' first | rfl | omega | (simp only [List.length_append, List.length_cons, List.length_nil]; done) | apply And.intro
          · obtain rfl : i = la := by omega
            rw [show (x).take i = x from by rw [hla, List.take_length]] at vR
            have htr := (trim_spec R (by omega)).frozen
            rw [tz_dg B2 wR, vR] at htr
            refine spQ (ai @hil (ai @lnilA @bz_P1)) ?_
            refine he _ _ ?_
            exact wdQ (ai @lnilA @bz_P1)
theorem product_spec (x y : List Nat) (hx : Wd x) (hy : Wd y) (lx : x.length ≤ 100000000) (ly : y.length ≤ 100000000) : AFun Tryz.prog J0 149 [.l 1 (W x), .l 1 (W y)] (.l 1 (W (dg B (nv B x * nv B y)))) :=
  product_aux 100000000 (Nat.le_refl _) x y hx hy lx ly
-- surd/mul.Mul
def a104 : AC := .seq (.reg [⟨some 4, none, .mv (.k .nl)⟩])
 (.seq (.reg [⟨some 5, none, .mv (.t 0)⟩,
 ⟨some 6, none, .call 131 [(1, (.t 5))]⟩,
 ⟨some 7, none, .mv (.t 1)⟩,
 ⟨some 8, none, .call 131 [(1, (.t 7))]⟩,
 ⟨some 9, none, .call 149 [(1, (.t 6)), (1, (.t 8))]⟩,
 ⟨some 4, none, .mv (.t 9)⟩])
 (.ret))
theorem mul_spec (x y : List Nat) (hx : Wd x) (hy : Wd y) (lx : x.length ≤ 100000000) (ly : y.length ≤ 100000000) : AFun Tryz.prog J0 104 [.l 1 (W x), .l 1 (W y)] (.l 1 (W (dg B (nv B x * nv B y)))) := by
  have n1 := norm_dg x hx (by omega)
  have n2 := norm_dg y hy (by omega)
  have h := product_spec (dg B (nv B x)) (dg B (nv B y)) (Wd_dg _) (Wd_dg _) (Nat.le_trans (dg_len B2 (nv_lt hx)) lx) (Nat.le_trans (dg_len B2 (nv_lt hy)) ly)
  simp only [nv_dgB] at h
  refine AFun.mk fol J0s Tryz.func104 rfl (ac := a104) (by kernel_rfl) rfl rfl rfl ?_
  apply vm_start
  unfold a104
  simp only [init_eq, initE]
  exact wdQ (ai @lnilA @bz_P1)
end Go.Proofs.YtlhadigkmlldeaaGreatDoor
