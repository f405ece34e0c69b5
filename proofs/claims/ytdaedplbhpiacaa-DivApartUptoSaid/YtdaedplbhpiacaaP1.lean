/-
  mul: products.
-/
import Derived.Test.YtdaedplbhpiacaaGF
import Derived.Test.YtdaedplbhpiacaaNM8
import Derived.Test.YtdaedplbhpiacaaGG
import Derived.Test.YtdaedplbhpiacaaGC
namespace Go.Proofs.Ytdaedplbhpiacaa
open Go Go.RowKit Ab
set_option linter.unusedSimpArgs false
set_option linter.unusedVariables false
set_option maxHeartbeats 10000000
theorem bz_P1 : type_of% (And.intro @wi (And.intro @tn_nat (And.intro @Nat.div_one (And.intro @Nat.mul_one (And.intro @W_len (And.intro @W_nf (And.intro @W_cell (And.intro @W_nil (@W_get))))))))) := And.intro @wi (And.intro @tn_nat (And.intro @Nat.div_one (And.intro @Nat.mul_one (And.intro @W_len (And.intro @W_nf (And.intro @W_cell (And.intro @W_nil (@W_get))))))))
theorem mk_W' (n : Nat) : (List.replicate n [V.i .u64 0]).flatten = W (List.replicate n 0) := mk_W n
theorem tn_pp (a b : Nat) : ((a : Int) + (b : Int)).toNat = a + b := by omega
theorem mn' (a b : Nat) : min (a : Int) (b : Int) = ((min a b : Nat) : Int) := by omega
def a79 : AC := .seq (.reg [qr 4 (.mv (.k .nl)),
 qr 5 (.mv (.k .nl))])
 (.seq (.reg [qm 6 1,
 qm 7 0,
 qr 8 (.len (.t 7)),
 qr 9 (.mm false (.t 6) (.t 8)),
 qm 1 9])
 (.seq (.dreg [qm 10 0,
 qm 11 1,
 qr 12 (.sub 1 (.t 10) (some (.t 11)) none),
 qr 13 (.call 28 [(1, (.t 12))]),
 qm 14 0,
 qm 15 1,
 qr 16 (.sub 1 (.t 14) none (some (.t 15))),
 qr 17 (.call 28 [(1, (.t 16))]),
 qm 4 13,
 qm 5 17])
 (.ret)))
theorem mcut_spec (a : List Nat) (n : Nat) (ha : Wd a) (la : a.length ≤ 1000000000) : AFun Try.prog J0 79 [.l 1 (W a), .i .i64 (n : Int)] (.t [.l 1 (W (dg B (nv B a / B ^ n))), .l 1 (W (dg B (nv B a % B ^ n)))]) := by
  have e1 : nv B (a.drop (min n a.length)) = nv B a / B ^ n := by
    rcases Nat.le_total n a.length with h | h
    · rw [Nat.min_eq_left h, nv_div (by decide) ha]
    · rw [Nat.min_eq_right h, List.drop_length, Nat.div_eq_of_lt (Nat.lt_of_lt_of_le (nv_lt ha) (Nat.pow_le_pow_right (by decide) h))]; rfl
  have e2 : nv B (a.take (min n a.length)) = nv B a % B ^ n := by
    rcases Nat.le_total n a.length with h | h
    · rw [Nat.min_eq_left h, nv_mod (by decide) ha]
    · rw [Nat.min_eq_right h, List.take_length, Nat.mod_eq_of_lt (Nat.lt_of_lt_of_le (nv_lt ha) (Nat.pow_le_pow_right (by decide) h))]
  have hml : min n a.length ≤ a.length := Nat.min_le_right _ _
  generalize hm : min n a.length = m at e1 e2 hml
  have h1 := norm_dg (a.drop m) (Wd_drop ha _) (by rw [List.length_drop]; omega)
  have h2 := norm_dg (a.take m) (Wd_take ha _) (by rw [List.length_take]; omega)
  rw [e1] at h1
  rw [e2] at h2
  refine mkQ fol J0s Try.func79 a79 ?_
  unfold a79
  simp only [init_eq, initE, qm, qr, qn]
  exact wdQ (ai @W_take (ai @W_drop (ai @hm (ai @mn' (ai @lnilA @bz_P1)))))
def lf (v n : Nat) : List Nat := if v = 0 then [] else List.replicate n 0 ++ dg B v
theorem lf_nv (v n : Nat) : nv B (lf v n) = v * B ^ n := by
  unfold lf
  split
  · rename_i h; rw [h, Nat.zero_mul]; rfl
  · rw [nv_app, nv_rep, List.length_replicate, nv_dgB, Nat.zero_add, Nat.mul_comm]
theorem lf_Wd (v n : Nat) : Wd (lf v n) := by
  unfold lf
  split
  · exact Wd_nil
  · exact Wd_app (Lt_rep (by decide)) (Wd_dg v)
theorem lf_len {v n m : Nat} (h : v < B ^ m) : (lf v n).length ≤ n + m := by
  unfold lf
  split
  · exact Nat.zero_le _
  · rw [List.length_append, List.length_replicate]; have := dlen h; omega
def a81 : AC := .seq (.reg [qr 4 (.mv (.k .nl))])
 (.seq (.seq (.reg [qm 5 0,
 qr 6 (.len (.t 5)),
 qr 7 (.bin .eql (.t 6) (.k (.i .i64 0)))])
 (.cond (.t 7)
 (.seq (.reg [qr 4 (.mv (.k .nl))])
 (.ret))
 (.skip)))
 (.seq (.reg [qm 8 1,
 qr 9 (.mk 24 1 8 [(.i .u64 0)] (.t 8) (.t 8)),
 qm 10 0,
 qr 11 (.app 24 1 8 (.t 9) (.t 10)),
 qm 4 11])
 (.ret)))
theorem lift_spec (v n : Nat) (hn : n ≤ 1000000000) (hl : (dg B v).length ≤ 1000000000) : AFun Try.prog J0 81 [.l 1 (W (dg B v)), .i .i64 (n : Int)] (.l 1 (W (lf v n))) := by
  have hd0 : (((dg B v).length : Int) = 0) = (v = 0) := propext ⟨fun h => (dg_nil B2).1 (List.eq_nil_of_length_eq_zero (by omega)), fun h => by rw [h]; rfl⟩
  refine mkQ fol J0s Try.func81 a81 ?_
  unfold a81
  simp only [init_eq, initE, qm, qr, qn]
  by_cases h0 : v = 0
  · subst h0
    rw [show lf 0 n = [] from rfl]
    rw [dg_zero]
    exact pdQ (ai @lnilA @bz_P1)
  · rw [show lf v n = List.replicate n 0 ++ dg B v from if_neg h0]
    repeat first
      | (refine hK _ ?_; clear hK K)
      | ((first | refine vm_reg (fun K hK => ?_) | refine vm_dreg (fun K hK => ?_) | refine vm_dregx (fun K hK => ?_)); simp (disch := (first | omega | assumption)) only [S1, ↓reduceIte, Nat.reduceEqDiff, Nat.reduceAdd, Nat.reduceMul, Nat.reduceDiv, AOp.sb, AOp.mut, frzf, ↓Bool.false_eq_true, beq_self_eq_true, ite_self, Nat.reduceLeDiff, Int.reduceEq, Int.reduceSub, Int.reduceAdd, Int.reduceNeg, Int.reduceLT, Int.reduceLE, Nat.reduceLT, bz_P1, List.length_nil, hd0, h0, mk_W', W_app, List.length_replicate]; refine hK _ ?_; clear hK K)
      | simp only [Sv, ↓reduceIte, Nat.reduceEqDiff]
    exact rtQ (ai @lnilA @bz_P1)
def a75 : AC := .seq (.reg [qr 4 (.mv (.k .nl))])
 (.seq (.reg [qm 14 1,
 qr 15 (.len (.t 14)),
 qr 16 (.bin .add (.t 15) (.k (.i .i64 1))),
 qr 17 (.bin .quo (.t 16) (.k (.i .i64 2))),
 qm 5 17])
 (.seq (.reg [qm 19 0,
 qm 20 5,
 qr 21 (.call 79 [(1, (.t 19)), (1, (.t 20))]),
 qm 18 21,
 qr 22 (.ext (.t 18) 0),
 qr 23 (.ext (.t 18) 1),
 qm 6 22,
 qm 7 23])
 (.seq (.reg [qm 25 1,
 qm 26 5,
 qr 27 (.call 79 [(1, (.t 25)), (1, (.t 26))]),
 qm 24 27,
 qr 28 (.ext (.t 24) 0),
 qr 29 (.ext (.t 24) 1),
 qm 8 28,
 qm 9 29])
 (.seq (.reg [qm 30 6,
 qm 31 8,
 qr 32 (.call 59 [(1, (.t 30)), (1, (.t 31))]),
 qm 33 7,
 qm 34 9,
 qr 35 (.call 59 [(1, (.t 33)), (1, (.t 34))]),
 qm 10 32,
 qm 11 35])
 (.seq (.reg [qm 37 6,
 qm 38 7,
 qr 39 (.call 32 [(1, (.t 37)), (1, (.t 38))]),
 qm 40 8,
 qm 41 9,
 qr 42 (.call 32 [(1, (.t 40)), (1, (.t 41))]),
 qr 43 (.call 59 [(1, (.t 39)), (1, (.t 42))]),
 qm 44 10,
 qm 45 11,
 qr 46 (.call 32 [(1, (.t 44)), (1, (.t 45))]),
 qr 47 (.call 80 [(1, (.t 43)), (1, (.t 46))]),
 qm 36 47,
 qr 48 (.ext (.t 36) 0),
 qr 49 (.ext (.t 36) 1),
 qm 12 48,
 qm 13 49])
 (.seq (.reg [qm 50 10,
 qm 51 5,
 qr 52 (.bin .mul (.k (.i .i64 2)) (.t 51)),
 qr 53 (.call 81 [(1, (.t 50)), (1, (.t 52))]),
 qm 54 12,
 qm 55 5,
 qr 56 (.call 81 [(1, (.t 54)), (1, (.t 55))]),
 qr 57 (.call 32 [(1, (.t 53)), (1, (.t 56))]),
 qm 58 11,
 qr 59 (.call 32 [(1, (.t 57)), (1, (.t 58))]),
 qm 4 59])
 (.ret)))))))
theorem halves_spec (k : Nat) (hk : k ≤ 100000000)
    (IH : ∀ x y : List Nat, Wd x → Wd y → x.length ≤ k → y.length ≤ k → AFun Try.prog J0 59 [.l 1 (W x), .l 1 (W y)] (.l 1 (W (dg B (nv B x * nv B y)))))
    (a b : List Nat) (ha : Wd a) (hb : Wd b) (hab : a.length ≤ b.length) (h40 : 40 ≤ b.length) (lb : b.length ≤ k + 1) :
    AFun Try.prog J0 75 [.l 1 (W a), .l 1 (W b)] (.l 1 (W (dg B (nv B a * nv B b)))) := by
  obtain ⟨n, hn⟩ : ∃ n, n = (b.length + 1) / 2 := ⟨_, rfl⟩
  have hni : ((b.length : Int) + 1).tdiv 2 = (n : Int) := by rw [hn]; exact rfl
  have ha2 : nv B a < B ^ (n + n) := nvlt ha (by omega)
  have hb2 : nv B b < B ^ (n + n) := nvlt hb (by omega)
  rw [Nat.pow_add] at ha2 hb2
  have hP : 0 < B ^ n := Nat.pow_pos (by decide)
  have a1 : nv B a / B ^ n < B ^ n := (Nat.div_lt_iff_lt_mul hP).2 ha2
  have b1 : nv B b / B ^ n < B ^ n := (Nat.div_lt_iff_lt_mul hP).2 hb2
  have a0 : nv B a % B ^ n < B ^ n := Nat.mod_lt _ hP
  have b0 : nv B b % B ^ n < B ^ n := Nat.mod_lt _ hP
  have hca := mcut_spec a n ha (by omega)
  have hcb := mcut_spec b n hb (by omega)
  obtain ⟨kar1, kar2⟩ := kar (n := n) (a1 := nv B a / B ^ n) (a0 := nv B a % B ^ n) (b1 := nv B b / B ^ n) (b0 := nv B b % B ^ n)
  rw [Nat.mod_add_div, Nat.mod_add_div] at kar1
  rw [kar1]
  generalize nv B a / B ^ n = A1 at *
  generalize nv B a % B ^ n = A0 at *
  generalize nv B b / B ^ n = B1 at *
  generalize nv B b % B ^ n = B0 at *
  have la1 := dlen a1
  have la0 := dlen a0
  have lb1 := dlen b1
  have lb0 := dlen b0
  have sa := padd a1 a0
  have sb := padd b1 b0
  have lsa := dlen sa
  have lsb := dlen sb
  have hi := IH (dg B A1) (dg B B1) (Wd_dg _) (Wd_dg _) (by omega) (by omega)
  have lo := IH (dg B A0) (dg B B0) (Wd_dg _) (Wd_dg _) (by omega) (by omega)
  have ada := add_spec (dg B A1) (dg B A0) (Wd_dg _) (Wd_dg _) (by omega) (by omega)
  have adb := add_spec (dg B B1) (dg B B0) (Wd_dg _) (Wd_dg _) (by omega) (by omega)
  have mi := IH (dg B (A1 + A0)) (dg B (B1 + B0)) (Wd_dg _) (Wd_dg _) (by omega) (by omega)
  simp only [nv_dgB] at hi lo ada adb mi
  have phi : A1 * B1 < B ^ (n + n) := by rw [Nat.pow_add]; exact Nat.mul_lt_mul_of_lt_of_lt a1 b1
  have plo : A0 * B0 < B ^ (n + n) := by rw [Nat.pow_add]; exact Nat.mul_lt_mul_of_lt_of_lt a0 b0
  have pmi : (A1 + A0) * (B1 + B0) < B ^ (n + 1 + (n + 1)) := by rw [Nat.pow_add B (n + 1)]; exact Nat.mul_lt_mul_of_lt_of_lt sa sb
  have lhi := dlen phi
  have llo := dlen plo
  have lmi := dlen pmi
  have phl := padd phi plo
  have lhl := dlen phl
  have adh := add_spec (dg B (A1 * B1)) (dg B (A0 * B0)) (Wd_dg _) (Wd_dg _) (by omega) (by omega)
  have sbm := sub_spec (dg B ((A1 + A0) * (B1 + B0))) (dg B (A1 * B1 + A0 * B0)) (Wd_dg _) (Wd_dg _) (by omega) (by omega)
  simp only [nv_dgB] at adh sbm
  rw [if_neg (Nat.not_lt.2 kar2), if_neg (Nat.not_lt.2 kar2)] at sbm
  have pmd : (A1 + A0) * (B1 + B0) - (A1 * B1 + A0 * B0) < B ^ (n + 1 + (n + 1)) := Nat.lt_of_le_of_lt (Nat.sub_le _ _) pmi
  generalize (A1 + A0) * (B1 + B0) - (A1 * B1 + A0 * B0) = M at *
  have lmd := dlen pmd
  have lh := lift_spec (A1 * B1) (2 * n) (by omega) (by omega)
  have lm := lift_spec M n (by omega) (by omega)
  have llh := lf_len (n := 2 * n) phi
  have llm := lf_len (n := n) pmd
  have ad1 := add_spec (lf (A1 * B1) (2 * n)) (lf M n) (lf_Wd _ _) (lf_Wd _ _) (by omega) (by omega)
  rw [lf_nv, lf_nv] at ad1
  have l1 : (dg B (A1 * B1 * B ^ (2 * n) + M * B ^ n)).length ≤ 4 * n + 10 := by
    have q1 : A1 * B1 * B ^ (2 * n) < B ^ (4 * n + 9) := by
      have := Nat.mul_lt_mul_of_pos_right phi (Nat.pow_pos (n := 2 * n) (by decide : 0 < B))
      rw [← Nat.pow_add] at this
      exact pup this (by omega)
    have q2 : M * B ^ n < B ^ (4 * n + 9) := by
      have := Nat.mul_lt_mul_of_pos_right pmd hP
      rw [← Nat.pow_add] at this
      exact pup this (by omega)
    exact dlen (padd q1 q2)
  have ad2 := add_spec (dg B (A1 * B1 * B ^ (2 * n) + M * B ^ n)) (dg B (A0 * B0)) (Wd_dg _) (Wd_dg _) (by omega) (by omega)
  simp only [nv_dgB] at ad2
  have h2n : (2 : Int) * (n : Int) = ((2 * n : Nat) : Int) := by omega
  have h20 : ¬ (2 : Int) = 0 := by decide
  refine mkQ fol J0s Try.func75 a75 ?_
  unfold a75
  simp only [init_eq, initE, qm, qr, qn]
  exact wdQ (ai @h2n (ai @Int.natCast_zero (ai @h20 (ai @hni (ai @lnilA @bz_P1)))))
def a59 : AC := .seq (.reg [qr 4 (.mv (.k .nl))])
 (.seq (.seq (.reg [qm 11 0,
 qr 12 (.len (.t 11)),
 qm 13 1,
 qr 14 (.len (.t 13)),
 qr 15 (.bin .gtr (.t 12) (.t 14))])
 (.cond (.t 15)
 (.reg [qm 16 1,
 qm 17 0,
 qm 0 16,
 qm 1 17])
 (.skip)))
 (.seq (.blk 0
 (.seq (.reg [qm 19 0,
 qr 20 (.len (.t 19)),
 qr 21 (.bin .eql (.t 20) (.k (.i .i64 0))),
 qm 18 21])
 (.cond (.t 18)
 (.seq (.reg [qr 4 (.mv (.k .nl))])
 (.ret))
 (.seq (.reg [qm 23 0,
 qr 24 (.len (.t 23)),
 qr 25 (.bin .geq (.t 24) (.k (.i .i64 40))),
 qm 22 25])
 (.cond (.t 22)
 (.seq (.reg [qm 26 0,
 qm 27 1,
 qr 28 (.call 75 [(1, (.t 26)), (1, (.t 27))]),
 qm 4 28])
 (.ret))
 (.skip))))))
 (.seq (.reg [qm 29 0,
 qr 30 (.len (.t 29)),
 qm 31 1,
 qr 32 (.len (.t 31)),
 qr 33 (.bin .add (.t 30) (.t 32)),
 qr 34 (.mk 24 1 8 [(.i .u64 0)] (.t 33) (.t 33)),
 qm 5 34])
 (.seq (.seq (.reg [qm 35 0,
 qr 36 (.len (.t 35)),
 qr 37 (.mv (.k (.i .i64 0)))])
 (.blk 1
 (.loop
 (.seq (.reg [qr 38 (.bin .lss (.t 37) (.t 36))])
 (.seq (.cond (.t 38)
 (.skip)
 (.exit 1))
 (.seq (.blk 2
 (.seq (.reg [qm 39 37,
 qr 40 (.idx 1 (.t 35) (.t 37)),
 qr 41 (.ld false 1 (.t 40)),
 qm 6 39,
 qm 7 41])
 (.seq (.reg [qr 8 (.mv (.k (.i .u64 0)))])
 (.seq (.seq (.reg [qm 42 1,
 qr 43 (.len (.t 42)),
 qr 44 (.mv (.k (.i .i64 0)))])
 (.blk 3
 (.loop
 (.seq (.reg [qr 45 (.bin .lss (.t 44) (.t 43))])
 (.seq (.cond (.t 45)
 (.skip)
 (.exit 3))
 (.seq (.blk 4
 (.seq (.reg [qm 46 44,
 qr 47 (.idx 1 (.t 42) (.t 44)),
 qr 48 (.ld false 1 (.t 47)),
 qm 9 46,
 qm 10 48])
 (.reg [qm 50 5,
 qm 51 6,
 qm 52 9,
 qr 53 (.bin .add (.t 51) (.t 52)),
 qm 54 10,
 qm 55 7,
 qm 56 8,
 qm 57 5,
 qm 58 6,
 qm 59 9,
 qr 60 (.bin .add (.t 58) (.t 59)),
 qr 61 (.idx 1 (.t 57) (.t 60)),
 qr 62 (.ld false 1 (.t 61)),
 qr 63 (.call 71 [(1, (.t 54)), (1, (.t 55)), (1, (.t 56)), (1, (.t 62))]),
 qm 49 63,
 qr 64 (.ext (.t 49) 0),
 qr 65 (.ext (.t 49) 1),
 qm 8 64,
 qr 66 (.idx 1 (.t 50) (.t 53)),
 qn (.st 1 (.t 66) (.t 65))])))
 (.reg [qr 67 (.bin .add (.t 44) (.k (.i .i64 1))),
 qm 44 67])))))))
 (.reg [qm 68 5,
 qm 69 6,
 qm 70 1,
 qr 71 (.len (.t 70)),
 qr 72 (.bin .add (.t 69) (.t 71)),
 qm 73 8,
 qr 74 (.idx 1 (.t 68) (.t 72)),
 qn (.st 1 (.t 74) (.t 73))])))))
 (.reg [qr 75 (.bin .add (.t 37) (.k (.i .i64 1))),
 qm 37 75])))))))
 (.seq (.reg [qm 76 5,
 qr 77 (.call 64 [(1, (.t 76))]),
 qm 4 77])
 (.ret))))))
theorem product_aux (k : Nat) (hk : k ≤ 100000000) : ∀ x y : List Nat, Wd x → Wd y → x.length ≤ k → y.length ≤ k → AFun Try.prog J0 59 [.l 1 (W x), .l 1 (W y)] (.l 1 (W (dg B (nv B x * nv B y)))) := by
  induction k with
  | zero =>
    intro x y hx hy lx ly
    have hx0 : x = [] := List.eq_nil_of_length_eq_zero (by omega)
    have hy0 : y = [] := List.eq_nil_of_length_eq_zero (by omega)
    subst hx0; subst hy0
    rw [show nv B [] * nv B [] = 0 from rfl, dg_zero]
    refine mkQ fol J0s Try.func59 a59 ?_
    unfold a59
    simp only [init_eq, initE, qm, qr, qn]
    refine spQ (ai @lnilA @bz_P1) ?_
    exact rtQ (ai @lnilA @bz_P1)
  | succ k ih =>
    have IH := ih (by omega)
    intro x y hx hy lx ly
    refine mkQ fol J0s Try.func59 a59 ?_
    unfold a59
    simp only [init_eq, initE, qm, qr, qn]
    by_cases hsw : (y.length : Int) < (x.length : Int)
    · rw [Nat.mul_comm]
      by_cases h0 : ((y).length : Int) = 0
      · have e : dg B (nv B (y) * nv B (x)) = [] := by rw [show y = [] from List.eq_nil_of_length_eq_zero (by omega), show nv B [] = 0 from rfl, Nat.zero_mul]; rfl
        rw [e]
        have q1 : ¬ (((x).length : Int) < 0) := by omega
        have q2 := (show (0 : Int) < (x.length : Int) by omega)
        repeat first
          | (refine hK _ ?_; clear hK K)
          | ((first | refine vm_reg (fun K hK => ?_) | refine vm_dreg (fun K hK => ?_) | refine vm_dregx (fun K hK => ?_)); simp (disch := (first | omega | assumption)) only [S1, ↓reduceIte, Nat.reduceEqDiff, Nat.reduceAdd, Nat.reduceMul, Nat.reduceDiv, AOp.sb, AOp.mut, frzf, ↓Bool.false_eq_true, beq_self_eq_true, ite_self, Nat.reduceLeDiff, Int.reduceEq, Int.reduceSub, Int.reduceAdd, Int.reduceNeg, Int.reduceLT, Int.reduceLE, Nat.reduceLT, bz_P1, List.length_nil, q1, q2, h0]; refine hK _ ?_; clear hK K)
          | simp only [Sv, ↓reduceIte, Nat.reduceEqDiff]
        exact rtQ (ai @lnilA @bz_P1)
      · by_cases h40 : (40 : Int) ≤ ((y).length : Int)
        · have hh := halves_spec k (by omega) IH (y) (x) hy hx (by omega) (by omega) (by omega)
          exact wdQ (ai @h40 (ai @h0 (ai @hsw (ai @lnilA @bz_P1))))
        · obtain ⟨la, hla⟩ : ∃ la, la = (y).length := ⟨_, rfl⟩
          obtain ⟨lb, hlb⟩ : ∃ lb, lb = (x).length := ⟨_, rfl⟩
          have hs2 := hsw
          rw [← hla, ← hlb] at hs2
          rw [← hla] at h0 h40
          repeat first
            | (refine hK _ ?_; clear hK K)
            | ((first | refine vm_reg (fun K hK => ?_) | refine vm_dreg (fun K hK => ?_) | refine vm_dregx (fun K hK => ?_)); simp (disch := (first | omega | assumption)) only [S1, ↓reduceIte, Nat.reduceEqDiff, Nat.reduceAdd, Nat.reduceMul, Nat.reduceDiv, AOp.sb, AOp.mut, frzf, ↓Bool.false_eq_true, beq_self_eq_true, ite_self, Nat.reduceLeDiff, Int.reduceEq, Int.reduceSub, Int.reduceAdd, Int.reduceNeg, Int.reduceLT, Int.reduceLE, Nat.reduceLT, bz_P1, List.length_nil, hs2, h0, h40, mk_W', tn_pp, ← hla, ← hlb]; refine hK _ ?_; clear hK K)
            | simp only [Sv, ↓reduceIte, Nat.reduceEqDiff]
          refine vm_loopA [] (Nat × List Nat) (fun s => ⟨[(1, .l 1 (W (x))), (5, .ow 1 0 (la + lb)), (35, .l 1 (W (y))), (36, .i .i64 (la : Int)), (37, .i .i64 (s.1 : Int))],
              [(0, some ⟨24, 1, W s.2, true, false⟩)], 1⟩)
            (fun s => s.1 ≤ la ∧ s.2.length = la + lb ∧ Wd s.2 ∧ nv B s.2 = nv B ((y).take s.1) * nv B (x) ∧ ∀ k, s.1 + lb ≤ k → s.2.getD k 0 = 0) (fun s => la - s.1) (0, List.replicate (la + lb) 0)
            ⟨Nat.zero_le _, by simp, Lt_rep (by decide), by rw [nv_rep, List.take_zero, show nv B [] = 0 from rfl, Nat.zero_mul], fun k hk => by simp only [List.getD_eq_getElem?_getD, List.getElem?_replicate]; split <;> rfl⟩ (by exact leQ) (by
            exact ltQ) ?_
          rintro ⟨i, R⟩ ⟨hi, lR, wR, vR, zR⟩ Q' hQ he hr
          simp only [] at hi lR wR vR zR ⊢
          by_cases hil : (i : Int) < (la : Int)
          · have hil' : i < (y).length := by omega
            have hw := Wd_get hy i
            repeat first
              | (refine hK _ ?_; clear hK K)
              | ((first | refine vm_reg (fun K hK => ?_) | refine vm_dreg (fun K hK => ?_) | refine vm_dregx (fun K hK => ?_)); simp (disch := (first | omega | assumption)) only [S1, ↓reduceIte, Nat.reduceEqDiff, Nat.reduceAdd, Nat.reduceMul, Nat.reduceDiv, AOp.sb, AOp.mut, frzf, ↓Bool.false_eq_true, beq_self_eq_true, ite_self, Nat.reduceLeDiff, Int.reduceEq, Int.reduceSub, Int.reduceAdd, Int.reduceNeg, Int.reduceLT, Int.reduceLE, Nat.reduceLT, bz_P1, List.length_nil, hil, ← hla, ← hlb]; refine hK _ ?_; clear hK K)
              | simp only [Sv, ↓reduceIte, Nat.reduceEqDiff]
            refine vm_loopA [] (Nat × List Nat × Nat) (fun s => ⟨[(1, .l 1 (W (x))), (5, .ow 1 0 (la + lb)), (35, .l 1 (W (y))), (36, .i .i64 (la : Int)), (37, .i .i64 (i : Int)), (6, .i .i64 (i : Int)), (7, .i .u64 (((y).getD i 0 : Nat) : Int)), (8, .i .u64 (s.2.2 : Int)), (42, .l 1 (W (x))), (43, .i .i64 (lb : Int)), (44, .i .i64 (s.1 : Int))],
                [(0, some ⟨24, 1, W s.2.1, true, false⟩)], 1⟩)
              (fun s => s.1 ≤ lb ∧ s.2.1.length = la + lb ∧ Wd s.2.1 ∧ s.2.2 < 18446744073709551616 ∧ nv B s.2.1 + B ^ (i + s.1) * s.2.2 = nv B ((y).take i) * nv B (x) + B ^ i * ((y).getD i 0 * nv B ((x).take s.1)) ∧ ∀ k, i + lb ≤ k → s.2.1.getD k 0 = 0) (fun s => lb - s.1) (0, R, 0)
              ⟨Nat.zero_le _, lR, wR, (show (0 : Nat) < 18446744073709551616 from by decide), by simp only [List.take_zero, show nv B [] = 0 from rfl, Nat.mul_zero, Nat.add_zero]; exact vR, zR⟩ (by exact leQ) (by
              exact ltQ) ?_
            rintro ⟨j, S, c⟩ ⟨hj, lS, wS, hc, vS, zS⟩ Q'' hQ' he' hr'
            simp only [] at hj lS wS hc vS zS ⊢
            by_cases hjl : (j : Int) < (lb : Int)
            · have hjl' : j < (x).length := by omega
              have hx2 := Wd_get hx j
              have hs := Wd_get wS (i + j)
              have hmw := mulW_spec ((x).getD j 0) ((y).getD i 0) c (S.getD (i + j) 0) hx2 hw hc hs
              have hcl := mulW_lt hx2 hw hc hs
              have hst := mul_step (l := S) (k := i + j) (w := (y).getD i 0) (x := (x).getD j 0) (by omega) vS
              have htk := nv_take_succ (b := B) (x) j hjl'
              repeat first | (refine hK _ ?_; clear hK K) | simp only [Sv, ↓reduceIte, Nat.reduceEqDiff] | ((first | refine vm_reg (fun K hK => ?_) | refine vm_dreg (fun K hK => ?_) | refine vm_dregx (fun K hK => ?_) | refine clp_q ?_ | refine clq_mk (by assumption) ?_ | refine mcq_q ?_ | (apply mcr_mk; assumption) | (apply ocr_mk; assumption)); simp (disch := (first | omega | assumption)) only [S1, ↓reduceIte, Nat.reduceEqDiff, Nat.reduceAdd, Nat.reduceMul, Nat.reduceDiv, AOp.sb, AOp.mut, frzf, ↓Bool.false_eq_true, beq_self_eq_true, ite_self, Nat.reduceLeDiff, Int.reduceEq, Int.reduceSub, Int.reduceAdd, Int.reduceNeg, Int.reduceLT, Int.reduceLE, Nat.reduceLT, bz_P1, List.length_nil, hjl, tn_pp, lS, W_set, ← hla, ← hlb])
              refine hQ' _ (j + 1, S.set (i + j) (((x).getD j 0 * (y).getD i 0 + c + S.getD (i + j) 0) % 18446744073709551616), ((x).getD j 0 * (y).getD i 0 + c + S.getD (i + j) 0) / 18446744073709551616)
                ⟨by simp only; omega, by simp only [List.length_set]; exact lS, Lt_set wS _ _ (Nat.mod_lt _ (by decide)), hcl, ?_, fun k hk => by simp only; rw [getD_set_ne _ _ _ _ (by first | omega | (simp only at hk; omega))]; exact zS k hk⟩ (by simp only; omega) ?_
              · simp only []
                rw [htk, Nat.mul_add, Nat.mul_add, show i + (j + 1) = i + j + 1 from rfl]
                rw [show B ^ i * ((y).getD i 0 * (B ^ j * (x).getD j 0)) = B ^ (i + j) * ((x).getD j 0 * (y).getD i 0) from by rw [Nat.pow_add, Nat.mul_assoc, Nat.mul_left_comm ((y).getD i 0), Nat.mul_comm ((y).getD i 0)]]
                exact hst
              · simp (disch := (first | omega | assumption)) only [Sl, Sa, Sw, ↓reduceIte, Nat.reduceEqDiff, Nat.reduceLT, List.all_nil, List.all_cons, Nat.reduceBneDiff, Nat.reduceAdd, bne_iff_ne, ne_eq, reduceCtorEq, not_false_eq_true, not_true_eq_false, Bool.and_true, Bool.true_and, and_true, true_and, and_self, i_eq]
                repeat' first | rfl | omega | (simp only [List.length_append, List.length_cons, List.length_nil]; done) | apply And.intro
            · obtain rfl : j = lb := by omega
              have hz := zS (i + j) (Nat.le_refl _)
              have hset := nv_set (b := B) S (i + j) c (by omega)
              rw [hz, Nat.mul_zero, Nat.add_zero] at hset
              rw [show (x).take j = x from by rw [hlb, List.take_length]] at vS
              repeat first
                | (refine hK _ ?_; clear hK K)
                | ((first | refine vm_reg (fun K hK => ?_) | refine vm_dreg (fun K hK => ?_) | refine vm_dregx (fun K hK => ?_)); simp (disch := (first | omega | assumption)) only [S1, ↓reduceIte, Nat.reduceEqDiff, Nat.reduceAdd, Nat.reduceMul, Nat.reduceDiv, AOp.sb, AOp.mut, frzf, ↓Bool.false_eq_true, beq_self_eq_true, ite_self, Nat.reduceLeDiff, Int.reduceEq, Int.reduceSub, Int.reduceAdd, Int.reduceNeg, Int.reduceLT, Int.reduceLE, Nat.reduceLT, bz_P1, List.length_nil, hjl, ← hla, ← hlb]; refine hK _ ?_; clear hK K)
                | simp only [Sv, ↓reduceIte, Nat.reduceEqDiff]
              refine he' _ _ ?_
              repeat first
                | (refine hK _ ?_; clear hK K)
                | ((first | refine vm_reg (fun K hK => ?_) | refine vm_dreg (fun K hK => ?_) | refine vm_dregx (fun K hK => ?_)); simp (disch := (first | omega | assumption)) only [S1, ↓reduceIte, Nat.reduceEqDiff, Nat.reduceAdd, Nat.reduceMul, Nat.reduceDiv, AOp.sb, AOp.mut, frzf, ↓Bool.false_eq_true, beq_self_eq_true, ite_self, Nat.reduceLeDiff, Int.reduceEq, Int.reduceSub, Int.reduceAdd, Int.reduceNeg, Int.reduceLT, Int.reduceLE, Nat.reduceLT, bz_P1, List.length_nil, tn_pp, lS, W_set, ← hla, ← hlb]; refine hK _ ?_; clear hK K)
                | simp only [Sv, ↓reduceIte, Nat.reduceEqDiff]
              refine hQ _ (i + 1, S.set (i + j) c) ⟨by simp only; omega, by simp only [List.length_set]; exact lS, Lt_set wS _ _ hc, ?_, fun k hk => by simp only; rw [getD_set_ne _ _ _ _ (by first | omega | (simp only at hk; omega))]; exact zS k (by first | omega | (simp only at hk; omega))⟩ (by simp only; omega) ?_
              · simp only []
                rw [hset, vS, nv_take_succ (b := B) (y) i hil', Nat.add_mul, Nat.mul_assoc]
              · simp (disch := (first | omega | assumption)) only [Sl, Sa, Sw, ↓reduceIte, Nat.reduceEqDiff, Nat.reduceLT, List.all_nil, List.all_cons, Nat.reduceBneDiff, Nat.reduceAdd, bne_iff_ne, ne_eq, reduceCtorEq, not_false_eq_true, not_true_eq_false, Bool.and_true, Bool.true_and, and_true, true_and, and_self, i_eq]
                repeat' first | rfl | omega | (simp only [List.length_append, List.length_cons, List.length_nil]; done) | apply And.intro
          · obtain rfl : i = la := by omega
            rw [show (y).take i = y from by rw [hla, List.take_length]] at vR
            have htr := (trim_spec R (by omega)).frozen
            rw [tz_dg B2 wR, vR] at htr
            refine spQ (ai @hil (ai @lnilA @bz_P1)) ?_
            refine he _ _ ?_
            exact wdQ (ai @lnilA @bz_P1)
    · by_cases h0 : ((x).length : Int) = 0
      · have e : dg B (nv B (x) * nv B (y)) = [] := by rw [show x = [] from List.eq_nil_of_length_eq_zero (by omega), show nv B [] = 0 from rfl, Nat.zero_mul]; rfl
        rw [e]
        have q1 : ¬ (((y).length : Int) < 0) := by omega
        have q2 := q1
        repeat first
          | (refine hK _ ?_; clear hK K)
          | ((first | refine vm_reg (fun K hK => ?_) | refine vm_dreg (fun K hK => ?_) | refine vm_dregx (fun K hK => ?_)); simp (disch := (first | omega | assumption)) only [S1, ↓reduceIte, Nat.reduceEqDiff, Nat.reduceAdd, Nat.reduceMul, Nat.reduceDiv, AOp.sb, AOp.mut, frzf, ↓Bool.false_eq_true, beq_self_eq_true, ite_self, Nat.reduceLeDiff, Int.reduceEq, Int.reduceSub, Int.reduceAdd, Int.reduceNeg, Int.reduceLT, Int.reduceLE, Nat.reduceLT, bz_P1, List.length_nil, q1, q2, h0]; refine hK _ ?_; clear hK K)
          | simp only [Sv, ↓reduceIte, Nat.reduceEqDiff]
        exact rtQ (ai @lnilA @bz_P1)
      · by_cases h40 : (40 : Int) ≤ ((x).length : Int)
        · have hh := halves_spec k (by omega) IH (x) (y) hx hy (by omega) (by omega) (by omega)
          exact wdQ (ai @h40 (ai @h0 (ai @hsw (ai @lnilA @bz_P1))))
        · obtain ⟨la, hla⟩ : ∃ la, la = (x).length := ⟨_, rfl⟩
          obtain ⟨lb, hlb⟩ : ∃ lb, lb = (y).length := ⟨_, rfl⟩
          have hs2 := hsw
          rw [← hla, ← hlb] at hs2
          rw [← hla] at h0 h40
          repeat first
            | (refine hK _ ?_; clear hK K)
            | ((first | refine vm_reg (fun K hK => ?_) | refine vm_dreg (fun K hK => ?_) | refine vm_dregx (fun K hK => ?_)); simp (disch := (first | omega | assumption)) only [S1, ↓reduceIte, Nat.reduceEqDiff, Nat.reduceAdd, Nat.reduceMul, Nat.reduceDiv, AOp.sb, AOp.mut, frzf, ↓Bool.false_eq_true, beq_self_eq_true, ite_self, Nat.reduceLeDiff, Int.reduceEq, Int.reduceSub, Int.reduceAdd, Int.reduceNeg, Int.reduceLT, Int.reduceLE, Nat.reduceLT, bz_P1, List.length_nil, hs2, h0, h40, mk_W', tn_pp, ← hla, ← hlb]; refine hK _ ?_; clear hK K)
            | simp only [Sv, ↓reduceIte, Nat.reduceEqDiff]
          refine vm_loopA [] (Nat × List Nat) (fun s => ⟨[(1, .l 1 (W (y))), (5, .ow 1 0 (la + lb)), (35, .l 1 (W (x))), (36, .i .i64 (la : Int)), (37, .i .i64 (s.1 : Int))],
              [(0, some ⟨24, 1, W s.2, true, false⟩)], 1⟩)
            (fun s => s.1 ≤ la ∧ s.2.length = la + lb ∧ Wd s.2 ∧ nv B s.2 = nv B ((x).take s.1) * nv B (y) ∧ ∀ k, s.1 + lb ≤ k → s.2.getD k 0 = 0) (fun s => la - s.1) (0, List.replicate (la + lb) 0)
            ⟨Nat.zero_le _, by simp, Lt_rep (by decide), by rw [nv_rep, List.take_zero, show nv B [] = 0 from rfl, Nat.zero_mul], fun k hk => by simp only [List.getD_eq_getElem?_getD, List.getElem?_replicate]; split <;> rfl⟩ (by exact leQ) (by
            exact ltQ) ?_
          rintro ⟨i, R⟩ ⟨hi, lR, wR, vR, zR⟩ Q' hQ he hr
          simp only [] at hi lR wR vR zR ⊢
          by_cases hil : (i : Int) < (la : Int)
          · have hil' : i < (x).length := by omega
            have hw := Wd_get hx i
            repeat first
              | (refine hK _ ?_; clear hK K)
              | ((first | refine vm_reg (fun K hK => ?_) | refine vm_dreg (fun K hK => ?_) | refine vm_dregx (fun K hK => ?_)); simp (disch := (first | omega | assumption)) only [S1, ↓reduceIte, Nat.reduceEqDiff, Nat.reduceAdd, Nat.reduceMul, Nat.reduceDiv, AOp.sb, AOp.mut, frzf, ↓Bool.false_eq_true, beq_self_eq_true, ite_self, Nat.reduceLeDiff, Int.reduceEq, Int.reduceSub, Int.reduceAdd, Int.reduceNeg, Int.reduceLT, Int.reduceLE, Nat.reduceLT, bz_P1, List.length_nil, hil, ← hla, ← hlb]; refine hK _ ?_; clear hK K)
              | simp only [Sv, ↓reduceIte, Nat.reduceEqDiff]
            refine vm_loopA [] (Nat × List Nat × Nat) (fun s => ⟨[(1, .l 1 (W (y))), (5, .ow 1 0 (la + lb)), (35, .l 1 (W (x))), (36, .i .i64 (la : Int)), (37, .i .i64 (i : Int)), (6, .i .i64 (i : Int)), (7, .i .u64 (((x).getD i 0 : Nat) : Int)), (8, .i .u64 (s.2.2 : Int)), (42, .l 1 (W (y))), (43, .i .i64 (lb : Int)), (44, .i .i64 (s.1 : Int))],
                [(0, some ⟨24, 1, W s.2.1, true, false⟩)], 1⟩)
              (fun s => s.1 ≤ lb ∧ s.2.1.length = la + lb ∧ Wd s.2.1 ∧ s.2.2 < 18446744073709551616 ∧ nv B s.2.1 + B ^ (i + s.1) * s.2.2 = nv B ((x).take i) * nv B (y) + B ^ i * ((x).getD i 0 * nv B ((y).take s.1)) ∧ ∀ k, i + lb ≤ k → s.2.1.getD k 0 = 0) (fun s => lb - s.1) (0, R, 0)
              ⟨Nat.zero_le _, lR, wR, (show (0 : Nat) < 18446744073709551616 from by decide), by simp only [List.take_zero, show nv B [] = 0 from rfl, Nat.mul_zero, Nat.add_zero]; exact vR, zR⟩ (by exact leQ) (by
              exact ltQ) ?_
            rintro ⟨j, S, c⟩ ⟨hj, lS, wS, hc, vS, zS⟩ Q'' hQ' he' hr'
            simp only [] at hj lS wS hc vS zS ⊢
            by_cases hjl : (j : Int) < (lb : Int)
            · have hjl' : j < (y).length := by omega
              have hx2 := Wd_get hy j
              have hs := Wd_get wS (i + j)
              have hmw := mulW_spec ((y).getD j 0) ((x).getD i 0) c (S.getD (i + j) 0) hx2 hw hc hs
              have hcl := mulW_lt hx2 hw hc hs
              have hst := mul_step (l := S) (k := i + j) (w := (x).getD i 0) (x := (y).getD j 0) (by omega) vS
              have htk := nv_take_succ (b := B) (y) j hjl'
              repeat first | (refine hK _ ?_; clear hK K) | simp only [Sv, ↓reduceIte, Nat.reduceEqDiff] | ((first | refine vm_reg (fun K hK => ?_) | refine vm_dreg (fun K hK => ?_) | refine vm_dregx (fun K hK => ?_) | refine clp_q ?_ | refine clq_mk (by assumption) ?_ | refine mcq_q ?_ | (apply mcr_mk; assumption) | (apply ocr_mk; assumption)); simp (disch := (first | omega | assumption)) only [S1, ↓reduceIte, Nat.reduceEqDiff, Nat.reduceAdd, Nat.reduceMul, Nat.reduceDiv, AOp.sb, AOp.mut, frzf, ↓Bool.false_eq_true, beq_self_eq_true, ite_self, Nat.reduceLeDiff, Int.reduceEq, Int.reduceSub, Int.reduceAdd, Int.reduceNeg, Int.reduceLT, Int.reduceLE, Nat.reduceLT, bz_P1, List.length_nil, hjl, tn_pp, lS, W_set, ← hla, ← hlb])
              refine hQ' _ (j + 1, S.set (i + j) (((y).getD j 0 * (x).getD i 0 + c + S.getD (i + j) 0) % 18446744073709551616), ((y).getD j 0 * (x).getD i 0 + c + S.getD (i + j) 0) / 18446744073709551616)
                ⟨by simp only; omega, by simp only [List.length_set]; exact lS, Lt_set wS _ _ (Nat.mod_lt _ (by decide)), hcl, ?_, fun k hk => by simp only; rw [getD_set_ne _ _ _ _ (by first | omega | (simp only at hk; omega))]; exact zS k hk⟩ (by simp only; omega) ?_
              · simp only []
                rw [htk, Nat.mul_add, Nat.mul_add, show i + (j + 1) = i + j + 1 from rfl]
                rw [show B ^ i * ((x).getD i 0 * (B ^ j * (y).getD j 0)) = B ^ (i + j) * ((y).getD j 0 * (x).getD i 0) from by rw [Nat.pow_add, Nat.mul_assoc, Nat.mul_left_comm ((x).getD i 0), Nat.mul_comm ((x).getD i 0)]]
                exact hst
              · simp (disch := (first | omega | assumption)) only [Sl, Sa, Sw, ↓reduceIte, Nat.reduceEqDiff, Nat.reduceLT, List.all_nil, List.all_cons, Nat.reduceBneDiff, Nat.reduceAdd, bne_iff_ne, ne_eq, reduceCtorEq, not_false_eq_true, not_true_eq_false, Bool.and_true, Bool.true_and, and_true, true_and, and_self, i_eq]
                repeat' first | rfl | omega | (simp only [List.length_append, List.length_cons, List.length_nil]; done) | apply And.intro
            · obtain rfl : j = lb := by omega
              have hz := zS (i + j) (Nat.le_refl _)
              have hset := nv_set (b := B) S (i + j) c (by omega)
              rw [hz, Nat.mul_zero, Nat.add_zero] at hset
              rw [show (y).take j = y from by rw [hlb, List.take_length]] at vS
              repeat first
                | (refine hK _ ?_; clear hK K)
                | ((first | refine vm_reg (fun K hK => ?_) | refine vm_dreg (fun K hK => ?_) | refine vm_dregx (fun K hK => ?_)); simp (disch := (first | omega | assumption)) only [S1, ↓reduceIte, Nat.reduceEqDiff, Nat.reduceAdd, Nat.reduceMul, Nat.reduceDiv, AOp.sb, AOp.mut, frzf, ↓Bool.false_eq_true, beq_self_eq_true, ite_self, Nat.reduceLeDiff, Int.reduceEq, Int.reduceSub, Int.reduceAdd, Int.reduceNeg, Int.reduceLT, Int.reduceLE, Nat.reduceLT, bz_P1, List.length_nil, hjl, ← hla, ← hlb]; refine hK _ ?_; clear hK K)
                | simp only [Sv, ↓reduceIte, Nat.reduceEqDiff]
              refine he' _ _ ?_
              repeat first
                | (refine hK _ ?_; clear hK K)
                | ((first | refine vm_reg (fun K hK => ?_) | refine vm_dreg (fun K hK => ?_) | refine vm_dregx (fun K hK => ?_)); simp (disch := (first | omega | assumption)) only [S1, ↓reduceIte, Nat.reduceEqDiff, Nat.reduceAdd, Nat.reduceMul, Nat.reduceDiv, AOp.sb, AOp.mut, frzf, ↓Bool.false_eq_true, beq_self_eq_true, ite_self, Nat.reduceLeDiff, Int.reduceEq, Int.reduceSub, Int.reduceAdd, Int.reduceNeg, Int.reduceLT, Int.reduceLE, Nat.reduceLT, bz_P1, List.length_nil, tn_pp, lS, W_set, ← hla, ← hlb]; refine hK _ ?_; clear hK K)
                | simp only [Sv, ↓reduceIte, Nat.reduceEqDiff]
              refine hQ _ (i + 1, S.set (i + j) c) ⟨by simp only; omega, by simp only [List.length_set]; exact lS, Lt_set wS _ _ hc, ?_, fun k hk => by simp only; rw [getD_set_ne _ _ _ _ (by first | omega | (simp only at hk; omega))]; exact zS k (by first | omega | (simp only at hk; omega))⟩ (by simp only; omega) ?_
              · simp only []
                rw [hset, vS, nv_take_succ (b := B) (x) i hil', Nat.add_mul, Nat.mul_assoc]
              · simp (disch := (first | omega | assumption)) only [Sl, Sa, Sw, ↓reduceIte, Nat.reduceEqDiff, Nat.reduceLT, List.all_nil, List.all_cons, Nat.reduceBneDiff, Nat.reduceAdd, bne_iff_ne, ne_eq, reduceCtorEq, not_false_eq_true, not_true_eq_false, Bool.and_true, Bool.true_and, and_true, true_and, and_self, i_eq]
                repeat' first | rfl | omega | (simp only [List.length_append, List.length_cons, List.length_nil]; done) | apply And.intro
          · obtain rfl : i = la := by omega
            rw [show (x).take i = x from by rw [hla, List.take_length]] at vR
            have htr := (trim_spec R (by omega)).frozen
            rw [tz_dg B2 wR, vR] at htr
            refine spQ (ai @hil (ai @lnilA @bz_P1)) ?_
            refine he _ _ ?_
            exact wdQ (ai @lnilA @bz_P1)
theorem product_spec (x y : List Nat) (hx : Wd x) (hy : Wd y) (lx : x.length ≤ 100000000) (ly : y.length ≤ 100000000) : AFun Try.prog J0 59 [.l 1 (W x), .l 1 (W y)] (.l 1 (W (dg B (nv B x * nv B y)))) :=
  product_aux 100000000 (Nat.le_refl _) x y hx hy lx ly
def a34 : AC := .seq (.reg [qr 4 (.mv (.k .nl))])
 (.seq (.reg [qm 5 0,
 qr 6 (.call 28 [(1, (.t 5))]),
 qm 7 1,
 qr 8 (.call 28 [(1, (.t 7))]),
 qr 9 (.call 59 [(1, (.t 6)), (1, (.t 8))]),
 qm 4 9])
 (.ret))
theorem mul_spec (x y : List Nat) (hx : Wd x) (hy : Wd y) (lx : x.length ≤ 100000000) (ly : y.length ≤ 100000000) : AFun Try.prog J0 34 [.l 1 (W x), .l 1 (W y)] (.l 1 (W (dg B (nv B x * nv B y)))) := by
  have n1 := norm_dg x hx (by omega)
  have n2 := norm_dg y hy (by omega)
  have h := product_spec (dg B (nv B x)) (dg B (nv B y)) (Wd_dg _) (Wd_dg _) (Nat.le_trans (dg_len B2 (nv_lt hx)) lx) (Nat.le_trans (dg_len B2 (nv_lt hy)) ly)
  simp only [nv_dgB] at h
  refine mkQ fol J0s Try.func34 a34 ?_
  unfold a34
  simp only [init_eq, initE, qm, qr, qn]
  exact wdQ (ai @lnilA @bz_P1)
end Go.Proofs.Ytdaedplbhpiacaa
