/-
  surdref02: shifts.
-/
import Derived.Test.YtdafakcccjjpiaaGH
import Derived.Test.YtdafakcccjjpiaaGE
namespace Go.Proofs.Ytdafakcccjjpiaa
open Go Go.RowKit Ab
set_option linter.unusedSimpArgs false
set_option linter.unusedVariables false
set_option maxHeartbeats 10000000
theorem bz_RSh : type_of% (And.intro @W_len (And.intro @D_len (And.intro @Bl_len (And.intro @Nat.div_one (And.intro @Nat.mul_one (And.intro @tn_nat (And.intro @W_nf (And.intro @D_nf (And.intro @Bl_nf (And.intro @W_nil (And.intro @D_nil (And.intro @Bl_nil (And.intro @wi (@nv_dgB)))))))))))))) := And.intro @W_len (And.intro @D_len (And.intro @Bl_len (And.intro @Nat.div_one (And.intro @Nat.mul_one (And.intro @tn_nat (And.intro @W_nf (And.intro @D_nf (And.intro @Bl_nf (And.intro @W_nil (And.intro @D_nil (And.intro @Bl_nil (And.intro @wi (@nv_dgB)))))))))))))
theorem mn (a b : Nat) : min (a : Int) (b : Int) = ((min a b : Nat) : Int) := by omega
def a19 : AC := .seq (.reg [qr 4 (.mv (.k .nl)),
 qr 5 (.mv (.k (.i .i64 0)))])
 (.seq (.seq (.reg [qm 7 1,
 qr 8 (.bin .lss (.t 7) (.k (.i .i64 0))),
 qm 9 8,
 ⟨some 10, some (9, false), .mv (.t 1)⟩,
 ⟨some 11, some (9, false), .bin .gtr (.t 10) (.k (.i .i64 1048576))⟩,
 qr 12 (.pick (.t 9) (.k (.b true)) (.t 11))])
 (.cond (.t 12)
 (.seq (.reg [qr 4 (.mv (.k .nl)),
 qr 5 (.mv (.k (.i .i64 3)))])
 (.ret))
 (.skip)))
 (.seq (.reg [qm 13 0,
 qr 14 (.call 40 [(1, (.t 13))]),
 qm 6 14])
 (.seq (.seq (.reg [qm 15 6,
 qr 16 (.len (.t 15)),
 qr 17 (.bin .eql (.t 16) (.k (.i .i64 0)))])
 (.cond (.t 17)
 (.seq (.reg [qr 4 (.mv (.k .nl)),
 qr 5 (.mv (.k (.i .i64 0)))])
 (.ret))
 (.skip)))
 (.seq (.reg [qm 18 1,
 qr 19 (.mk 4 1 1 [(.b false)] (.t 18) (.t 18)),
 qm 20 6,
 qr 21 (.app 4 1 1 (.t 19) (.t 20)),
 qr 22 (.call 41 [(1, (.t 21))]),
 qm 4 22,
 qr 5 (.mv (.k (.i .i64 0)))])
 (.ret)))))
theorem rshl_spec (a : List Nat) (n : Int) (ha : Wd a) (la : a.length ≤ 1000000000) : AFun Try.prog J0 19 [.l 1 (W a), .i .i64 n] (.t [.l 1 (W (shlR (nv B a) n).1), .i .i64 (shlR (nv B a) n).2]) := by
  refine mkQ fol J0s Try.func19 a19 ?_
  unfold a19
  simp only [init_eq, initE, qm, qr, qn]
  by_cases h1 : n < 0
  · rw [show shlR (nv B a) n = ([], 3) from if_pos (.inl h1)]
    exact pdQ (ai @h1 @bz_RSh)
  · by_cases h2 : 1048576 < n
    · rw [show shlR (nv B a) n = ([], 3) from if_pos (.inr h2)]
      exact pdQ (ai @h2 (ai @h1 @bz_RSh))
    · rw [show shlR (nv B a) n = (dg B (nv B a * 2 ^ n.toNat), 0) from if_neg (by omega)]
      obtain ⟨k, rfl⟩ : ∃ k : Nat, n = (k : Int) := ⟨n.toNat, by omega⟩
      rw [show ((k : Nat) : Int).toNat = k from rfl]
      have hl := dg2_len ha
      have hr := row_spec a ha (by omega)
      have hb : Lt 2 (dg 2 (nv B a)) := dg_Lt (by decide) _
      have hv : nv 2 (dg 2 (nv B a)) = nv B a := nv_dg (by decide) _
      generalize dg 2 (nv B a) = row at hl hr hb hv
      by_cases h0 : (row.length : Int) = 0
      · have hn : row = [] := List.eq_nil_of_length_eq_zero (by omega)
        have e : dg B (nv B a * 2 ^ k) = [] := by rw [← hv, hn]; simp [nv, dg_zero]
        exact wdQ (ai @e (ai @h0 (ai @h2 (ai @h1 @bz_RSh))))
      · have e : nv 2 (List.replicate k 0 ++ row) = nv B a * 2 ^ k := by rw [nv_app, nv_rep, List.length_replicate, hv, Nat.zero_add, Nat.mul_comm]
        have lrep : (List.replicate k 0).length = k := by simp
        have zc1 := ofRow_spec (List.replicate k 0 ++ row) (Lt_app.2 ⟨Lt_rep (by decide), hb⟩) (by rw [List.length_append, lrep]; omega)
        exact wdQ (ai @e (ai @Bl_cell (ai @Bl_app (ai @lrep (ai @mk_Bl (ai @h0 (ai @h2 (ai @h1 @bz_RSh))))))))
def a18 : AC := .seq (.reg [qr 4 (.mv (.k .nl)),
 qr 5 (.mv (.k .nl)),
 qr 6 (.mv (.k (.i .i64 0)))])
 (.seq (.seq (.reg [qm 8 1,
 qr 9 (.bin .lss (.t 8) (.k (.i .i64 0)))])
 (.cond (.t 9)
 (.seq (.reg [qr 4 (.mv (.k .nl)),
 qr 5 (.mv (.k .nl)),
 qr 6 (.mv (.k (.i .i64 3)))])
 (.ret))
 (.skip)))
 (.seq (.reg [qm 10 0,
 qr 11 (.call 40 [(1, (.t 10))]),
 qm 7 11])
 (.seq (.reg [qm 12 1,
 qm 13 7,
 qr 14 (.len (.t 13)),
 qr 15 (.mm false (.t 12) (.t 14)),
 qm 1 15])
 (.seq (.dreg [qm 16 7,
 qm 17 1,
 qr 18 (.sub 1 (.t 16) (some (.t 17)) none),
 qr 19 (.call 41 [(1, (.t 18))]),
 qm 20 7,
 qm 21 1,
 qr 22 (.sub 1 (.t 20) none (some (.t 21))),
 qr 23 (.call 41 [(1, (.t 22))]),
 qm 4 19,
 qm 5 23,
 qr 6 (.mv (.k (.i .i64 0)))])
 (.ret)))))
theorem rcut_spec (a : List Nat) (n : Int) (ha : Wd a) (la : a.length ≤ 1000000000) (hn : n < 9223372036854775808) : AFun Try.prog J0 18 [.l 1 (W a), .i .i64 n] (.t [.l 1 (W (shrR (nv B a) n).1), .l 1 (W (lowR (nv B a) n)), .i .i64 (shrR (nv B a) n).2]) := by
  refine mkQ fol J0s Try.func18 a18 ?_
  unfold a18
  simp only [init_eq, initE, qm, qr, qn]
  by_cases h1 : n < 0
  · have e : shrR (nv B a) n = ([], 3) := if_pos h1
    have e2 : lowR (nv B a) n = [] := if_pos h1
    rw [e, e2]
    exact pdQ (ai @h1 @bz_RSh)
  · have e : shrR (nv B a) n = (dg B (nv B a / 2 ^ n.toNat), 0) := if_neg h1
    have e2 : lowR (nv B a) n = dg B (nv B a % 2 ^ n.toNat) := if_neg h1
    rw [e, e2]
    obtain ⟨k, rfl⟩ : ∃ k : Nat, n = (k : Int) := ⟨n.toNat, by omega⟩
    rw [show ((k : Nat) : Int).toNat = k from rfl]
    have hl := dg2_len ha
    have hr := row_spec a ha (by omega)
    have hb : Lt 2 (dg 2 (nv B a)) := dg_Lt (by decide) _
    have hv : nv 2 (dg 2 (nv B a)) = nv B a := nv_dg (by decide) _
    generalize dg 2 (nv B a) = row at hl hr hb hv
    have hvl := nv_lt hb
    have f1 : nv 2 (row.drop (min k row.length)) = nv B a / 2 ^ k := by
      rw [← hv]
      rcases Nat.le_total k row.length with h | h
      · rw [Nat.min_eq_left h, nv_div (by decide) hb]
      · rw [Nat.min_eq_right h, List.drop_length, Nat.div_eq_of_lt (Nat.lt_of_lt_of_le hvl (Nat.pow_le_pow_right (by decide) h))]; rfl
    have f2 : nv 2 (row.take (min k row.length)) = nv B a % 2 ^ k := by
      rw [← hv]
      rcases Nat.le_total k row.length with h | h
      · rw [Nat.min_eq_left h, nv_mod (by decide) hb]
      · rw [Nat.min_eq_right h, List.take_length, Nat.mod_eq_of_lt (Nat.lt_of_lt_of_le hvl (Nat.pow_le_pow_right (by decide) h))]
    have hml : min k row.length ≤ row.length := Nat.min_le_right _ _
    generalize hm : min k row.length = m at f1 f2 hml
    have zc2 := ofRow_spec (row.drop m) (Lt_drop hb _) (by rw [List.length_drop]; omega)
    have zc3 := ofRow_spec (row.take m) (Lt_take hb _) (by rw [List.length_take]; omega)
    exact wdQ (ai @f2 (ai @Bl_take (ai @f1 (ai @Bl_drop (ai @hm (ai @mn (ai @h1 @bz_RSh)))))))
end Go.Proofs.Ytdafakcccjjpiaa
