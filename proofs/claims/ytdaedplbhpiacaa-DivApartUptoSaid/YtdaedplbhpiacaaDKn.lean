/-
  surdlaw04: the known fact, by what Quo answers of its own.
-/
import Derived.Test.YtdaedplbhpiacaaDQ7
import Derived.Test.YtdaedplbhpiacaaGE
namespace Go.Proofs.Ytdaedplbhpiacaa
open Go Go.RowKit Go.Proofs Ab
set_option linter.unusedSimpArgs false
set_option linter.unusedVariables false
set_option maxHeartbeats 10000000
theorem bz_DKn : type_of% (And.intro @wi (And.intro @tn_nat (And.intro @Nat.div_one (And.intro @Nat.mul_one (And.intro @W_len (And.intro @W_nf (And.intro @W_cell (And.intro @W_nil (@W_get))))))))) := And.intro @wi (And.intro @tn_nat (And.intro @Nat.div_one (And.intro @Nat.mul_one (And.intro @W_len (And.intro @W_nf (And.intro @W_cell (And.intro @W_nil (@W_get))))))))
theorem quo_fr (a b : List Nat) (ha : Wd a) (hb : Wd b) (la : a.length ≤ 1000000000) (lb : b.length ≤ 1000000000) :
    AFun Try.prog J0 6 [.l 1 (W a), .l 1 (W b)] (.t [.l 1 (W (qQ (nv B a) (nv B b))), .l 1 (W (qR (nv B a) (nv B b))), .i .i64 (qE (nv B b))]) := by
  refine .of0 rfl fun w H vs hJ hT hH hr => ?_
  obtain ⟨hr0, hr1⟩ := hr
  obtain ⟨v0, v1, rfl⟩ : ∃ v0 v1, vs = [v0, v1] := by
    match vs, hr0 with
    | [v, u], _ => exact ⟨v, u, rfl⟩
  refine (quo_raw hH (hr1 0 v0 _ rfl rfl) (hr1 1 v1 _ rfl rfl) ha hb la lb).mono ?_
  rintro e w' ⟨u1, u2, n1, n2, rfl, hB, o1, o2, _⟩
  refine ⟨_, rfl, hB, fun q => w.heap.size ≤ q ∧ q < w'.heap.size, fun q h => h, .inl ?_⟩
  have r1 : Rep0 w' (fun q => H q ∨ (w.heap.size ≤ q ∧ q < w'.heap.size)) u1 (.l 1 (W (qQ (nv B a) (nv B b)))) := row_l Nat.one_pos o1 (Wv_rep _) (own_mx o1) fun q hq => .inr (o1.lt q hq)
  have r2 : Rep0 w' (fun q => H q ∨ (w.heap.size ≤ q ∧ q < w'.heap.size)) u2 (.l 1 (W (qR (nv B a) (nv B b)))) := row_l Nat.one_pos o2 (Wv_rep _) (own_mx o2) fun q hq => .inr (o2.lt q hq)
  exact .t [u1, u2, .int .i64 (qE (nv B b))] _ rfl fun j v x h1 h2 => by
    match j, h1, h2 with
    | 0, h1, h2 => cases h1; cases h2; exact r1
    | 1, h1, h2 => cases h1; cases h2; exact r2
    | 2, h1, h2 => cases h1; cases h2; exact .i _ _
def a4 : AC := .seq (.reg [qr 0 (.mv (.k (.b false)))])
 (.seq (.reg [qr 5 (.bsl 24 1 3 [(.i .u64 0), (.i .u64 0), (.i .u64 0)] [(0, (.k (.i .u64 0))), (1, (.k (.i .u64 0))), (2, (.k (.i .u64 9223372036854775808)))]),
 qr 6 (.bsl 24 1 2 [(.i .u64 0), (.i .u64 0)] [(0, (.k (.i .u64 1))), (1, (.k (.i .u64 9223372036854775808)))]),
 qr 7 (.call 6 [(1, (.t 5)), (1, (.t 6))]),
 qm 4 7,
 qr 8 (.ext (.t 4) 0),
 qr 9 (.ext (.t 4) 1),
 qr 10 (.ext (.t 4) 2),
 qm 1 8,
 qm 2 9,
 qm 3 10])
 (.seq (.reg [qm 11 3,
 qr 12 (.bin .eql (.t 11) (.k (.i .i64 0))),
 qm 13 12,
 ⟨some 14, some (13, true), .mv (.t 1)⟩,
 ⟨some 15, some (13, true), .bsl 24 1 1 [(.i .u64 0)] [(0, (.k (.i .u64 18446744073709551615)))]⟩,
 ⟨some 16, some (13, true), .call 22 [(1, (.t 14)), (1, (.t 15))]⟩,
 qr 17 (.pick (.t 13) (.t 16) (.k (.b false))),
 qm 18 17,
 ⟨some 19, some (18, true), .mv (.t 2)⟩,
 ⟨some 20, some (18, true), .bsl 24 1 2 [(.i .u64 0), (.i .u64 0)] [(0, (.k (.i .u64 1))), (1, (.k (.i .u64 9223372036854775807)))]⟩,
 ⟨some 21, some (18, true), .call 22 [(1, (.t 19)), (1, (.t 20))]⟩,
 qr 22 (.pick (.t 18) (.t 21) (.k (.b false))),
 qm 0 22])
 (.ret)))
theorem dknown_spec : AFun Try.prog J0 4 [] (.b true) := by
  have w1 : Wd [0, 0, 9223372036854775808] := by intro x hx; simp at hx; show x < 18446744073709551616; omega
  have w2 : Wd [1, 9223372036854775808] := by intro x hx; simp at hx; show x < 18446744073709551616; omega
  have w3 : Wd [1, 9223372036854775807] := by intro x hx; simp at hx; show x < 18446744073709551616; omega
  have hq := quo_fr [0, 0, 9223372036854775808] [1, 9223372036854775808] w1 w2 (by simp) (by simp)
  have e1 : nv B [0, 0, 9223372036854775808] / nv B [1, 9223372036854775808] = 18446744073709551615 := by decide +kernel
  have e2 : nv B [0, 0, 9223372036854775808] % nv B [1, 9223372036854775808] = nv B [1, 9223372036854775807] := by decide +kernel
  have e3 : 0 < nv B [1, 9223372036854775808] := by decide +kernel
  rw [qE_p e3, qR_p e3, e2, qQ, e1, dg_one (by decide) (by decide), ← tz_dg B2 w3, show tz [1, 9223372036854775807] = [1, 9223372036854775807] from by decide +kernel] at hq
  refine mkQ fol J0s Try.func4 a4 ?_
  unfold a4
  simp only [init_eq, initE, qm, qr, qn]
  have zc1 := same_true (rfl : [18446744073709551615] = [18446744073709551615]) (by simp)
  have zc2 := same_true (rfl : [1, 9223372036854775807] = [1, 9223372036854775807]) (by simp)
  exact wdQ (ai @lconsA (ai @lnilA @bz_DKn))
end Go.Proofs.Ytdaedplbhpiacaa
