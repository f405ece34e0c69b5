/-
  gcd, zz.Gcd, surdref07.Gcd.
-/
import Derived.Test.YtbkpaeejjepnpaaGreatZ2
import Derived.Test.YtbkpaeejjepnpaaGreatGG
import Derived.Test.YtbkpaeejjepnpaaGreatGE
import Derived.Test.YtbkpaeejjepnpaaGreatGC
import Derived.Test.YtbkpaeejjepnpaaGreatNM8
import Derived.Test.YtbkpaeejjepnpaaGreatZC
namespace Go.Proofs.YtbkpaeejjepnpaaGreat
open Go Go.RowKit Ab
set_option linter.unusedSimpArgs false
set_option linter.unusedVariables false
set_option maxHeartbeats 10000000
theorem bz_Z7 : type_of% (And.intro @Bool.false_and (And.intro @wi (And.intro @tn_nat (And.intro @Nat.div_one (And.intro @Nat.mul_one (And.intro @W_len (And.intro @W_nf (And.intro @W_cell (And.intro @W_nil (And.intro @W_get (@nf_g))))))))))) := And.intro @Bool.false_and (And.intro @wi (And.intro @tn_nat (And.intro @Nat.div_one (And.intro @Nat.mul_one (And.intro @W_len (And.intro @W_nf (And.intro @W_cell (And.intro @W_nil (And.intro @W_get (@nf_g))))))))))
def a94 : AC := .seq (.reg [qr 4 (.mv (.k .nl))])
 (.seq (.reg [qm 8 0,
 qm 9 1,
 qr 10 (.call 104 [(1, (.t 8)), (1, (.t 9))]),
 qm 7 10,
 qr 11 (.ext (.t 7) 0),
 qr 12 (.ext (.t 7) 1),
 qm 5 11,
 qm 6 12])
 (.seq (.reg [qm 13 5,
 qm 4 13])
 (.ret)))
theorem gmod_spec (a b : List Nat) (ha : Wd a) (hb : Wd b) (la : a.length ≤ 1000000000) (lb : b.length ≤ 1000000000) :
    AFun Tryz.prog J0 94 [.l 1 (W a), .l 1 (W b)] (.l 1 (W (qR (nv B a) (nv B b)))) := by
  have h := mod_spec a b ha hb la lb
  refine mkQ fol J0s Tryz.func94 a94 ?_
  unfold a94
  simp only [init_eq, initE, qm, qr, qn]
  exact wdQ (ai @lnilA @bz_Z7)
def a83 : AC := .seq (.reg [qr 4 (.mv (.k .nl))])
 (.seq (.reg [qm 5 0,
 qr 6 (.call 85 [(1, (.t 5))]),
 qm 7 1,
 qr 8 (.call 85 [(1, (.t 7))]),
 qm 0 6,
 qm 1 8])
 (.seq (.blk 0
 (.loop
 (.seq (.seq (.reg [qm 9 1,
 qr 10 (.len (.t 9)),
 qr 11 (.bin .gtr (.t 10) (.k (.i .i64 0)))])
 (.cond (.t 11)
 (.skip)
 (.exit 0)))
 (.blk 1
 (.reg [qm 12 1,
 qm 13 0,
 qm 14 1,
 qr 15 (.call 94 [(1, (.t 13)), (1, (.t 14))]),
 qm 0 12,
 qm 1 15])))))
 (.seq (.reg [qm 16 0,
 qm 4 16])
 (.ret))))
theorem gcd_spec (a b : List Nat) (m : Nat) (hm : m ≤ 1000000000) (ha : Wd a) (hb : Wd b) (la : a.length ≤ m) (lb : b.length ≤ m) :
    AFun Tryz.prog J0 83 [.l 1 (W a), .l 1 (W b)] (.l 1 (W (dg B (Nat.gcd (nv B a) (nv B b))))) := by
  have h1 := (norm_dg a ha (by omega)).frozen
  have h2 := (norm_dg b hb (by omega)).frozen
  have l1 := nvlt ha la
  have l2 := nvlt hb lb
  have hmo := fun x y (hx : x < B ^ m) (hy : y < B ^ m) => gmod_spec (dg B x) (dg B y) (Wd_dg _) (Wd_dg _) (Nat.le_trans (dlen hx) hm) (Nat.le_trans (dlen hy) hm)
  simp only [nv_dgB] at hmo
  generalize nv B a = u at *
  generalize nv B b = v at *
  refine mkQ fol J0s Tryz.func83 a83 ?_
  unfold a83
  simp only [init_eq, initE, qm, qr, qn]
  refine wkQ (ai @lnilA @bz_Z7) ?_
  refine vm_loopA [] (Nat × Nat) (fun s => ⟨[(0, .l 1 (W (dg B s.1))), (1, .l 1 (W (dg B s.2)))], [], 0⟩)
    (fun s => s.1 < B ^ m ∧ s.2 < B ^ m ∧ Nat.gcd s.1 s.2 = Nat.gcd u v) (fun s => s.2) (u, v) ⟨l1, l2, rfl⟩ (by exact leQ) (by
    simp (disch := (first | omega | assumption)) only [Sl, Sa, Sw, ↓reduceIte, Nat.reduceEqDiff, Nat.reduceLT, List.all_nil, List.all_cons, Nat.reduceBneDiff, Nat.reduceAdd, bne_iff_ne, ne_eq, reduceCtorEq, not_false_eq_true, not_true_eq_false, Bool.and_true, Bool.true_and, and_true, true_and, and_self, i_eq]
    try rfl) ?_
  rintro ⟨x, y⟩ ⟨hx, hy, hg⟩ Q' hQ he hr
  simp only [] at hx hy hg ⊢
  by_cases h0 : y = 0
  · subst h0
    rw [Nat.gcd_zero_right] at hg
    have hp : ¬ (0 : Int) < (((dg B 0).length : Nat) : Int) := by rw [dg_zero]; decide
    rw [hg]
    refine spQ (ai @hp (ai @lnilA @bz_Z7)) ?_
    refine he _ _ ?_
    exact pdQ (ai @lnilA @bz_Z7)
  · have hp : 0 < y := Nat.pos_of_ne_zero h0
    have hc := hmo x y hx hy
    rw [qR_p hp] at hc
    have hp2 := dg_pos (n := y)
    have hlt := Nat.mod_lt x hp
    refine wkQ (ai @hp (ai @hp2 (ai @lnilA @bz_Z7))) ?_
    refine hQ _ (y, x % y) ⟨hy, Nat.lt_trans hlt hy, ?_⟩ hlt ?_
    · simp only []
      rw [← hg, Nat.gcd_comm x y, Nat.gcd_rec y x, Nat.gcd_comm]
    · simp (disch := (first | omega | assumption)) only [Sl, Sa, Sw, ↓reduceIte, Nat.reduceEqDiff, Nat.reduceLT, List.all_nil, List.all_cons, Nat.reduceBneDiff, Nat.reduceAdd, bne_iff_ne, ne_eq, reduceCtorEq, not_false_eq_true, not_true_eq_false, Bool.and_true, Bool.true_and, and_true, true_and, and_self, i_eq]
      repeat' first | rfl | omega | (simp only [List.length_append, List.length_cons, List.length_nil]; done) | apply And.intro
end Go.Proofs.YtbkpaeejjepnpaaGreat
