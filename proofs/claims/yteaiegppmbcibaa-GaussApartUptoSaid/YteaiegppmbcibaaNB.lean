/-
  nat, surdref02: words, plain ints, bits, how often 2 divides.
-/
import Derived.Test.YteaiegppmbcibaaGD
import Derived.Test.YteaiegppmbcibaaGG
import Derived.Test.YteaiegppmbcibaaGH
namespace Go.Proofs.Yteaiegppmbcibaa
open Go Go.RowKit Ab
set_option linter.unusedSimpArgs false
set_option linter.unusedVariables false
set_option maxHeartbeats 10000000
theorem bz_NB : type_of% (And.intro @wi (And.intro @tn_nat (And.intro @Nat.div_one (And.intro @Nat.mul_one (And.intro @W_len (And.intro @W_nf (And.intro @W_cell (And.intro @W_nil (And.intro @W_get (And.intro @Bl_len (And.intro @Bl_nf (@Bl_nil)))))))))))) := And.intro @wi (And.intro @tn_nat (And.intro @Nat.div_one (And.intro @Nat.mul_one (And.intro @W_len (And.intro @W_nf (And.intro @W_cell (And.intro @W_nil (And.intro @W_get (And.intro @Bl_len (And.intro @Bl_nf (@Bl_nil)))))))))))
def a54 : AC := .seq (.reg [qr 2 (.mv (.k (.i .u64 0))),
 qr 3 (.mv (.k (.i .i64 0)))])
 (.seq (.reg [qm 5 0,
 qr 6 (.call 67 [(1, (.t 5))]),
 qm 4 6])
 (.seq (.seq (.reg [qm 7 4,
 qr 8 (.len (.t 7))])
 (.blk 0
 (.seq (.reg [qr 10 (.bin .eql (.t 8) (.k (.i .i64 0))),
 qm 9 10])
 (.cond (.t 9)
 (.seq (.reg [qr 2 (.mv (.k (.i .u64 0))),
 qr 3 (.mv (.k (.i .i64 0)))])
 (.ret))
 (.seq (.reg [qr 12 (.bin .eql (.t 8) (.k (.i .i64 1))),
 qm 11 12])
 (.cond (.t 11)
 (.seq (.reg [qm 13 4,
 qr 14 (.idx 1 (.t 13) (.k (.i .i64 0))),
 qr 15 (.ld false 1 (.t 14)),
 qm 2 15,
 qr 3 (.mv (.k (.i .i64 0)))])
 (.ret))
 (.skip)))))))
 (.seq (.reg [qr 2 (.mv (.k (.i .u64 0))),
 qr 3 (.mv (.k (.i .i64 13)))])
 (.ret))))
theorem nword_spec (a : List Nat) (ha : Wd a) (la : a.length ≤ 100000000000) :
    AFun Try.prog J0 54 [.l 1 (W a)] (.t [.i .u64 ((wdW (nv B a) : Nat) : Int), .i .i64 (wdE (nv B a))]) := by
  have hn := trim_spec a (by omega)
  rw [tz_dg B2 ha] at hn
  generalize nv B a = u at *
  refine mkQ fol J0s Try.func54 a54 ?_
  unfold a54
  simp only [init_eq, initE, qm, qr, qn]
  by_cases h0 : u = 0
  · subst h0
    rw [dg_zero] at hn
    have z1 : wdW 0 = 0 := rfl
    have z2 : wdE 0 = 0 := rfl
    exact wdQ (ai @z2 (ai @z1 (ai @lnilA @bz_NB)))
  · by_cases h1 : u < 18446744073709551616
    · rw [dg_one (by omega) h1] at hn
      rw [show wdW u = u from if_pos h1, show wdE u = 0 from if_pos h1]
      exact wdQ (ai @getD_z (ai @Int.toNat_zero (ai @W1 (ai @lconsA (ai @lnilA @bz_NB)))))
    · have hl := dg_big h1
      have hl2 : ¬ ((dg B u).length : Int) = 0 := by omega
      have hl3 : ¬ ((dg B u).length : Int) = 1 := by omega
      rw [show wdW u = 0 from if_neg h1, show wdE u = 13 from if_neg h1]
      exact wdQ (ai @hl3 (ai @hl2 (ai @lnilA @bz_NB)))
end Go.Proofs.Yteaiegppmbcibaa
