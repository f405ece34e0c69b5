/-
  nat: how many bits.
-/
import Derived.Test.YtbkpaeejjepnpaaGreatGG
namespace Go.Proofs.YtbkpaeejjepnpaaGreat
open Go Go.RowKit Ab
set_option linter.unusedSimpArgs false
set_option linter.unusedVariables false
set_option maxHeartbeats 10000000
theorem bz_Zb : type_of% (And.intro @wi (And.intro @tn_nat (And.intro @Nat.div_one (And.intro @Nat.mul_one (And.intro @W_len (And.intro @W_nf (And.intro @W_cell (And.intro @W_nil (@W_get))))))))) := And.intro @wi (And.intro @tn_nat (And.intro @Nat.div_one (And.intro @Nat.mul_one (And.intro @W_len (And.intro @W_nf (And.intro @W_cell (And.intro @W_nil (@W_get))))))))
theorem bl_dvd {a : List Nat} (ha : Wd a) (h0 : 0 < (tz a).length) : ((((tz a).length : Nat) : Int) - 1) * 64 + ((bl (a.getD ((tz a).length - 1) 0) : Nat) : Int) = ((bl (nv B a) : Nat) : Int) := by
  have hne : tz a ≠ [] := fun h => by rw [h] at h0; simp at h0
  have ht := nv_top (b := B) (tz_tz a) hne
  rw [nv_tz] at ht
  have hl := nv_lt (Lt_tz ha)
  rw [nv_tz] at hl
  obtain ⟨t, hT⟩ : ∃ t, (tz a).length = t + 1 := ⟨(tz a).length - 1, by omega⟩
  rw [hT] at ht hl ⊢
  rw [Nat.add_sub_cancel] at ht ⊢
  have hd := nv_digit (b := B) (by decide) ha t
  rw [Nat.mod_eq_of_lt ((Nat.div_lt_iff_lt_mul (Nat.pow_pos (by decide))).2 (by rw [← Nat.pow_succ']; exact hl))] at hd
  have hp : B ^ t = 2 ^ (64 * t) := by rw [B64, ← Nat.pow_mul]
  have := bl_div (x := nv B a) (n := 64 * t) (by rw [← hp]; exact ht)
  rw [hd, this, ← hp]; omega
def a89 : AC := .seq (.reg [qr 2 (.mv (.k (.i .i64 0)))])
 (.seq (.reg [qm 4 0,
 qr 5 (.call 101 [(1, (.t 4))]),
 qm 3 5])
 (.seq (.seq (.reg [qm 6 3,
 qr 7 (.bin .eql (.t 6) (.k (.i .i64 0)))])
 (.cond (.t 7)
 (.seq (.reg [qr 2 (.mv (.k (.i .i64 0)))])
 (.ret))
 (.skip)))
 (.seq (.reg [qm 8 3,
 qr 9 (.bin .sub (.t 8) (.k (.i .i64 1))),
 qr 10 (.bin .mul (.t 9) (.k (.i .i64 64))),
 qm 11 0,
 qm 12 3,
 qr 13 (.bin .sub (.t 12) (.k (.i .i64 1))),
 qr 14 (.idx 1 (.t 11) (.t 13)),
 qr 15 (.ld false 1 (.t 14)),
 qr 16 (.call 102 [(1, (.t 15))]),
 qr 17 (.bin .add (.t 10) (.t 16)),
 qm 2 17])
 (.ret))))
theorem limbBits_spec (a : List Nat) (ha : Wd a) (la : a.length ≤ 10000000000) : AFun Tryz.prog J0 89 [.l 1 (W a)] (.i .i64 ((bl (nv B a) : Nat) : Int)) := by
  have ht := top_spec a (by omega)
  have hl := tz_len a
  refine mkQ fol J0s Tryz.func89 a89 ?_
  unfold a89
  simp only [init_eq, initE, qm, qr, qn]
  by_cases h0 : (((tz a).length : Nat) : Int) = 0
  · have e : bl (nv B a) = 0 := by rw [← nv_tz, List.eq_nil_of_length_eq_zero (by omega : (tz a).length = 0)]; rfl
    rw [e]
    exact wdQ (ai @h0 (ai @lnilA @bz_Zb))
  · have e := bl_dvd ha (by omega)
    have hb := Wd_get ha ((tz a).length - 1)
    have h64 := bl_64 hb
    have hg := len64_spec (a.getD ((tz a).length - 1) 0) hb
    have hidx : ((((tz a).length : Nat) : Int) - 1).toNat = (tz a).length - 1 := by omega
    exact wdQ (ai @e (ai @hidx (ai @h0 (ai @lnilA @bz_Zb))))
def a70 : AC := .seq (.reg [qr 2 (.mv (.k (.i .i64 0)))])
 (.seq (.reg [qm 3 0,
 qr 4 (.call 89 [(1, (.t 3))]),
 qm 2 4])
 (.ret))
theorem natBits_spec (a : List Nat) (ha : Wd a) (la : a.length ≤ 10000000000) : AFun Tryz.prog J0 70 [.l 1 (W a)] (.i .i64 ((bl (nv B a) : Nat) : Int)) := by
  have h := limbBits_spec a ha la
  refine mkQ fol J0s Tryz.func70 a70 ?_
  unfold a70
  simp only [init_eq, initE, qm, qr, qn]
  exact wdQ (ai @lnilA @bz_Zb)
theorem bl_z {n : Nat} : (((bl n : Nat) : Int) = 0) = (n = 0) := propext ⟨fun h => by
  rcases Nat.eq_zero_or_pos n with h1 | h1
  · exact h1
  · have := bl_pos (x := n) (by omega); omega, fun h => by rw [h]; rfl⟩
end Go.Proofs.YtbkpaeejjepnpaaGreat
