/-
  zz, surdref07: powers, shifts.
-/
import Derived.Test.YtfcpigjmagbnkaaGreatDoorZ5
import Derived.Test.YtfcpigjmagbnkaaGreatDoorZ6
import Derived.Test.YtfcpigjmagbnkaaGreatDoorGG
import Derived.Test.YtfcpigjmagbnkaaGreatDoorGE
import Derived.Test.YtfcpigjmagbnkaaGreatDoorGC
import Derived.Test.YtfcpigjmagbnkaaGreatDoorZ2
import Derived.Test.YtfcpigjmagbnkaaGreatDoorNM8
namespace Go.Proofs.YtfcpigjmagbnkaaGreatDoor
open Go Go.RowKit Ab
set_option linter.unusedSimpArgs false
set_option linter.unusedVariables false
set_option maxHeartbeats 10000000
theorem bz_Z10 : type_of% (And.intro @Bool.false_and (And.intro @wi (And.intro @tn_nat (And.intro @Nat.div_one (And.intro @Nat.mul_one (And.intro @W_len (And.intro @W_nf (And.intro @W_cell (And.intro @W_nil (And.intro @W_get (@nf_g))))))))))) := And.intro @Bool.false_and (And.intro @wi (And.intro @tn_nat (And.intro @Nat.div_one (And.intro @Nat.mul_one (And.intro @W_len (And.intro @W_nf (And.intro @W_cell (And.intro @W_nil (And.intro @W_get (@nf_g))))))))))
theorem shlR_ok {v n : Nat} (h : n ≤ 1048576) : shlR v (n : Int) = (dg B (v * 2 ^ n), 0) := by unfold shlR; rw [if_neg (by omega)]; rfl
theorem shrR_ok {v n : Nat} : shrR v (n : Int) = (dg B (v / 2 ^ n), 0) := by unfold shrR; rw [if_neg (by omega)]; rfl
theorem zI_mul2 (s : Bool) (u n : Nat) : zI s (u * 2 ^ n) = zI s u * 2 ^ n := by
  unfold zI; cases s <;> simp [Int.natCast_mul, Int.neg_mul]
def zlV (x : Int) (n : Int) : Int := if n < 0 ∨ 1048576 < n then 0 else x * 2 ^ n.toNat
def zlE (n : Int) : Int := if n < 0 ∨ 1048576 < n then 3 else 0
theorem shl_len' {u m n e : Nat} (hu : u < B ^ m) (hn : n ≤ 64 * e) : u * 2 ^ n < B ^ (m + e) := by
  have h2n : 2 ^ n ≤ B ^ e := by
    rw [B64, ← Nat.pow_mul]; exact Nat.pow_le_pow_right (by decide) hn
  rw [Nat.pow_add]
  exact Nat.lt_of_lt_of_le (Nat.mul_lt_mul_of_pos_right hu (Nat.two_pow_pos n)) (Nat.mul_le_mul_left _ h2n)
theorem shl_len {u m : Nat} {n : Nat} (hu : u < B ^ m) (hn : n ≤ 1048576) : u * 2 ^ n < B ^ (m + 16384) := shl_len' hu (by omega)
def a87 : AC := .seq (.reg [qr 2 (.bx 25 (.t 0)),
 qr 4 (.al 25 [(.b false), (.l 1 [])]),
 qr 5 (.mv (.k (.i .i64 0)))])
 (.seq (.seq (.reg [qm 8 1,
 qr 9 (.bin .lss (.t 8) (.k (.i .i64 0))),
 qm 10 9,
 ⟨some 11, some (10, false), .mv (.t 1)⟩,
 ⟨some 12, some (10, false), .bin .gtr (.t 11) (.k (.i .i64 1048576))⟩,
 qr 13 (.pick (.t 10) (.k (.b true)) (.t 12))])
 (.cond (.t 13)
 (.seq (.reg [qr 14 (.bld [(.b false), (.l 1 [])] []),
 qn (.st 2 (.t 4) (.t 14)),
 qr 5 (.mv (.k (.i .i64 3)))])
 (.ret))
 (.skip)))
 (.seq (.reg [qr 16 (.fad 1 (.t 2)),
 qr 17 (.ld false 1 (.t 16)),
 qm 18 1,
 qr 19 (.call 123 [(1, (.t 17)), (1, (.t 18))]),
 qm 15 19,
 qr 20 (.ext (.t 15) 0),
 qr 21 (.ext (.t 15) 1),
 qm 6 20,
 qm 7 21])
 (.seq (.seq (.reg [qm 22 7,
 qr 23 (.bin .neq (.t 22) (.k (.i .i64 0)))])
 (.cond (.t 23)
 (.seq (.reg [qr 24 (.bld [(.b false), (.l 1 [])] []),
 qn (.st 2 (.t 4) (.t 24)),
 qr 5 (.mv (.k (.i .i64 3)))])
 (.ret))
 (.skip)))
 (.seq (.reg [qr 25 (.fad 0 (.t 2)),
 qr 26 (.ld false 1 (.t 25)),
 qm 27 6,
 qr 28 (.call 96 [(1, (.t 26)), (1, (.t 27))]),
 qn (.st 2 (.t 4) (.t 28)),
 qr 5 (.mv (.k (.i .i64 0)))])
 (.ret)))))
theorem zshl_spec (s : Bool) (a : List Nat) (n : Int) (ha : Wd a) (la : a.length ≤ 1000000000) : AFun Tryz.prog J0 87 [zL s a, .i .i64 n] (.t [zN (zlV (zv s a) n), .i .i64 (zlE n)]) := by
  have h := shl_spec a n ha (by omega)
  rw [show zv s a = zI s (nv B a) from rfl]
  by_cases h1 : n < 0
  · rw [show zlV (zI s (nv B a)) n = 0 from if_pos (.inl h1), show zlE n = 3 from if_pos (.inl h1)]
    refine mkcQ fol J0s Tryz.func87 a87 [.c 4 true 2, .t 5] ?_
    unfold a87
    simp only [init_eq, initE, qm, qr, qn]
    exact pcQ (ai @zN_0 (ai @h1 (ai @lnilA @bz_Z10)))
  · by_cases h2 : 1048576 < n
    · rw [show zlV (zI s (nv B a)) n = 0 from if_pos (.inr h2), show zlE n = 3 from if_pos (.inr h2)]
      refine mkcQ fol J0s Tryz.func87 a87 [.c 4 true 2, .t 5] ?_
      unfold a87
      simp only [init_eq, initE, qm, qr, qn]
      exact pcQ (ai @zN_0 (ai @h2 (ai @h1 (ai @lnilA @bz_Z10))))
    · obtain ⟨k, rfl⟩ : ∃ k : Nat, n = (k : Int) := ⟨n.toNat, by omega⟩
      rw [shlR_ok (by omega)] at h
      have hof := zof_spec s (nv B a * 2 ^ k)
      rw [zI_mul2] at hof
      rw [show zlV (zI s (nv B a)) (k : Int) = zI s (nv B a) * 2 ^ k from if_neg (by omega), show zlE (k : Int) = 0 from if_neg (by omega)]
      generalize zI s (nv B a) * 2 ^ k = z at *
      refine mkcQ fol J0s Tryz.func87 a87 [.c 4 true 2, .t 5] ?_
      unfold a87
      simp only [init_eq, initE, qm, qr, qn]
      exact wcQ (ai @h2 (ai @h1 (ai @lnilA @bz_Z10)))
def zrV (x : Int) (n : Int) : Int := if n < 0 then 0 else x.fdiv (2 ^ n.toNat)
def zrE (n : Int) : Int := if n < 0 then 3 else 0
theorem zI_fdiv (s : Bool) (u n : Nat) : (zI s u).fdiv (2 ^ n) = zI s (u / 2 ^ n + if s = true ∧ u % 2 ^ n ≠ 0 then 1 else 0) := by
  have hp := Nat.two_pow_pos n
  have e : ((2 : Int) ^ n) = ((2 ^ n : Nat) : Int) := by rw [Int.natCast_pow]; rfl
  rw [e]
  generalize 2 ^ n = d at *
  rw [Int.fdiv_eq_ediv_of_nonneg _ (by omega)]
  cases s
  · simp [zI]
  · simp only [zI, if_true, true_and]
    have hd := Nat.div_add_mod u d
    have hm := Nat.mod_lt u hp
    generalize u / d = q at *
    generalize u % d = r at *
    by_cases hr : r = 0
    · subst hr
      rw [if_neg (by simp), ← hd]
      rw [show (-(((d * q + 0 : Nat) : Int))) = (d : Int) * (-(q : Int)) from by rw [Nat.add_zero, Int.natCast_mul, Int.mul_neg]]
      rw [Int.mul_ediv_cancel_left _ (by omega)]; rfl
    · rw [if_pos hr, ← hd]
      have e2 : (-(((d * q + r : Nat) : Int))) = ((d : Int) - r) + (d : Int) * (-(((q + 1 : Nat) : Int))) := by
        rw [Int.natCast_add, Int.natCast_mul, Int.natCast_add, Int.mul_neg, Int.mul_add]
        simp only [Int.natCast_one, Int.mul_one]
        omega
      rw [e2, Int.add_mul_ediv_left _ _ (by omega), Int.ediv_eq_zero_of_lt (by omega) (by omega), Int.zero_add]
theorem shr_min (s : Bool) (u n : Nat) : (zI s u).fdiv (2 ^ min n (bl u + 1)) = (zI s u).fdiv (2 ^ n) := by
  rcases Nat.le_total n (bl u + 1) with h | h
  · rw [Nat.min_eq_left h]
  · rw [Nat.min_eq_right h, zI_fdiv, zI_fdiv]
    have h1 := bl_lt u
    have h2 : u < 2 ^ (bl u + 1) := Nat.lt_of_lt_of_le h1 (Nat.pow_le_pow_right (by decide) (by omega))
    have h3 : u < 2 ^ n := Nat.lt_of_lt_of_le h2 (Nat.pow_le_pow_right (by decide) h)
    rw [Nat.div_eq_of_lt h2, Nat.div_eq_of_lt h3, Nat.mod_eq_of_lt h2, Nat.mod_eq_of_lt h3]
theorem mod_ct {u n : Nat} (h : u ≠ 0) : (u % 2 ^ n ≠ 0) ↔ ct u < n := by
  obtain ⟨m, hm⟩ := ct_ex h
  generalize ct u = k at *
  have hk := Nat.two_pow_pos k
  constructor
  · intro h1
    rcases Nat.lt_or_ge k n with h2 | h2
    · exact h2
    · exfalso; apply h1
      rw [hm, show 2 ^ k = 2 ^ n * 2 ^ (k - n) from by rw [← Nat.pow_add]; congr 1; omega, Nat.mul_assoc, Nat.mul_mod_right]
  · intro h1 h2
    have h3 : 2 ^ n = 2 ^ k * (2 * 2 ^ (n - k - 1)) := by rw [← Nat.pow_succ', ← Nat.pow_add]; congr 1; omega
    rw [hm, h3, Nat.mul_mod_mul_left] at h2
    have h4 : (2 * m + 1) % (2 * 2 ^ (n - k - 1)) % 2 = (2 * m + 1) % 2 := Nat.mod_mul_right_mod _ _ _
    rcases Nat.mul_eq_zero.1 h2 with h5 | h5
    · omega
    · rw [h5] at h4; omega
def a51 : AC := .seq (.reg [qr 2 (.bx 25 (.t 0)),
 qr 4 (.al 25 [(.b false), (.l 1 [])]),
 qr 5 (.mv (.k (.i .i64 0)))])
 (.seq (.seq (.reg [qm 8 1,
 qr 9 (.bin .lss (.t 8) (.k (.i .i64 0)))])
 (.cond (.t 9)
 (.seq (.reg [qr 10 (.bld [(.b false), (.l 1 [])] []),
 qn (.st 2 (.t 4) (.t 10)),
 qr 5 (.mv (.k (.i .i64 3)))])
 (.ret))
 (.skip)))
 (.seq (.reg [qm 11 1,
 qr 12 (.ld true 2 (.t 2)),
 qr 13 (.call 80 [(1, (.t 12))]),
 qr 14 (.bin .add (.t 13) (.k (.i .i64 1))),
 qr 15 (.mm false (.t 11) (.t 14)),
 qm 1 15])
 (.seq (.reg [qr 17 (.fad 1 (.t 2)),
 qr 18 (.ld false 1 (.t 17)),
 qm 19 1,
 qr 20 (.call 93 [(1, (.t 18)), (1, (.t 19))]),
 qm 16 20,
 qr 21 (.ext (.t 16) 0),
 qr 22 (.ext (.t 16) 1),
 qm 6 21,
 qm 7 22])
 (.seq (.seq (.reg [qm 23 7,
 qr 24 (.bin .neq (.t 23) (.k (.i .i64 0)))])
 (.cond (.t 24)
 (.seq (.reg [qr 25 (.bld [(.b false), (.l 1 [])] []),
 qn (.st 2 (.t 4) (.t 25)),
 qr 5 (.mv (.k (.i .i64 3)))])
 (.ret))
 (.skip)))
 (.seq (.seq (.reg [qr 26 (.ld true 2 (.t 2)),
 qr 27 (.call 78 [(1, (.t 26))]),
 qr 28 (.bin .lss (.t 27) (.k (.i .i64 0))),
 qm 29 28,
 ⟨some 30, some (29, true), .fad 1 (.t 2)⟩,
 ⟨some 31, some (29, true), .ld false 1 (.t 30)⟩,
 ⟨some 32, some (29, true), .call 94 [(1, (.t 31))]⟩,
 ⟨some 33, some (29, true), .mv (.t 1)⟩,
 ⟨some 34, some (29, true), .bin .lss (.t 32) (.t 33)⟩,
 qr 35 (.pick (.t 29) (.t 34) (.k (.b false)))])
 (.cond (.t 35)
 (.reg [qm 36 6,
 qr 37 (.call 88 [(1, (.k (.i .u64 1)))]),
 qr 38 (.call 95 [(1, (.t 36)), (1, (.t 37))]),
 qm 6 38])
 (.skip)))
 (.seq (.reg [qr 39 (.fad 0 (.t 2)),
 qr 40 (.ld false 1 (.t 39)),
 qm 41 6,
 qr 42 (.call 96 [(1, (.t 40)), (1, (.t 41))]),
 qn (.st 2 (.t 4) (.t 42)),
 qr 5 (.mv (.k (.i .i64 0)))])
 (.ret)))))))
theorem zshr_spec (s : Bool) (a : List Nat) (n : Int) (ha : Wd a) (la : a.length ≤ 100000000) (hn : n < 9223372036854775808) : AFun Tryz.prog J0 51 [zL s a, .i .i64 n] (.t [zN (zrV (zv s a) n), .i .i64 (zrE n)]) := by
  by_cases h1 : n < 0
  · rw [show zrV (zv s a) n = 0 from if_pos h1, show zrE n = 3 from if_pos h1]
    refine mkcQ fol J0s Tryz.func51 a51 [.c 4 true 2, .t 5] ?_
    unfold a51
    simp only [init_eq, initE, qm, qr, qn]
    exact pcQ (ai @zN_0 (ai @h1 (ai @lnilA @bz_Z10)))
  · obtain ⟨k, rfl⟩ : ∃ k : Nat, n = (k : Int) := ⟨n.toNat, by omega⟩
    rw [show zrV (zv s a) (k : Int) = (zv s a).fdiv (2 ^ k) from if_neg h1, show zrE (k : Int) = 0 from if_neg h1]
    have hbt := zbits_spec s a ha (by omega)
    have hbl := bl_len ha
    have hsg := zsign_spec s a ha (by omega)
    rw [show zv s a = zI s (nv B a) from rfl] at *
    rw [← shr_min s (nv B a) k]
    have hbw : IntKind.i64.wrap (((bl (nv B a) : Nat) : Int) + 1) = ((bl (nv B a) + 1 : Nat) : Int) := by rw [wi (by omega)]; omega
    have hmin : min ((k : Nat) : Int) ((bl (nv B a) + 1 : Nat) : Int) = ((min k (bl (nv B a) + 1) : Nat) : Int) := by omega
    have htw := twos_spec a ha (by omega)
    have hm1 := shr_spec a ((min k (bl (nv B a) + 1) : Nat) : Int) ha (by omega) (by omega)
    rw [shrR_ok] at hm1
    obtain ⟨m, hm⟩ : ∃ m, m = min k (bl (nv B a) + 1) := ⟨_, rfl⟩
    rw [← hm] at hm1 hmin ⊢
    have hof1 := (natOf_spec 1 (by decide)).frozen
    have hu := nv_lt ha
    have hlen := dlen (Nat.lt_of_le_of_lt (Nat.div_le_self (nv B a) (2 ^ m)) hu)
    have hadd := (add_spec (dg B (nv B a / 2 ^ m)) (dg B 1) (Wd_dg _) (Wd_dg _) (by omega) (by have := dlen (show 1 < B ^ 1 by decide); omega)).frozen
    rw [nv_dgB, nv_dgB] at hadd
    rw [zI_fdiv]
    by_cases hs : s = true ∧ nv B a ≠ 0
    · obtain ⟨rfl, hu0⟩ := hs
      have hsn : sgz (zI true (nv B a)) = -1 := if_pos (by show -(nv B a : Int) < 0; omega)
      rw [hsn] at hsg
      have key := mod_ct (n := m) hu0
      by_cases hc : ((ct (nv B a) : Nat) : Int) < (m : Int)
      · have hk : nv B a % 2 ^ m ≠ 0 := key.2 (by omega)
        rw [if_pos ⟨rfl, hk⟩]
        have hof := zof_spec true (nv B a / 2 ^ m + 1)
        refine mkcQ fol J0s Tryz.func51 a51 [.c 4 true 2, .t 5] ?_
        unfold a51
        simp only [init_eq, initE, qm, qr, qn]
        exact wcQ (ai @hc (ai @hmin (ai @hbw (ai @h1 (ai @lnilA @bz_Z10)))))
      · have hk : ¬ nv B a % 2 ^ m ≠ 0 := fun h => hc (by have := key.1 h; omega)
        rw [if_neg (fun h => hk h.2), Nat.add_zero]
        have hof := zof_spec true (nv B a / 2 ^ m)
        refine mkcQ fol J0s Tryz.func51 a51 [.c 4 true 2, .t 5] ?_
        unfold a51
        simp only [init_eq, initE, qm, qr, qn]
        exact wcQ (ai @hc (ai @hmin (ai @hbw (ai @h1 (ai @lnilA @bz_Z10)))))
    · have hk : ¬ (s = true ∧ nv B a % 2 ^ m ≠ 0) := fun h => hs ⟨h.1, fun h0 => h.2 (by rw [h0]; exact Nat.zero_mod _)⟩
      rw [if_neg hk, Nat.add_zero]
      have hsn : ¬ sgz (zI s (nv B a)) < 0 := by
        rw [sgz_neg]
        intro h
        unfold zI at h
        cases s
        · simp at h; omega
        · simp only [if_true] at h; exact hs ⟨rfl, by omega⟩
      have hof := zof_spec s (nv B a / 2 ^ m)
      generalize sgz (zI s (nv B a)) = g at *
      refine mkcQ fol J0s Tryz.func51 a51 [.c 4 true 2, .t 5] ?_
      unfold a51
      simp only [init_eq, initE, qm, qr, qn]
      exact wcQ (ai @hsn (ai @hmin (ai @hbw (ai @h1 (ai @lnilA @bz_Z10)))))
end Go.Proofs.YtfcpigjmagbnkaaGreatDoor
