/-
  zz.Pow.
-/
import Derived.Test.YtlhadigkmlldeaaGreatDoorZ4
namespace Go.Proofs.YtlhadigkmlldeaaGreatDoor
open Go Go.RowKit Ab
set_option linter.unusedSimpArgs false
set_option linter.unusedVariables false
set_option maxHeartbeats 10000000
theorem bz_Z9 : type_of% (And.intro @Bool.false_and (And.intro @wi (And.intro @tn_nat (And.intro @Nat.div_one (And.intro @Nat.mul_one (And.intro @W_len (And.intro @W_nf (And.intro @W_cell (And.intro @W_nil (And.intro @W_get (@nf_g))))))))))) := And.intro @Bool.false_and (And.intro @wi (And.intro @tn_nat (And.intro @Nat.div_one (And.intro @Nat.mul_one (And.intro @W_len (And.intro @W_nf (And.intro @W_cell (And.intro @W_nil (And.intro @W_get (@nf_g))))))))))

-- surd/mul.Square
def a153 : AC := .seq (.reg [qr 2 (.mv (.k .nl))])
 (.seq (.reg [qm 3 0,
 qm 4 0,
 qr 5 (.call 104 [(1, (.t 3)), (1, (.t 4))]),
 qm 2 5])
 (.ret))
theorem square_spec (x : List Nat) (hx : Wd x) (lx : x.length ≤ 100000000) : AFun Tryz.prog J0 153 [.l 1 (W x)] (.l 1 (W (dg B (nv B x * nv B x)))) := by
  have h := mul_spec x x hx hx lx lx
  refine mkQ fol J0s Tryz.func153 a153 ?_
  unfold a153
  simp only [init_eq, initE, qm, qr, qn]
  exact wdQ (ai @lnilA @bz_Z9)
theorem pow_B {u m e : Nat} (h : u < B ^ m) (h1 : 1 ≤ m) : u ^ e < B ^ (m * e + 1) := by
  have h2 : u ^ e ≤ (B ^ m) ^ e := Nat.pow_le_pow_left (Nat.le_of_lt h) e
  rw [← Nat.pow_mul] at h2
  exact Nat.lt_of_le_of_lt h2 (Nat.pow_lt_pow_right (by decide) (Nat.lt_succ_self _))
theorem band1 (k : Nat) (h : k < 9223372036854775808) : bits .and .i64 (k : Int) 1 = ((k % 2 : Nat) : Int) := by
  have e : (BitVec.ofNat 64 k &&& BitVec.ofNat 64 1).toNat = k % 2 := by
    rw [BitVec.toNat_and, BitVec.toNat_ofNat, BitVec.toNat_ofNat, Nat.mod_eq_of_lt (by omega : k < 2 ^ 64)]
    exact Nat.and_one_is_mod k
  have q : bits .and .i64 (k : Int) 1 = IntKind.i64.wrap (((BitVec.ofInt 64 (k : Int) &&& BitVec.ofInt 64 ((1 : Nat) : Int)).toNat : Nat) : Int) := rfl
  rw [q, BitVec.ofInt_natCast, BitVec.ofInt_natCast, e]
  exact wi (by omega)
theorem shr1 (k : Nat) : (k : Int).fdiv (2 ^ (min (1 : Int).toNat IntKind.i64.bits)) = ((k / 2 : Nat) : Int) := by
  rw [show min (1 : Int).toNat IntKind.i64.bits = 1 from rfl, Int.fdiv_eq_ediv_of_nonneg _ (by decide)]; rfl
theorem zI_pow (s : Bool) (u n : Nat) : zI (s && decide (n % 2 = 1)) (u ^ n) = (zI s u) ^ n := by
  induction n with
  | zero => simp [zI]
  | succ n ih =>
    rw [Int.pow_succ, ← ih]
    unfold zI
    rw [Nat.pow_succ]
    rcases Nat.mod_two_eq_zero_or_one n with h | h
    · have h2 : (n + 1) % 2 = 1 := by omega
      cases s <;> simp [h, h2, Int.natCast_mul, Int.mul_neg, Int.neg_mul, Int.neg_neg]
    · have h2 : (n + 1) % 2 = 0 := by omega
      cases s <;> simp [h, h2, Int.natCast_mul, Int.mul_neg, Int.neg_mul, Int.neg_neg]
-- surd/zz.Pow
def a112 : AC := .seq (.reg [qr 2 (.bx 25 (.t 0)),
 qr 4 (.al 25 [(.b false), (.l 1 [])]),
 qr 5 (.mv (.k (.i .i64 0)))])
 (.seq (.seq (.reg [qm 9 1,
 qr 10 (.bin .lss (.t 9) (.k (.i .i64 0))),
 qm 11 10,
 ⟨some 12, some (11, false), .mv (.t 1)⟩,
 ⟨some 13, some (11, false), .bin .gtr (.t 12) (.k (.i .i64 65536))⟩,
 qr 14 (.pick (.t 11) (.k (.b true)) (.t 13))])
 (.cond (.t 14)
 (.seq (.reg [qr 15 (.bld [(.b false), (.l 1 [])] []),
 qn (.st 2 (.t 4) (.t 15)),
 qr 5 (.mv (.k (.i .i64 3)))])
 (.ret))
 (.skip)))
 (.seq (.dreg [qr 16 (.call 77 [(1, (.k (.i .u64 1)))]),
 qr 17 (.fad 1 (.t 2)),
 qr 18 (.ld false 1 (.t 17)),
 qr 19 (.call 131 [(1, (.t 18))]),
 qm 6 16,
 qm 7 19])
 (.seq (.seq (.reg [qm 20 1,
 qm 8 20])
 (.blk 0
 (.loop
 (.seq (.seq (.reg [qm 21 8,
 qr 22 (.bin .gtr (.t 21) (.k (.i .i64 0)))])
 (.cond (.t 22)
 (.skip)
 (.exit 0)))
 (.seq (.blk 1
 (.seq (.seq (.reg [qm 25 8,
 qr 26 (.bin .and (.t 25) (.k (.i .i64 1))),
 qr 27 (.bin .eql (.t 26) (.k (.i .i64 1)))])
 (.cond (.t 27)
 (.reg [qm 28 6,
 qm 29 7,
 qr 30 (.call 104 [(1, (.t 28)), (1, (.t 29))]),
 qm 6 30])
 (.skip)))
 (.seq (.reg [qm 31 8,
 qr 32 (.bin .gtr (.t 31) (.k (.i .i64 1)))])
 (.cond (.t 32)
 (.reg [qm 33 7,
 qr 34 (.call 153 [(1, (.t 33))]),
 qm 7 34])
 (.skip)))))
 (.reg [qm 23 8,
 qr 24 (.bin .shr (.t 23) (.k (.i .u64 1))),
 qm 8 24]))))))
 (.seq (.reg [qr 35 (.fad 0 (.t 2)),
 qr 36 (.ld false 1 (.t 35)),
 qm 37 36,
 ⟨some 38, some (37, true), .mv (.t 1)⟩,
 ⟨some 39, some (37, true), .bin .and (.t 38) (.k (.i .i64 1))⟩,
 ⟨some 40, some (37, true), .bin .eql (.t 39) (.k (.i .i64 1))⟩,
 qr 41 (.pick (.t 37) (.t 40) (.k (.b false))),
 qm 42 6,
 qr 43 (.call 129 [(1, (.t 41)), (1, (.t 42))]),
 qn (.st 2 (.t 4) (.t 43)),
 qr 5 (.mv (.k (.i .i64 0)))])
 (.ret)))))
theorem zpowG_spec (s : Bool) (a : List Nat) (n m : Nat) (hm : m * (n + 1) + 1 ≤ 100000000) (h1 : 1 ≤ m) (hn : n ≤ 65536) (ha : Wd a) (la : a.length ≤ 1000000000) (hu : nv B a < B ^ m) : AFun Tryz.prog J0 112 [zL s a, .i .i64 (n : Int)] (.t [zN ((zv s a) ^ n), .i .i64 0]) := by
  have hmn : m ≤ m * (n + 1) := Nat.le_mul_of_pos_right m (by omega)
  have p0 := (natOf_spec 1 (by decide)).frozen
  have q0 := (norm_dg a ha (by omega)).frozen
  rw [show zv s a = zI s (nv B a) from rfl, ← zI_pow]
  generalize nv B a = u at *
  have hb : ∀ e, e ≤ n + 1 → (dg B (u ^ e)).length ≤ m * (n + 1) + 1 := fun e he => Nat.le_trans (dlen (pow_B hu h1)) (by have := Nat.mul_le_mul_left m he; omega)
  have hmul := fun e f (he : e ≤ n + 1) (hf : f ≤ n + 1) => mul_spec (dg B (u ^ e)) (dg B (u ^ f)) (Wd_dg _) (Wd_dg _) (Nat.le_trans (hb e he) hm) (Nat.le_trans (hb f hf) hm)
  have hsq := fun f (hf : f ≤ n + 1) => square_spec (dg B (u ^ f)) (Wd_dg _) (Nat.le_trans (hb f hf) hm)
  simp only [nv_dgB] at hmul hsq
  simp only [← Nat.pow_add] at hmul hsq
  have hof := zof_spec (s && decide (n % 2 = 1)) (u ^ n)
  have g1 : ¬ (n : Int) < 0 := by omega
  have g2 : ¬ (65536 : Int) < (n : Int) := by omega
  have bn := band1 n (by omega)
  have bne : (((n % 2 : Nat) : Int) = 1) = (n % 2 = 1) := propext (by omega)
  rw [show (1 : Nat) = u ^ 0 from rfl] at p0
  rw [show dg B u = dg B (u ^ 1) from by rw [Nat.pow_one]] at q0
  generalize zI (s && decide (n % 2 = 1)) (u ^ n) = res at *
  refine mkcQ fol J0s Tryz.func112 a112 [.c 4 true 2, .t 5] ?_
  unfold a112
  simp only [init_eq, initE, qm, qr, qn]
  refine wkQ (ai @g2 (ai @g1 (ai @lnilA @bz_Z9))) ?_
  refine vm_loopA [] (Nat × Nat × Nat) (fun x => ⟨[(1, .i .i64 (n : Int)), (2, .pt 0 0), (4, .pt 1 0), (6, .l 1 (W (dg B (u ^ x.2.1)))), (7, .l 1 (W (dg B (u ^ x.2.2)))), (8, .i .i64 (x.1 : Int))],
      [(0, some ⟨25, 2, [.b s, .l 1 (W a)], true, true⟩), (1, some ⟨25, 2, [.b false, .l 1 []], true, true⟩)], 2⟩)
    (fun x => x.2.1 + x.2.2 * x.1 = n ∧ x.2.2 ≤ n + 1 ∧ 1 ≤ x.2.2) (fun x => x.1) (n, 0, 1) ⟨by simp, by simp, by simp⟩ (by exact leQ) (by
    exact ltQ) ?_
  rintro ⟨k, e, f⟩ ⟨hk, hf, hf1⟩ Q' hQ he hr
  simp only [] at hk hf hf1 ⊢
  by_cases k0 : k = 0
  · subst k0
    rw [Nat.mul_zero, Nat.add_zero] at hk
    subst hk
    refine spQ (ai @lnilA @bz_Z9) ?_
    refine he _ _ ?_
    cases s with
    | false =>
      simp only [Bool.false_and] at hof
      exact wcQ (ai @lnilA @bz_Z9)
    | true =>
      simp only [Bool.true_and] at hof
      exact wcQ (ai @bne (ai @bn (ai @lnilA @bz_Z9)))
  · have hp : (0 : Int) < (k : Int) := by omega
    have hkn : k ≤ n := by
      have := Nat.mul_le_mul_right k hf1
      omega
    have bk := band1 k (by omega)
    have hen : e + f ≤ n := by
      have := Nat.mul_le_mul_left f (Nat.one_le_iff_ne_zero.2 k0)
      omega
    have hsh := shr1 k
    have hmu := hmul e f (by omega) (by omega)
    have hs2 := hsq f hf
    have kdm : 2 * (k / 2) + k % 2 = k := Nat.div_add_mod k 2
    have fk : f * k = f * (2 * (k / 2)) + f * (k % 2) := by rw [← Nat.mul_add, kdm]
    have f2 : (f + f) * (k / 2) = f * (2 * (k / 2)) := by rw [← Nat.two_mul, Nat.mul_comm 2 f, Nat.mul_assoc]
    rcases Nat.mod_two_eq_zero_or_one k with hpar | hpar
    · have k1 : (1 : Int) < (k : Int) := by omega
      have hff : f + f ≤ n := by
        have := Nat.mul_le_mul_left f (show 2 ≤ k by omega)
        omega
      rw [hpar] at bk fk
      refine wkQ (ai @hsh (ai @k1 (ai @bk (ai @hp (ai @lnilA @bz_Z9))))) ?_
      refine hQ _ (k / 2, e, f + f) ⟨by simp only; omega, by simp only; omega, by simp only; omega⟩ (by simp only; omega) ?_
      exact ltQ
    · rw [hpar] at bk fk
      by_cases k1 : (1 : Int) < (k : Int)
      · have hff : f + f ≤ n := by
          have := Nat.mul_le_mul_left f (show 2 ≤ k by omega)
          omega
        refine wkQ (ai @hsh (ai @k1 (ai @bk (ai @hp (ai @lnilA @bz_Z9))))) ?_
        refine hQ _ (k / 2, e + f, f + f) ⟨by simp only; omega, by simp only; omega, by simp only; omega⟩ (by simp only; omega) ?_
        exact ltQ
      · have hk20 : k / 2 = 0 := by omega
        have hf0 : f * (k / 2) = 0 := by rw [hk20, Nat.mul_zero]
        have hk11 : f * k = f := by rw [show k = 1 by omega, Nat.mul_one]
        refine wkQ (ai @hsh (ai @k1 (ai @bk (ai @hp (ai @lnilA @bz_Z9))))) ?_
        refine hQ _ (k / 2, e + f, f) ⟨by simp only; omega, by simp only; omega, by simp only; omega⟩ (by simp only; omega) ?_
        exact ltQ
theorem zpow_spec (s : Bool) (a : List Nat) (n m : Nat) (hm : m * (n + 1) + 1 ≤ 100000000) (h1 : 1 ≤ m) (hn : n ≤ 65536) (ha : Wd a) (la : a.length ≤ m) : AFun Tryz.prog J0 112 [zL s a, .i .i64 (n : Int)] (.t [zN ((zv s a) ^ n), .i .i64 0]) :=
  zpowG_spec s a n m hm h1 hn ha (by have := Nat.le_mul_of_pos_right m (show 0 < n + 1 by omega); omega) (nvlt ha la)
theorem zpowE_spec (s : Bool) (a : List Nat) (n : Int) (h : n < 0 ∨ 65536 < n) : AFun Tryz.prog J0 112 [zL s a, .i .i64 n] (.t [zN 0, .i .i64 3]) := by
  have e0 : zN 0 = .g [.b false, .l 1 []] := rfl
  by_cases h1 : n < 0
  · refine mkcQ fol J0s Tryz.func112 a112 [.c 4 true 2, .t 5] ?_
    unfold a112
    simp only [init_eq, initE, qm, qr, qn]
    exact pcQ (ai @e0 (ai @h1 (ai @lnilA @bz_Z9)))
  · have h2 : 65536 < n := by omega
    refine mkcQ fol J0s Tryz.func112 a112 [.c 4 true 2, .t 5] ?_
    unfold a112
    simp only [init_eq, initE, qm, qr, qn]
    exact pcQ (ai @e0 (ai @h2 (ai @h1 (ai @lnilA @bz_Z9))))
end Go.Proofs.YtlhadigkmlldeaaGreatDoor
