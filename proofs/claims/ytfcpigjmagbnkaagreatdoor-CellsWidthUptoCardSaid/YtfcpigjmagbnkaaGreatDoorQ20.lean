/-
  Rational numbers: floors and ceilings of any shift, by the program and by the document.
-/
import Derived.Test.YtfcpigjmagbnkaaGreatDoorQE
namespace Go.Proofs.YtfcpigjmagbnkaaGreatDoor
open Go Go.RowKit Ab
set_option linter.unusedSimpArgs false
set_option linter.unusedVariables false
set_option maxHeartbeats 10000000
theorem bz_Q20 : type_of% (And.intro @W_len (And.intro @D_len (And.intro @Nat.div_one (And.intro @Nat.mul_one (And.intro @tn_nat (And.intro @W_nf (And.intro @D_nf (And.intro @W_nil (And.intro @D_nil (And.intro @wi (And.intro @nf_g (And.intro @Bool.false_and (@W_cell))))))))))))) := And.intro @W_len (And.intro @D_len (And.intro @Nat.div_one (And.intro @Nat.mul_one (And.intro @tn_nat (And.intro @W_nf (And.intro @D_nf (And.intro @W_nil (And.intro @D_nil (And.intro @wi (And.intro @nf_g (And.intro @Bool.false_and (@W_cell))))))))))))
theorem zv_dg (s : Bool) (n : Nat) : zv s (dg B n) = zI s n := by unfold zv; rw [nv_dgB]
theorem fl_abs {x : Int} {v m : Nat} (hx : x.natAbs < B ^ m) : (x.fdiv (v : Int)).natAbs < B ^ (m + 1) := by
  rw [Int.fdiv_eq_ediv_of_nonneg x (Int.natCast_nonneg v)]
  exact Nat.lt_of_le_of_lt (Int.natAbs_ediv_le_natAbs x _) (pup hx (Nat.le_succ m))
def glV (z : Int) (d : Nat) (k : Int) : Int := if d = 0 ∨ k < -1048576 ∨ 1048576 < k then 0 else if k < 0 then z.fdiv ((d * 2 ^ (-k).toNat : Nat) : Int) else (z * 2 ^ k.toNat).fdiv (d : Int)
def glE (d : Nat) (k : Int) : Int := if d = 0 then 1 else if k < -1048576 ∨ 1048576 < k then 3 else 0
theorem glV_e {z : Int} {d : Nat} {k : Int} (h : d = 0 ∨ k < -1048576 ∨ 1048576 < k) : glV z d k = 0 := if_pos h
theorem glV_n {z : Int} {d n : Nat} (h0 : d ≠ 0) (hn : n ≤ 1048576) (h1 : 0 < n) : glV z d (-(n : Int)) = z.fdiv ((d * 2 ^ n : Nat) : Int) := by
  unfold glV
  rw [if_neg (by omega), if_pos (by omega), show (-(-(n : Int))).toNat = n from by omega]
theorem glV_p {z : Int} {d n : Nat} (h0 : d ≠ 0) (hn : n ≤ 1048576) : glV z d (n : Int) = (z * 2 ^ n).fdiv (d : Int) := by
  unfold glV
  rw [if_neg (by omega), if_neg (by omega), show ((n : Int)).toNat = n from rfl]
theorem glV_abs {z : Int} {d : Nat} {k : Int} {m : Nat} (hz : z.natAbs < B ^ m) : (glV z d k).natAbs < B ^ (m + 16385) := by
  unfold glV
  split
  · exact Nat.pow_pos B0
  · split
    · exact pup (fl_abs hz) (by omega)
    · refine fl_abs (m := m + 16384) ?_
      rw [Int.natAbs_mul, Int.natAbs_pow]
      exact shl_len hz (by omega)
theorem qfloor_dn (s : Bool) (a d : List Nat) (n m : Nat) (hn : n ≤ 1048576) (h1 : 0 < n) (hm : m ≤ 10000000) (hm1 : 16384 ≤ m) (ha : Wd a) (hd : Wd d) (la : a.length ≤ m) (ld : d.length ≤ m) (h0 : nv B d ≠ 0) : AFun Tryz.prog J0 49 [rL s a d, .i .i64 (-(n : Int))] (.t [zN ((zv s a).fdiv ((nv B d * 2 ^ n : Nat) : Int)), .i .i64 0]) := by
  have h2 := qcheck_spec s a d hd (by omega)
  rw [if_neg h0] at h2
  have h3 := znat_spec false d hd (by omega)
  rw [zv_f] at h3
  have hw : IntKind.i64.wrap (0 - -(n : Int)) = (n : Int) := by rw [wi (by omega)]; omega
  have hb : nv B d * 2 ^ n < B ^ (m + 16384) := shl_len (nvlt hd ld) hn
  have hne : nv B d * 2 ^ n ≠ 0 := Nat.mul_ne_zero h0 (Nat.pos_iff_ne_zero.1 (Nat.two_pow_pos n))
  have h4 := zshl_spec (decide ((nv B d : Int) < 0)) (dg B ((nv B d : Int)).natAbs) (n : Int) (Wd_dg _) (Nat.le_trans (dlen (nvlt hd ld)) (by omega))
  rw [zv_N, show zlV (nv B d : Int) (n : Int) = (nv B d : Int) * 2 ^ n from if_neg (by omega), show zlE (n : Int) = 0 from if_neg (by omega), show (nv B d : Int) * 2 ^ n = ((nv B d * 2 ^ n : Nat) : Int) from by rw [Int.natCast_mul, Int.natCast_pow]; rfl] at h4
  generalize nv B d * 2 ^ n = w at *
  have h5 := zfloor_spec s (decide ((w : Int) < 0)) a (dg B ((w : Int)).natAbs) ha (Wd_dg _) (by omega) (Nat.le_trans (dlen hb) (by omega))
  rw [zv_N, show ze (w : Int) = 0 from if_neg (by omega)] at h5
  have k1 : ¬ -(n : Int) < -1048576 := by omega
  have k2 : ¬ (1048576 : Int) < -(n : Int) := by omega
  have k3 : -(n : Int) < 0 := by omega
  generalize (zv s a).fdiv (w : Int) = q at *
  generalize (w : Int) = ww at *
  generalize (nv B d : Int) = dd at *
  generalize (n : Int) = nn at *
  refine mkcQ fol J0s Tryz.func49 a49 [.c 4 true 2, .t 5] ?_
  unfold a49
  simp only [init_eq, initE, qm, qr, qn]
  exact wcQ (ai @hw (ai @k3 (ai @k2 (ai @k1 @bz_Q20))))
theorem qfloor_spec (s : Bool) (a d : List Nat) (k : Int) (m : Nat) (hm : m ≤ 10000000) (hm1 : 16384 ≤ m) (ha : Wd a) (hd : Wd d) (la : a.length ≤ m) (ld : d.length ≤ m) : AFun Tryz.prog J0 49 [rL s a d, .i .i64 k] (.t [zN (glV (zv s a) (nv B d) k), .i .i64 (glE (nv B d) k)]) := by
  by_cases h0 : nv B d = 0
  · have h1 := qcheck_spec s a d hd (by omega)
    rw [if_pos h0] at h1
    rw [glV_e (.inl h0), show glE (nv B d) k = 1 from if_pos h0, zN_0]
    refine mkcQ fol J0s Tryz.func49 a49 [.c 4 true 2, .t 5] ?_
    unfold a49
    simp only [init_eq, initE, qm, qr, qn]
    exact wcQ @bz_Q20
  · by_cases h1 : k < -1048576
    · have h2 := qcheck_spec s a d hd (by omega)
      rw [if_neg h0] at h2
      rw [glV_e (.inr (.inl h1)), show glE (nv B d) k = 3 from by unfold glE; rw [if_neg h0, if_pos (.inl h1)], zN_0]
      refine mkcQ fol J0s Tryz.func49 a49 [.c 4 true 2, .t 5] ?_
      unfold a49
      simp only [init_eq, initE, qm, qr, qn]
      exact wcQ (ai @h1 @bz_Q20)
    · by_cases h2 : 1048576 < k
      · have h3 := qcheck_spec s a d hd (by omega)
        rw [if_neg h0] at h3
        rw [glV_e (.inr (.inr h2)), show glE (nv B d) k = 3 from by unfold glE; rw [if_neg h0, if_pos (.inr h2)], zN_0]
        refine mkcQ fol J0s Tryz.func49 a49 [.c 4 true 2, .t 5] ?_
        unfold a49
        simp only [init_eq, initE, qm, qr, qn]
        exact wcQ (ai @h2 (ai @h1 @bz_Q20))
      · rw [show glE (nv B d) k = 0 from by unfold glE; rw [if_neg h0, if_neg (by omega)]]
        by_cases h3 : k < 0
        · obtain ⟨n, rfl⟩ : ∃ n : Nat, k = -(n : Int) := ⟨(-k).toNat, by omega⟩
          rw [glV_n h0 (by omega) (by omega)]
          exact qfloor_dn s a d n m (by omega) (by omega) hm hm1 ha hd la ld h0
        · obtain ⟨n, rfl⟩ : ∃ n : Nat, k = (n : Int) := ⟨k.toNat, by omega⟩
          rw [glV_p h0 (by omega)]
          exact qfloor_up s a d n m (by omega) hm hm1 ha hd la ld h0
theorem qceil_spec (s : Bool) (a d : List Nat) (k : Int) (m : Nat) (hm : m ≤ 10000000) (hm1 : 16384 ≤ m) (ha : Wd a) (hd : Wd d) (la : a.length ≤ m) (ld : d.length ≤ m) : AFun Tryz.prog J0 50 [rL s a d, .i .i64 k] (.t [zN (-(glV (-(zv s a)) (nv B d) k)), .i .i64 (glE (nv B d) k)]) := by
  have h1 := zneg_spec s a ha (by omega)
  have bb : (-(zv s a)).natAbs < B ^ m := by rw [Int.natAbs_neg]; exact zv_lt ha la
  have h2 := qfloor_spec (decide (-(zv s a) < 0)) (dg B (-(zv s a)).natAbs) d k m hm hm1 (Wd_dg _) hd (dlen bb) ld
  rw [zv_N] at h2
  have hq := glV_abs (d := nv B d) (k := k) bb
  by_cases he : glE (nv B d) k = 0
  · rw [he] at h2 ⊢
    generalize glV (-(zv s a)) (nv B d) k = q at *
    have h3 := zneg_spec (decide (q < 0)) (dg B q.natAbs) (Wd_dg _) (Nat.le_trans (dlen hq) (by omega))
    rw [zv_N] at h3
    generalize -(zv s a) = nb at *
    refine mkcQ fol J0s Tryz.func50 a50 [.c 4 true 2, .t 5] ?_
    unfold a50
    simp only [init_eq, initE, qm, qr, qn]
    exact wcQ @bz_Q20
  · have hv : glV (-(zv s a)) (nv B d) k = 0 := by
      unfold glE at he
      refine glV_e ?_
      split at he
      · rename_i h; exact .inl h
      · split at he
        · rename_i h; exact .inr h
        · exact absurd rfl he
    rw [hv] at h2 ⊢
    rw [Int.neg_zero, zN_0]
    rw [zN_0] at h2
    generalize glE (nv B d) k = ee at *
    generalize -(zv s a) = nb at *
    refine mkcQ fol J0s Tryz.func50 a50 [.c 4 true 2, .t 5] ?_
    unfold a50
    simp only [init_eq, initE, qm, qr, qn]
    exact wcQ (ai @he @bz_Q20)
theorem rden_le (z : Int) (d : Nat) : rden z d ≤ d := Nat.div_le_self _ _
theorem rz_le' (z : Int) (d : Nat) : (rz z d).natAbs ≤ z.natAbs := by rw [rz_abs]; exact Nat.div_le_self _ _
end Go.Proofs.YtfcpigjmagbnkaaGreatDoor
