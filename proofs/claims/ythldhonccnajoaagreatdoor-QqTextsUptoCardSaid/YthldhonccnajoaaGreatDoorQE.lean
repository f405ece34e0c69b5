/-
  The texts Q16, Q17, Q18, Q19.
-/
import Derived.Test.YthldhonccnajoaaGreatDoorQD
namespace Go.Proofs.YthldhonccnajoaaGreatDoor
open Go Go.RowKit Ab
set_option linter.unusedSimpArgs false
set_option linter.unusedVariables false
set_option maxHeartbeats 10000000
theorem bz_Q16 : type_of% (And.intro @W_len (And.intro @D_len (And.intro @Nat.div_one (And.intro @Nat.mul_one (And.intro @tn_nat (And.intro @W_nf (And.intro @D_nf (And.intro @W_nil (And.intro @D_nil (And.intro @wi (And.intro @nf_g (And.intro @Bool.false_and (@W_cell))))))))))))) := And.intro @W_len (And.intro @D_len (And.intro @Nat.div_one (And.intro @Nat.mul_one (And.intro @tn_nat (And.intro @W_nf (And.intro @D_nf (And.intro @W_nil (And.intro @D_nil (And.intro @wi (And.intro @nf_g (And.intro @Bool.false_and (@W_cell))))))))))))
theorem mul_lt {x y : Int} {m : Nat} (hx : x.natAbs < B ^ m) (hy : y.natAbs < B ^ m) : (x * y).natAbs < B ^ (m + m) := by
  rw [Int.natAbs_mul, Nat.pow_add]; exact Nat.mul_lt_mul'' hx hy
theorem mulN_lt {x y m : Nat} (hx : x < B ^ m) (hy : y < B ^ m) : x * y < B ^ (m + m) := by
  rw [Nat.pow_add]; exact Nat.mul_lt_mul'' hx hy
def a77 : AC := .seq (.reg [qr 2 (.bx 27 (.t 0)),
 qr 3 (.bx 27 (.t 1)),
 qr 4 (.al 27 [(.b false), (.l 1 []), (.l 1 [])])])
 (.seq (.dreg [qr 5 (.fad 0 (.t 2)),
 qr 6 (.ld true 2 (.t 5)),
 qr 7 (.fad 0 (.t 3)),
 qr 8 (.fad 0 (.t 7)),
 qr 9 (.ld false 1 (.t 8)),
 qr 10 (.fad 2 (.t 3)),
 qr 11 (.ld false 1 (.t 10)),
 qr 12 (.call 51 [(1, (.t 9)), (1, (.t 11))]),
 qr 13 (.call 106 [(1, (.t 6)), (1, (.t 12))]),
 qr 14 (.fad 2 (.t 2)),
 qr 15 (.ld false 1 (.t 14)),
 qr 16 (.fad 0 (.t 3)),
 qr 17 (.fad 1 (.t 16)),
 qr 18 (.ld false 1 (.t 17)),
 qr 19 (.call 91 [(1, (.t 15)), (1, (.t 18))]),
 qr 20 (.call 41 [(1, (.t 13)), (1, (.t 19))]),
 qn (.st 3 (.t 4) (.t 20))])
 (.ret))
theorem rOver_spec (s t : Bool) (a b d e : List Nat) (m : Nat) (hm : m ≤ 10000000) (ha : Wd a) (hb : Wd b) (hd : Wd d) (he : Wd e) (la : a.length ≤ m) (lb : b.length ≤ m) (ld : d.length ≤ m) (le : e.length ≤ m) (hd0 : nv B d ≠ 0) (hb0 : nv B b ≠ 0) :
    AFun Tryz.prog J0 77 [rL s a d, rL t b e] (rN (rz (zv s a * zv t e) (nv B d * nv B b)) (rden (zv s a * zv t e) (nv B d * nv B b))) := by
  have i1 := hI_spec t e he (by omega)
  have be := zv_lt (s := t) he le
  have m1 := hzmul_spec s (decide (zv t e < 0)) a (dg B (zv t e).natAbs) m (by omega) ha (Wd_dg _) la (dlen be)
  rw [zv_N] at m1
  have t1 := (hmul_spec d b hd hb (by omega) (by omega)).frozen
  have b1 := mul_lt (zv_lt (s := s) ha la) be
  have b3 := mulN_lt (nvlt hd ld) (nvlt hb lb)
  have h : nv B d * nv B b ≠ 0 := Nat.mul_ne_zero hd0 hb0
  generalize zv s a * zv t e = x at *
  generalize zv t e = y at *
  generalize nv B d * nv B b = w at *
  have r1 := rR_spec (decide (x < 0)) (dg B x.natAbs) (dg B w) (m + m) (by omega) (Wd_dg _) (Wd_dg _) (dlen b1) (dlen b3) (by rw [nv_dgB]; exact h)
  rw [zv_N, nv_dgB] at r1
  generalize rz x w = u at *
  generalize rden x w = v at *
  refine mkcQ fol J0s Tryz.func77 a77 [.c 4 true 3] ?_
  unfold a77
  simp only [init_eq, initE, qm, qr, qn]
  exact wcQ @bz_Q16
end Go.Proofs.YthldhonccnajoaaGreatDoor
namespace Go.Proofs.YthldhonccnajoaaGreatDoor
open Go Go.RowKit Ab
set_option linter.unusedSimpArgs false
set_option linter.unusedVariables false
set_option maxHeartbeats 10000000
def pe (z : Int) (n : Int) : Int := if n < 0 then re (z ^ (-n).toNat).natAbs else 0
theorem cap (m k K : Nat) (h : m * (K + 1) + 1 ≤ 1000000) (hk : k ≤ K) : m * k + 1 ≤ 1000000 ∧ m * (k + 1) + 1 ≤ 100000000 := by
  have h1 := Nat.mul_le_mul_left m (show k + 1 ≤ K + 1 by omega)
  have h2 := Nat.mul_le_mul_left m (show k ≤ k + 1 by omega)
  omega
end Go.Proofs.YthldhonccnajoaaGreatDoor
namespace Go.Proofs.YthldhonccnajoaaGreatDoor
open Go Go.RowKit Ab
set_option linter.unusedSimpArgs false
set_option linter.unusedVariables false
set_option maxHeartbeats 10000000
end Go.Proofs.YthldhonccnajoaaGreatDoor
namespace Go.Proofs.YthldhonccnajoaaGreatDoor
open Go Go.RowKit Ab
set_option linter.unusedSimpArgs false
set_option linter.unusedVariables false
set_option maxHeartbeats 10000000
end Go.Proofs.YthldhonccnajoaaGreatDoor
