/-
  Rational numbers: the simplest number's errors.
-/
import Derived.Test.YthldhonccnajoaaGreatDoorQD
namespace Go.Proofs.YthldhonccnajoaaGreatDoor
open Go Go.RowKit Ab
set_option linter.unusedSimpArgs false
set_option linter.unusedVariables false
set_option maxHeartbeats 10000000
theorem bz_QSE : type_of% (And.intro @W_len (And.intro @D_len (And.intro @Nat.div_one (And.intro @Nat.mul_one (And.intro @tn_nat (And.intro @W_nf (And.intro @D_nf (And.intro @W_nil (And.intro @D_nil (And.intro @wi (And.intro @nf_g (And.intro @Bool.false_and (@W_cell))))))))))))) := And.intro @W_len (And.intro @D_len (And.intro @Nat.div_one (And.intro @Nat.mul_one (And.intro @tn_nat (And.intro @W_nf (And.intro @D_nf (And.intro @W_nil (And.intro @D_nil (And.intro @wi (And.intro @nf_g (And.intro @Bool.false_and (@W_cell))))))))))))
theorem qsimp_e (s t : Bool) (a b d e : List Nat) (m : Nat) (hm : m ≤ 1000000) (ha : Wd a) (hb : Wd b) (hd : Wd d) (he : Wd e) (la : a.length ≤ m) (lb : b.length ≤ m) (ld : d.length ≤ m) (le : e.length ≤ m) (h0 : nv B d * nv B e = 0) :
    AFun Tryz.prog J0 6 [rL s a d, rL t b e] (.t [.g [.b false, .l 1 [], .l 1 []], .i .i64 1]) := by
  have h1 := qcmp_spec s t a b d e m (by omega) ha hb hd he la lb ld le
  rw [if_pos h0, h0, re_0] at h1
  refine mkcQ fol J0s Tryz.func6 a6 [.c 4 true 3, .t 5] ?_
  unfold a6
  simp only [init_eq, initE, qm, qr, qn]
  exact wcQ @bz_QSE
theorem qsimp_gt (s t : Bool) (a b d e : List Nat) (m : Nat) (hm : m ≤ 1000000) (ha : Wd a) (hb : Wd b) (hd : Wd d) (he : Wd e) (la : a.length ≤ m) (lb : b.length ≤ m) (ld : d.length ≤ m) (le : e.length ≤ m) (h0 : nv B d * nv B e ≠ 0) (hgt : 0 < cz (zv s a * (nv B e : Int)) (zv t b * (nv B d : Int))) :
    AFun Tryz.prog J0 6 [rL s a d, rL t b e] (.t [.g [.b false, .l 1 [], .l 1 []], .i .i64 7]) := by
  have h1 := qcmp_spec s t a b d e m (by omega) ha hb hd he la lb ld le
  rw [if_neg h0, re_p h0] at h1
  generalize cz (zv s a * (nv B e : Int)) (zv t b * (nv B d : Int)) = c at *
  refine mkcQ fol J0s Tryz.func6 a6 [.c 4 true 3, .t 5] ?_
  unfold a6
  simp only [init_eq, initE, qm, qr, qn]
  exact wcQ (ai @hgt @bz_QSE)
end Go.Proofs.YthldhonccnajoaaGreatDoor
