/-
  surdlaw08: what its laws share.
-/
import Derived.Test.YtlhadigkmlldeaaGreatDoorQV
import Derived.Test.YtlhadigkmlldeaaGreatDoorLQTk
namespace Go.Proofs.YtlhadigkmlldeaaGreatDoor
open Go Go.RowKit Ab
set_option linter.unusedSimpArgs false
set_option linter.unusedVariables false
set_option maxHeartbeats 10000000
theorem bz_LQKn : type_of% (And.intro @W_len (And.intro @D_len (And.intro @Nat.div_one (And.intro @Nat.mul_one (And.intro @tn_nat (And.intro @W_nf (And.intro @D_nf (And.intro @W_nil (And.intro @D_nil (And.intro @wi (And.intro @nf_g (And.intro @Bool.false_and (@W_cell))))))))))))) := And.intro @W_len (And.intro @D_len (And.intro @Nat.div_one (And.intro @Nat.mul_one (And.intro @tn_nat (And.intro @W_nf (And.intro @D_nf (And.intro @W_nil (And.intro @D_nil (And.intro @wi (And.intro @nf_g (And.intro @Bool.false_and (@W_cell))))))))))))

theorem R_self (p : Rat) : rz p.num p.den = p.num ∧ rden p.num p.den = p.den := ⟨rzN_co p.reduced, rdenN_co p.reduced⟩
theorem rRR {p : Rat} {m : Nat} {v : V} (h : Rr v p m) (hm : m ≤ 3000000) : AFun Tryz.prog J0 83 [zN p.num, .l 1 (W (dg B p.den))] (rN p.num p.den) := by
  obtain ⟨h1, h2⟩ := Rr_num h
  have := rR_spec (decide (p.num < 0)) (dg B p.num.natAbs) (dg B p.den) m (by omega) (Wd_dg _) (Wd_dg _) (dlen h1) (dlen h2) (by rw [nv_dgB]; exact p.den_nz)
  rw [zv_N, nv_dgB, (R_self p).1, (R_self p).2] at this
  exact this
theorem rOkR {v : V} {p : Rat} {m : Nat} (h : Rr v p m) (hm : m ≤ 3000000) : AFun Tryz.prog J0 11 [v] (.b true) := by
  obtain ⟨s, a, d, rfl, ha, hd, la, ld, h0, rfl⟩ := h
  have := rOk_spec s a d hd (by omega)
  rwa [decide_eq_false h0] at this
-- surd/surdlaw08.good
def a14 : AC := .seq (.reg [qr 1 (.bx 27 (.t 0)),
 qr 2 (.mv (.k (.b false)))])
 (.seq (.dreg [qr 3 (.ld true 3 (.t 1)),
 qr 4 (.call 11 [(1, (.t 3))]),
 qm 5 4,
 ⟨some 6, some (5, true), .ld true 3 (.t 1)⟩,
 ⟨some 7, some (5, true), .fad 0 (.t 1)⟩,
 ⟨some 8, some (5, true), .ld true 2 (.t 7)⟩,
 ⟨some 9, some (5, true), .fad 2 (.t 1)⟩,
 ⟨some 10, some (5, true), .ld false 1 (.t 9)⟩,
 ⟨some 11, some (5, true), .call 83 [(1, (.t 8)), (1, (.t 10))]⟩,
 ⟨some 12, some (5, true), .call 50 [(1, (.t 6)), (1, (.t 11))]⟩,
 qr 13 (.pick (.t 5) (.t 12) (.k (.b false))),
 qm 2 13])
 (.ret))
theorem lgood_spec {p : Rat} {m : Nat} (h : Rr (rN p.num p.den) p m) (hm : m ≤ 3000000) : AFun Tryz.prog J0 14 [rN p.num p.den] (.b true) := by
  have h1 := rOkR h hm
  have h2 := rRR h hm
  have h3 := sameR h hm
  refine mkQ fol J0s Tryz.func14 a14 ?_
  unfold a14
  simp only [init_eq, initE, qm, qr, qn]
  exact wdQ @bz_LQKn
end Go.Proofs.YtlhadigkmlldeaaGreatDoor
