/-
  CellsForms, CellsTwo: the laws' walks.
-/
import Derived.Test.YtfcpigjmagbnkaaGreatDoorC6
namespace Go.Proofs.YtfcpigjmagbnkaaGreatDoor
open Go Go.RowKit Ab
set_option linter.unusedSimpArgs false
set_option linter.unusedVariables false
set_option maxHeartbeats 10000000
theorem bz_LCForms : type_of% (And.intro @W_len (And.intro @D_len (And.intro @Nat.div_one (And.intro @Nat.mul_one (And.intro @tn_nat (And.intro @W_nf (And.intro @D_nf (And.intro @W_nil (And.intro @D_nil (And.intro @wi (And.intro @nf_g (And.intro @Bool.false_and (@W_cell))))))))))))) := And.intro @W_len (And.intro @D_len (And.intro @Nat.div_one (And.intro @Nat.mul_one (And.intro @tn_nat (And.intro @W_nf (And.intro @D_nf (And.intro @W_nil (And.intro @D_nil (And.intro @wi (And.intro @nf_g (And.intro @Bool.false_and (@W_cell))))))))))))
def a7 : AC := .seq (.reg [qr 0 (.mv (.k (.b false)))])
 (.seq (.reg [qr 6 (.call 36 [(1, (.k (.i .i64 1))), (1, (.k (.i .i64 3)))]),
 qr 7 (.call 13 [(1, (.t 6)), (1, (.k (.i .i64 2)))]),
 qm 5 7,
 qr 8 (.ext (.t 5) 0),
 qr 9 (.ext (.t 5) 1),
 qr 1 (.al 37 [(.b false), (.l 1 []), (.i .i64 0), (.b false)]),
 qn (.st 4 (.t 1) (.t 8)),
 qm 2 9])
 (.seq (.reg [qr 11 (.call 37 [(1, (.k (.i .i64 (-1))))]),
 qr 12 (.bld [(.b false), (.l 1 []), (.i .i64 0), (.b false)] [(0, 2, (.t 11)), (2, 1, (.k (.i .i64 1)))]),
 qr 13 (.call 32 [(1, (.t 12))]),
 qm 10 13,
 qr 14 (.ext (.t 10) 0),
 qr 15 (.ext (.t 10) 1),
 qm 3 14,
 qm 4 15])
 (.seq (.dregx [(1, 24)] [qm 16 2,
 qr 17 (.bin .eql (.t 16) (.k (.i .i64 0))),
 qm 18 17,
 ⟨some 19, some (18, true), .mv (.t 4)⟩,
 ⟨some 20, some (18, true), .bin .eql (.t 19) (.k (.i .i64 0))⟩,
 qr 21 (.pick (.t 18) (.t 20) (.k (.b false))),
 qm 22 21,
 ⟨some 23, some (22, true), .ld true 4 (.t 1)⟩,
 ⟨some 24, some (22, true), .call 37 [(1, (.k (.i .i64 1)))]⟩,
 ⟨some 25, some (22, true), .bld [(.b false), (.l 1 []), (.i .i64 0), (.b false)] [(0, 2, (.t 24)), (2, 1, (.k (.i .i64 2)))]⟩,
 ⟨some 26, some (22, true), .call 16 [(1, (.t 23)), (1, (.t 25))]⟩,
 qr 27 (.pick (.t 22) (.t 26) (.k (.b false))),
 qm 28 27,
 ⟨some 29, some (28, true), .mv (.t 3)⟩,
 ⟨some 30, some (28, true), .bin .eql (.t 29) (.k (.s [40, 45, 49, 47, 50, 44, 32, 48, 41]))⟩,
 qr 31 (.pick (.t 28) (.t 30) (.k (.b false))),
 qm 0 31])
 (.ret))))
theorem cknown_spec : AFun Tryz.prog J0 7 [] (.b true) := by
  have p1 := rP_spec 1 3 (by decide) (by decide) (by decide) (by decide)
  rw [show rz 1 3 = 1 from by decide +kernel, show rden 1 3 = 3 from by decide +kernel] at p1
  replace p1 : AFun Tryz.prog J0 36 [.i .i64 1, .i .i64 3] (.g [.b false, .l 1 (W (dg B 1)), .l 1 (W (dg B 3))]) := p1
  have o1 := cof_spec false (dg B 1) (dg B 3) 2 20000 (by decide) (Wd_dg _) (Wd_dg _) (Nat.le_trans (dlen (k := 1) (by decide)) (by decide)) (Nat.le_trans (dlen (k := 1) (by decide)) (by decide)) (by rw [nv_dgB]; decide) (by decide) (by decide)
  rw [zv_dg, nv_dgB, show plZ (zI false 1) 3 2 = 1 from by decide +kernel, show plP (zI false 1) 3 2 = false from by decide +kernel] at o1
  replace o1 : AFun Tryz.prog J0 13 [.g [.b false, .l 1 (W (dg B 1)), .l 1 (W (dg B 3))], .i .i64 2] (.t [.g [.b false, .l 1 (W (dg B 1)), .i .i64 2, .b false], .i .i64 0]) := o1
  have z1 := hZ_spec (-1) (by decide) (by decide)
  replace z1 : AFun Tryz.prog J0 37 [.i .i64 (-1)] (.g [.b true, .l 1 (W (dg B 1))]) := z1
  have z2 := hZ_spec 1 (by decide) (by decide)
  replace z2 : AFun Tryz.prog J0 37 [.i .i64 1] (.g [.b false, .l 1 (W (dg B 1))]) := z2
  have t1 := cprint_spec true (dg B 1) 1 20000 false (by decide) (Wd_dg _) (Nat.le_trans (dlen (k := 1) (by decide)) (by decide)) (by decide) (by decide)
  rw [zv_dg, show cS (zI true 1) 1 false = [40, 45, 49, 47, 50, 44, 32, 48, 41] from by decide +kernel] at t1
  replace t1 : AFun Tryz.prog J0 32 [.g [.b true, .l 1 (W (dg B 1)), .i .i64 1, .b false]] (.t [.s [40, 45, 49, 47, 50, 44, 32, 48, 41], .i .i64 0]) := t1
  have s1 := rcsame_true false (dg B 1) 2 false (Nat.le_trans (dlen (k := 1) (by decide)) (by decide))
  generalize dg B 1 = d1 at *
  generalize dg B 3 = d3 at *
  refine mkQ fol J0s Tryz.func7 a7 ?_
  unfold a7
  simp only [init_eq, initE, qm, qr, qn]
  exact wdQ @bz_LCForms
end Go.Proofs.YtfcpigjmagbnkaaGreatDoor
