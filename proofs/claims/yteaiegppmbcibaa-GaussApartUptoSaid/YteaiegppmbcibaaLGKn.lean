/-
  surdlaw23: what its laws share.
-/
import Derived.Test.YteaiegppmbcibaaG8
namespace Go.Proofs.Yteaiegppmbcibaa
open Go Go.RowKit Ab
set_option linter.unusedSimpArgs false
set_option linter.unusedVariables false
set_option maxHeartbeats 10000000
theorem bz_LGKn : type_of% (And.intro @W_len (And.intro @D_len (And.intro @Nat.div_one (And.intro @Nat.mul_one (And.intro @tn_nat (And.intro @W_nf (And.intro @D_nf (And.intro @W_nil (And.intro @D_nil (And.intro @wi (And.intro @nf_g (And.intro @Bool.false_and (And.intro @W_cell (And.intro @ZC_cell (@ZC_nil))))))))))))))) := And.intro @W_len (And.intro @D_len (And.intro @Nat.div_one (And.intro @Nat.mul_one (And.intro @tn_nat (And.intro @W_nf (And.intro @D_nf (And.intro @W_nil (And.intro @D_nil (And.intro @wi (And.intro @nf_g (And.intro @Bool.false_and (And.intro @W_cell (And.intro @ZC_cell (@ZC_nil))))))))))))))
def a15 : AC := .seq (.reg [qr 2 (.mv (.k .nl))])
 (.seq (.reg [qr 3 (.mv (.k .nl))])
 (.seq (.seq (.reg [qr 4 (.mv (.k (.i .i64 0)))])
 (.blk 0
 (.loop
 (.seq (.seq (.reg [qm 5 4,
 qm 6 0,
 qr 7 (.len (.t 6)),
 qr 8 (.bin .lss (.t 5) (.t 7))])
 (.cond (.t 8)
 (.skip)
 (.exit 0)))
 (.seq (.blk 1
 (.reg [qm 11 3,
 qm 12 0,
 qm 13 4,
 qr 14 (.idx 1 (.t 12) (.t 13)),
 qr 15 (.ld false 1 (.t 14)),
 qr 16 (.call 18 [(1, (.t 15))]),
 qr 17 (.bsl 58 2 1 [(.b false), (.l 1 [])] [(0, (.t 16))]),
 qr 18 (.app 58 2 32 (.t 11) (.t 17)),
 qm 3 18]))
 (.reg [qm 9 4,
 qr 10 (.bin .add (.t 9) (.k (.i .i64 1))),
 qm 4 10]))))))
 (.seq (.reg [qm 19 3,
 qm 2 19])
 (.ret))))
theorem poly_spec (xs : List Int) (hx : ∀ x, x ∈ xs → -9223372036854775808 < x ∧ x < 9223372036854775808) (lx : xs.length ≤ 1000000) : AFun Try.prog J0 15 [.l 1 (I64 xs)] (.o 58 2 (ZC (nfl xs))) := by
  have hl := I64_len xs
  refine mkQ fol J0s Try.func15 a15 ?_
  unfold a15
  simp only [init_eq, initE, qm, qr, qn]
  refine spQ @bz_LGKn ?_
  refine vm_loopA [(3, 58, 2)] Nat (fun i => ⟨[(0, .l 1 (I64 xs)), (3, .ow 2 0 i), (4, .i .i64 (i : Int))], [(0, some ⟨58, 2, ZC (nfl (xs.take i)), true, false⟩)], 1⟩)
    (fun i => i ≤ xs.length) (fun i => xs.length - i) 0 (Nat.zero_le _) (by exact leQ) (by
    exact ltQ) ?_
  intro i hi Q' hQ he hr
  by_cases h : (i : Int) < (xs.length : Int)
  · have hix : i < xs.length := by omega
    have hg := I64_get xs i hix
    have hm : xs.getD i 0 ∈ xs := by rw [List.getD_eq_getElem?_getD, List.getElem?_eq_getElem hix]; exact List.getElem_mem hix
    obtain ⟨b1, b2⟩ := hx _ hm
    have hz := hZ_spec (xs.getD i 0) b1 b2
    have hap := ZC_app1 (nfl (xs.take i)) (xs.getD i 0)
    rw [show nfl (xs.take i) ++ [nfp (xs.getD i 0)] = nfl (xs.take (i + 1)) from by unfold nfl; rw [take_snoc xs i hix, List.map_append]; rfl] at hap
    have l0 := ZC_len (nfl (xs.take i))
    have l1 := ZC_len (nfl (xs.take (i + 1)))
    rw [nfl_len, List.length_take] at l0 l1
    generalize xs.getD i 0 = c at *
    refine wkQ (ai @hap (ai @hg (ai @hl (ai @h @bz_LGKn)))) ?_
    refine hQ _ (i + 1) (by omega) (by omega) ?_
    exact ltQ
  · obtain rfl : i = xs.length := by omega
    rw [List.take_length]
    refine spQ (ai @hl (ai @h @bz_LGKn)) ?_
    refine he _ _ ?_
    refine spQ @bz_LGKn ?_
    exact rtQ @bz_LGKn
theorem polyZ (xs : List Int) (hx : ∀ x, x ∈ xs → -9223372036854775808 < x ∧ x < 9223372036854775808) (lx : xs.length ≤ 1000000) : AFun Try.prog J0 15 [.l 1 (I64 xs)] (.l 2 (ZC (nfl xs))) := (poly_spec xs hx lx).frozen
theorem ZOk_small {xs : List Int} (lx : xs.length ≤ 100000000) (h : ∀ c, c ∈ xs → c.natAbs < 18446744073709551616) : ZOk (nfl xs) 100000000 := by
  refine ⟨by rw [nfl_len]; exact lx, fun p hp => ?_⟩
  obtain ⟨c, hc, rfl⟩ := List.mem_map.1 hp
  refine ⟨Wd_dg _, Nat.le_trans (dlen (k := 1) ?_) (by decide)⟩
  rw [Nat.pow_one]
  exact h c hc
def a13 : AC := .seq (.reg [qr 2 (.bx 38 (.t 0)),
 qr 3 (.bx 40 (.t 1)),
 qr 4 (.mv (.k (.b false)))])
 (.seq (.reg [qr 5 (.fad 0 (.t 2)),
 qr 6 (.ld false 1 (.t 5)),
 qr 7 (.fad 0 (.t 3)),
 qr 8 (.ld false 1 (.t 7)),
 qr 9 (.bin .eql (.t 6) (.t 8)),
 qm 10 9,
 ⟨some 11, some (10, true), .fad 1 (.t 2)⟩,
 ⟨some 12, some (10, true), .ld false 1 (.t 11)⟩,
 ⟨some 13, some (10, true), .fad 1 (.t 3)⟩,
 ⟨some 14, some (10, true), .ld false 1 (.t 13)⟩,
 ⟨some 15, some (10, true), .bin .eql (.t 12) (.t 14)⟩,
 qr 16 (.pick (.t 10) (.t 15) (.k (.b false))),
 qm 4 16])
 (.ret))
theorem is_spec (z : GZ) : AFun Try.prog J0 13 [nV z, nV z] (.b true) := by
  simp only [nV]
  refine mkQ fol J0s Try.func13 a13 ?_
  unfold a13
  simp only [init_eq, initE, qm, qr, qn]
  refine spQ (ai @eqsA @bz_LGKn) ?_
  exact rtQ @bz_LGKn
def a4 : AC := .seq (.reg [qr 0 (.mv (.k (.b false)))])
 (.seq (.reg [qr 6 (.bsl 3 1 3 [(.i .i64 0), (.i .i64 0), (.i .i64 0)] [(0, (.k (.i .i64 0))), (1, (.k (.i .i64 1))), (2, (.k (.i .i64 1)))]),
 qr 7 (.call 15 [(1, (.t 6))]),
 qr 8 (.bld [(.i .i64 0), (.i .i64 0)] [(0, 1, (.k (.i .i64 1))), (1, 1, (.k (.i .i64 1)))]),
 qr 9 (.call 14 [(2, (.t 7)), (1, (.t 8))]),
 qm 5 9,
 qr 10 (.ext (.t 5) 0),
 qr 11 (.ext (.t 5) 1),
 qr 1 (.al 38 [(.i .i64 0), (.i .i64 0)]),
 qn (.st 2 (.t 1) (.t 10)),
 qm 2 11])
 (.seq (.reg [qr 13 (.bsl 3 1 3 [(.i .i64 0), (.i .i64 0), (.i .i64 0)] [(0, (.k (.i .i64 0))), (1, (.k (.i .i64 0))), (2, (.k (.i .i64 1)))]),
 qr 14 (.call 15 [(1, (.t 13))]),
 qr 15 (.bld [(.i .i64 0), (.i .i64 0)] []),
 qr 16 (.call 16 [(2, (.t 14)), (1, (.t 15)), (1, (.k (.i .i64 1)))]),
 qm 12 16,
 qr 17 (.ext (.t 12) 0),
 qr 18 (.ext (.t 12) 1),
 qm 3 17,
 qm 4 18])
 (.seq (.reg [qm 19 2,
 qr 20 (.bin .eql (.t 19) (.k (.i .i64 0))),
 qm 21 20,
 ⟨some 22, some (21, true), .mv (.t 4)⟩,
 ⟨some 23, some (21, true), .bin .eql (.t 22) (.k (.i .i64 0))⟩,
 qr 24 (.pick (.t 21) (.t 23) (.k (.b false))),
 qm 25 24,
 ⟨some 26, some (25, true), .ld true 2 (.t 1)⟩,
 ⟨some 27, some (25, true), .bld [(.i .i64 0), (.i .i64 0)] [(0, 1, (.k (.i .i64 1))), (1, 1, (.k (.i .i64 3)))]⟩,
 ⟨some 28, some (25, true), .pur (.eqs false [1, 1]) [(.t 26), (.t 27)]⟩,
 qr 29 (.pick (.t 25) (.t 28) (.k (.b false))),
 qm 30 29,
 ⟨some 31, some (30, true), .mv (.t 3)⟩,
 ⟨some 32, some (30, true), .bin .eql (.t 31) (.k (.i .i64 2))⟩,
 qr 33 (.pick (.t 30) (.t 32) (.k (.b false))),
 qm 0 33])
 (.ret))))
theorem gknown_spec : AFun Try.prog J0 4 [] (.b true) := by
  have q1 := polyZ [0, 1, 1] (by decide) (by decide)
  have q2 := polyZ [0, 0, 1] (by decide) (by decide)
  have h1 := gvalS (nfl [0, 1, 1]) 100000000 (by decide) (ZOk_small (by decide) (by decide)) (1, 1)
  rw [zcs_nfl, show vF [0, 1, 1] (1, 1) = (1, 3) from by decide +kernel, show vE [0, 1, 1] (1, 1) = 0 from by decide +kernel] at h1
  have h2 := garoundS (nfl [0, 0, 1]) 100000000 (by decide) (ZOk_small (by decide) (by decide)) (0, 0) 1 (by unfold Pi; decide)
  rw [zcs_nfl, show arF [0, 0, 1] (0, 0) 1 = 2 from by decide +kernel, show arE [0, 0, 1] (0, 0) 1 = 0 from by decide +kernel] at h2
  simp only [nV] at h1 h2
  generalize nfl [0, 1, 1] = p1 at *
  generalize nfl [0, 0, 1] = p2 at *
  rw [show I64 [0, 1, 1] = [.i .i64 0, .i .i64 1, .i .i64 1] from rfl] at q1
  rw [show I64 [0, 0, 1] = [.i .i64 0, .i .i64 0, .i .i64 1] from rfl] at q2
  refine mkQ fol J0s Try.func4 a4 ?_
  unfold a4
  simp only [init_eq, initE, qm, qr, qn]
  exact wdQ @bz_LGKn
def a7 : AC := .seq (.reg [qr 2 (.bx 40 (.t 0)),
 qr 4 (.al 38 [(.i .i64 0), (.i .i64 0)])])
 (.seq (.dreg [qr 5 (.fad 0 (.t 2)),
 qr 6 (.ld false 1 (.t 5)),
 qm 7 1,
 qr 8 (.bin .rem (.t 6) (.t 7)),
 qr 9 (.fad 1 (.t 2)),
 qr 10 (.ld false 1 (.t 9)),
 qm 11 1,
 qr 12 (.bin .rem (.t 10) (.t 11)),
 qr 13 (.bld [(.i .i64 0), (.i .i64 0)] [(0, 1, (.t 8)), (1, 1, (.t 12))]),
 qn (.st 2 (.t 4) (.t 13))])
 (.ret))
theorem few_spec (z : GZ) (k : Nat) (hk : 0 < k) (hk2 : k ≤ 1000) : AFun Try.prog J0 7 [nV z, .i .i64 (k : Int)] (nV (z.1.tmod k, z.2.tmod k)) := by
  have k0 : ¬ (k : Int) = 0 := by omega
  simp only [nV]
  refine mkcQ fol J0s Try.func7 a7 [.c 4 true 2] ?_
  unfold a7
  simp only [init_eq, initE, qm, qr, qn]
  refine spQ (ai @k0 @bz_LGKn) ?_
  exact rcQ @bz_LGKn
end Go.Proofs.Yteaiegppmbcibaa
