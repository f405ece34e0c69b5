/-
  surdtop: rationals copied, compared; do they mean something.
-/
import Derived.Test.YtbkpaeejjepnpaaGreatQV
import Derived.Test.YtbkpaeejjepnpaaGreatQE
namespace Go.Proofs.YtbkpaeejjepnpaaGreat
open Go Go.RowKit Ab
set_option linter.unusedSimpArgs false
set_option linter.unusedVariables false
set_option maxHeartbeats 10000000
theorem bz_SF0 : type_of% (And.intro @W_len (And.intro @D_len (And.intro @Nat.div_one (And.intro @Nat.mul_one (And.intro @tn_nat (And.intro @W_nf (And.intro @D_nf (And.intro @W_nil (And.intro @D_nil (And.intro @wi (And.intro @nf_g (And.intro @Bool.false_and (@W_cell))))))))))))) := And.intro @W_len (And.intro @D_len (And.intro @Nat.div_one (And.intro @Nat.mul_one (And.intro @tn_nat (And.intro @W_nf (And.intro @D_nf (And.intro @W_nil (And.intro @D_nil (And.intro @wi (And.intro @nf_g (And.intro @Bool.false_and (@W_cell))))))))))))
def a9 : AC := .seq (.reg [qr 4 (.mv (.k (.b false)))])
 (.seq (.seq (.reg [qm 6 0,
 qr 7 (.len (.t 6)),
 qm 8 1,
 qr 9 (.len (.t 8)),
 qr 10 (.bin .neq (.t 7) (.t 9))])
 (.cond (.t 10)
 (.seq (.reg [qr 4 (.mv (.k (.b false)))])
 (.ret))
 (.skip)))
 (.seq (.seq (.reg [qm 11 0,
 qr 12 (.len (.t 11)),
 qr 13 (.mv (.k (.i .i64 0)))])
 (.blk 0
 (.loop
 (.seq (.reg [qr 14 (.bin .lss (.t 13) (.t 12))])
 (.seq (.cond (.t 14)
 (.skip)
 (.exit 0))
 (.seq (.blk 1
 (.seq (.reg [qm 15 13,
 qm 5 15])
 (.seq (.dreg [qm 16 0,
 qm 17 5,
 qr 18 (.idx 1 (.t 16) (.t 17)),
 qr 19 (.ld false 1 (.t 18)),
 qm 20 1,
 qm 21 5,
 qr 22 (.idx 1 (.t 20) (.t 21)),
 qr 23 (.ld false 1 (.t 22)),
 qr 24 (.bin .neq (.t 19) (.t 23))])
 (.cond (.t 24)
 (.seq (.reg [qr 4 (.mv (.k (.b false)))])
 (.ret))
 (.skip)))))
 (.reg [qr 25 (.bin .add (.t 13) (.k (.i .i64 1))),
 qm 13 25])))))))
 (.seq (.reg [qr 4 (.mv (.k (.b true)))])
 (.ret))))
theorem tsame_spec (a : List Nat) (la : a.length ≤ 1000000000) : AFun Tryz.prog J0 9 [.l 1 (W a), .l 1 (W a)] (.b true) := by
  refine mkQ fol J0s Tryz.func9 a9 ?_
  unfold a9
  simp only [init_eq, initE, qm, qr, qn]
  refine spQ @bz_SF0 ?_
  refine vm_loopA [] Nat (fun i => ⟨[(0, .l 1 (W a)), (1, .l 1 (W a)), (12, .i .i64 (a.length : Int)), (13, .i .i64 (i : Int))], [], 0⟩) (fun i => i ≤ a.length) (fun i => a.length - i) 0 (Nat.zero_le _) (by exact leQ) (by
    exact ltQ) ?_
  intro i hi Q' hQ he hr
  by_cases h : (i : Int) < (a.length : Int)
  · refine spQ (ai @W_get (ai @h @bz_SF0)) ?_
    refine hQ _ (i + 1) (by omega) (by omega) ?_
    exact ltQ
  · obtain rfl : i = a.length := by omega
    refine spQ (ai @h @bz_SF0) ?_
    refine he _ _ ?_
    refine spQ @bz_SF0 ?_
    exact rtQ @bz_SF0
def a35 : AC := .seq (.reg [qr 2 (.bx 27 (.t 0)),
 qr 3 (.bx 27 (.t 1)),
 qr 4 (.mv (.k (.b false)))])
 (.seq (.reg [qr 5 (.fad 0 (.t 2)),
 qr 6 (.ld false 1 (.t 5)),
 qr 7 (.fad 0 (.t 3)),
 qr 8 (.ld false 1 (.t 7)),
 qr 9 (.eqb false (.t 6) (.t 8)),
 qm 10 9,
 ⟨some 11, some (10, true), .fad 1 (.t 2)⟩,
 ⟨some 12, some (10, true), .ld false 1 (.t 11)⟩,
 ⟨some 13, some (10, true), .fad 1 (.t 3)⟩,
 ⟨some 14, some (10, true), .ld false 1 (.t 13)⟩,
 ⟨some 15, some (10, true), .call 9 [(1, (.t 12)), (1, (.t 14))]⟩,
 qr 16 (.pick (.t 10) (.t 15) (.k (.b false))),
 qm 4 16])
 (.ret))
theorem tsameI_spec (s : Bool) (a : List Nat) (la : a.length ≤ 1000000000) : AFun Tryz.prog J0 35 [zL s a, zL s a] (.b true) := by
  have h := tsame_spec a la
  have hs : (s == s) = true := by cases s <;> rfl
  refine mkQ fol J0s Tryz.func35 a35 ?_
  unfold a35
  simp only [init_eq, initE, qm, qr, qn]
  exact wdQ (ai @hs @bz_SF0)
def a25 : AC := .seq (.reg [qr 2 (.bx 31 (.t 0)),
 qr 3 (.bx 31 (.t 1)),
 qr 4 (.mv (.k (.b false)))])
 (.seq (.reg [qr 5 (.fad 0 (.t 2)),
 qr 6 (.ld true 2 (.t 5)),
 qr 7 (.fad 0 (.t 3)),
 qr 8 (.ld true 2 (.t 7)),
 qr 9 (.call 35 [(1, (.t 6)), (1, (.t 8))]),
 qm 10 9,
 ⟨some 11, some (10, true), .fad 2 (.t 2)⟩,
 ⟨some 12, some (10, true), .ld false 1 (.t 11)⟩,
 ⟨some 13, some (10, true), .fad 2 (.t 3)⟩,
 ⟨some 14, some (10, true), .ld false 1 (.t 13)⟩,
 ⟨some 15, some (10, true), .call 9 [(1, (.t 12)), (1, (.t 14))]⟩,
 qr 16 (.pick (.t 10) (.t 15) (.k (.b false))),
 qm 4 16])
 (.ret))
theorem tsameR_spec (s : Bool) (a d : List Nat) (la : a.length ≤ 1000000000) (ld : d.length ≤ 1000000000) : AFun Tryz.prog J0 25 [rL s a d, rL s a d] (.b true) := by
  have h1 := tsameI_spec s a la
  have h2 := tsame_spec d ld
  refine mkQ fol J0s Tryz.func25 a25 ?_
  unfold a25
  simp only [init_eq, initE, qm, qr, qn]
  exact wdQ @bz_SF0
def a17 : AC := .seq (.reg [qr 2 (.mv (.k .nl))])
 (.seq (.reg [qr 3 (.bsl 29 1 0 [] []),
 qm 4 0,
 qr 5 (.app 29 1 8 (.t 3) (.t 4)),
 qm 2 5])
 (.ret))
theorem tcopyN_spec (a : List Nat) (la : a.length ≤ 1000000000) : AFun Tryz.prog J0 17 [.l 1 (W a)] (.o 29 1 (W a)) := by
  refine mkQ fol J0s Tryz.func17 a17 ?_
  unfold a17
  simp only [init_eq, initE, qm, qr, qn]
  refine spQ (ai @nappA @bz_SF0) ?_
  exact rtQ (ai @nappA @bz_SF0)
def a59 : AC := .seq (.reg [qr 1 (.bx 27 (.t 0)),
 qr 2 (.al 27 [(.b false), (.l 1 [])])])
 (.seq (.dreg [qr 3 (.fad 0 (.t 1)),
 qr 4 (.ld false 1 (.t 3)),
 qr 5 (.fad 1 (.t 1)),
 qr 6 (.ld false 1 (.t 5)),
 qr 7 (.call 17 [(1, (.t 6))]),
 qr 8 (.bld [(.b false), (.l 1 [])] [(0, 1, (.t 4)), (1, 1, (.t 7))]),
 qn (.st 2 (.t 2) (.t 8))])
 (.ret))
theorem tcopyI_spec (s : Bool) (a : List Nat) (la : a.length ≤ 1000000000) : AFun Tryz.prog J0 59 [zL s a] (zL s a) := by
  have h := (tcopyN_spec a la).frozen
  refine mkcQ fol J0s Tryz.func59 a59 [.c 2 true 2] ?_
  unfold a59
  simp only [init_eq, initE, qm, qr, qn]
  exact wcQ @bz_SF0
def a28 : AC := .seq (.reg [qr 1 (.bx 31 (.t 0)),
 qr 2 (.al 31 [(.b false), (.l 1 []), (.l 1 [])])])
 (.seq (.dreg [qr 3 (.fad 0 (.t 1)),
 qr 4 (.ld true 2 (.t 3)),
 qr 5 (.call 59 [(1, (.t 4))]),
 qr 6 (.fad 2 (.t 1)),
 qr 7 (.ld false 1 (.t 6)),
 qr 8 (.call 17 [(1, (.t 7))]),
 qr 9 (.bld [(.b false), (.l 1 []), (.l 1 [])] [(0, 2, (.t 5)), (2, 1, (.t 8))]),
 qn (.st 3 (.t 2) (.t 9))])
 (.ret))
theorem tcopyR_spec (s : Bool) (a d : List Nat) (la : a.length ≤ 1000000000) (ld : d.length ≤ 1000000000) : AFun Tryz.prog J0 28 [rL s a d] (rL s a d) := by
  have h1 := tcopyI_spec s a la
  have h2 := (tcopyN_spec d ld).frozen
  refine mkcQ fol J0s Tryz.func28 a28 [.c 2 true 3] ?_
  unfold a28
  simp only [init_eq, initE, qm, qr, qn]
  exact wcQ @bz_SF0
def a5 : AC := .seq (.reg [qr 2 (.al 27 [(.b false), (.l 1 [])])])
 (.seq (.seq (.reg [qm 3 0,
 qr 4 (.bin .eql (.t 3) (.k (.i .i64 0)))])
 (.cond (.t 4)
 (.seq (.reg [qr 5 (.bld [(.b false), (.l 1 [])] []),
 qn (.st 2 (.t 2) (.t 5))])
 (.ret))
 (.skip)))
 (.seq (.seq (.reg [qm 6 0,
 qr 7 (.bin .lss (.t 6) (.k (.i .i64 0)))])
 (.cond (.t 7)
 (.seq (.reg [qm 8 0,
 qr 9 (.un .neg (.t 8)),
 qr 10 (.cvt .u64 (.t 9)),
 qr 11 (.bsl 29 1 1 [(.i .u64 0)] [(0, (.t 10))]),
 qr 12 (.bld [(.b false), (.l 1 [])] [(0, 1, (.k (.b true))), (1, 1, (.t 11))]),
 qn (.st 2 (.t 2) (.t 12))])
 (.ret))
 (.skip)))
 (.seq (.reg [qm 13 0,
 qr 14 (.cvt .u64 (.t 13)),
 qr 15 (.bsl 29 1 1 [(.i .u64 0)] [(0, (.t 14))]),
 qr 16 (.bld [(.b false), (.l 1 [])] [(1, 1, (.t 15))]),
 qn (.st 2 (.t 2) (.t 16))])
 (.ret))))
theorem nv_all0 {d : List Nat} (hd : Wd d) (h : nv B d = 0) (i : Nat) : d.getD i 0 = 0 := by
  rw [nv_digit B0 hd i, h, Nat.zero_div, Nat.zero_mod]
def a26 : AC := .seq (.reg [qr 1 (.bx 31 (.t 0)),
 qr 2 (.mv (.k (.b false)))])
 (.seq (.seq (.reg [qr 5 (.fad 2 (.t 1)),
 qr 6 (.ld false 1 (.t 5)),
 qr 7 (.len (.t 6)),
 qr 8 (.mv (.k (.i .i64 0)))])
 (.blk 0
 (.loop
 (.seq (.reg [qr 9 (.bin .lss (.t 8) (.t 7))])
 (.seq (.cond (.t 9)
 (.skip)
 (.exit 0))
 (.seq (.blk 1
 (.seq (.reg [qr 10 (.idx 1 (.t 6) (.t 8)),
 qr 11 (.ld false 1 (.t 10)),
 qm 4 11])
 (.seq (.reg [qm 12 4,
 qr 13 (.bin .neq (.t 12) (.k (.i .u64 0)))])
 (.cond (.t 13)
 (.seq (.reg [qr 2 (.mv (.k (.b true)))])
 (.ret))
 (.skip)))))
 (.reg [qr 14 (.bin .add (.t 8) (.k (.i .i64 1))),
 qm 8 14])))))))
 (.seq (.reg [qr 2 (.mv (.k (.b false)))])
 (.ret)))
theorem tmeans_spec (s : Bool) (a d : List Nat) (hd : Wd d) (ld : d.length ≤ 1000000000) : AFun Tryz.prog J0 26 [rL s a d] (.b (decide (nv B d ≠ 0))) := by
  refine mkQ fol J0s Tryz.func26 a26 ?_
  unfold a26
  simp only [init_eq, initE, qm, qr, qn]
  refine spQ @bz_SF0 ?_
  refine vm_loopA [] Nat (fun i => ⟨[(6, .l 1 (W d)), (7, .i .i64 (d.length : Int)), (8, .i .i64 (i : Int))], [], 0⟩) (fun i => i ≤ d.length ∧ nv B (d.take i) = 0) (fun i => d.length - i) 0 ⟨Nat.zero_le _, rfl⟩ (by exact leQ) (by
    exact ltQ) ?_
  rintro i ⟨hi, hz⟩ Q' hQ he hr
  by_cases h : (i : Int) < (d.length : Int)
  · have hg := W_get d i (by omega)
    by_cases h0 : ((d.getD i 0 : Nat) : Int) = 0
    · have h0' : d.getD i 0 = 0 := by omega
      refine spQ (ai @h0 (ai @hg (ai @h @bz_SF0))) ?_
      refine hQ _ (i + 1) ⟨by omega, by rw [nv_take_succ', hz, h0', Nat.mul_zero]⟩ (by omega) ?_
      exact ltQ
    · have e : decide (nv B d ≠ 0) = true := decide_eq_true fun hn => h0 (by rw [nv_all0 hd hn i]; rfl)
      refine spQ (ai @h0 (ai @hg (ai @h @bz_SF0))) ?_
      refine hr _ ?_
      exact pdQ (ai @e @bz_SF0)
  · obtain rfl : i = d.length := by omega
    rw [List.take_length] at hz
    have e : decide (nv B d ≠ 0) = false := decide_eq_false fun hn => hn hz
    refine spQ (ai @h @bz_SF0) ?_
    refine he _ _ ?_
    refine spQ @bz_SF0 ?_
    exact rtQ (ai @e @bz_SF0)
end Go.Proofs.YtbkpaeejjepnpaaGreat
