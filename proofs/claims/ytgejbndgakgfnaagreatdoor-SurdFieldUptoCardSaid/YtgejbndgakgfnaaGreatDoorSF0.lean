/-
  surdtop: rationals copied, compared; do they mean something.
-/
import Derived.Test.YtgejbndgakgfnaaGreatDoorQV
import Derived.Test.YtgejbndgakgfnaaGreatDoorQE
namespace Go.Proofs.YtgejbndgakgfnaaGreatDoor
open Go Go.RowKit Ab
set_option linter.unusedSimpArgs false
set_option linter.unusedVariables false
set_option maxHeartbeats 10000000
theorem bz_SF0 : type_of% (And.intro @W_len (And.intro @D_len (And.intro @Nat.div_one (And.intro @Nat.mul_one (And.intro @tn_nat (And.intro @W_nf (And.intro @D_nf (And.intro @W_nil (And.intro @D_nil (And.intro @wi (And.intro @nf_g (And.intro @Bool.false_and (@W_cell))))))))))))) := And.intro @W_len (And.intro @D_len (And.intro @Nat.div_one (And.intro @Nat.mul_one (And.intro @tn_nat (And.intro @W_nf (And.intro @D_nf (And.intro @W_nil (And.intro @D_nil (And.intro @wi (And.intro @nf_g (And.intro @Bool.false_and (@W_cell))))))))))))
def a18 : AC := .seq (.reg [qr 4 (.mv (.k (.b false)))])
 (.seq (.seq (.reg [qm 6 0,
 qr 7 (.len (.t 6)),
 qm 8 1,
 qr 9 (.len (.t 8)),
 qr 10 (.bin .neq (.t 7) (.t 9))])
 (.cond (.t 10)
 (.seq (.reg [qr 4 (.mv (.k (.b false)))])
 (.ret))
 (.skip)))
 (.seq (.seq (.reg [qm 11 0,
 qr 12 (.len (.t 11)),
 qr 13 (.mv (.k (.i .i64 0)))])
 (.blk 0
 (.loop
 (.seq (.reg [qr 14 (.bin .lss (.t 13) (.t 12))])
 (.seq (.cond (.t 14)
 (.skip)
 (.exit 0))
 (.seq (.blk 1
 (.seq (.reg [qm 15 13,
 qm 5 15])
 (.seq (.dreg [qm 16 0,
 qm 17 5,
 qr 18 (.idx 1 (.t 16) (.t 17)),
 qr 19 (.ld false 1 (.t 18)),
 qm 20 1,
 qm 21 5,
 qr 22 (.idx 1 (.t 20) (.t 21)),
 qr 23 (.ld false 1 (.t 22)),
 qr 24 (.bin .neq (.t 19) (.t 23))])
 (.cond (.t 24)
 (.seq (.reg [qr 4 (.mv (.k (.b false)))])
 (.ret))
 (.skip)))))
 (.reg [qr 25 (.bin .add (.t 13) (.k (.i .i64 1))),
 qm 13 25])))))))
 (.seq (.reg [qr 4 (.mv (.k (.b true)))])
 (.ret))))
theorem tsame_spec (a : List Nat) (la : a.length ≤ 1000000000) : AFun Tryz.prog J0 18 [.l 1 (W a), .l 1 (W a)] (.b true) := by
  refine mkQ fol J0s Tryz.func18 a18 ?_
  unfold a18
  simp only [init_eq, initE, qm, qr, qn]
  refine spQ @bz_SF0 ?_
  refine vm_loopA [] Nat (fun i => ⟨[(0, .l 1 (W a)), (1, .l 1 (W a)), (12, .i .i64 (a.length : Int)), (13, .i .i64 (i : Int))], [], 0⟩) (fun i => i ≤ a.length) (fun i => a.length - i) 0 (Nat.zero_le _) (by exact leQ) (by
    exact ltQ) ?_
  intro i hi Q' hQ he hr
  by_cases h : (i : Int) < (a.length : Int)
  · refine spQ (ai @W_get (ai @h @bz_SF0)) ?_
    refine hQ _ (i + 1) (by omega) (by omega) ?_
    exact ltQ
  · obtain rfl : i = a.length := by omega
    refine spQ (ai @h @bz_SF0) ?_
    refine he _ _ ?_
    refine spQ @bz_SF0 ?_
    exact rtQ @bz_SF0
def a17 : AC := .seq (.reg [qr 2 (.bx 25 (.t 0)),
 qr 3 (.bx 25 (.t 1)),
 qr 4 (.mv (.k (.b false)))])
 (.seq (.reg [qr 5 (.fad 0 (.t 2)),
 qr 6 (.ld false 1 (.t 5)),
 qr 7 (.fad 0 (.t 3)),
 qr 8 (.ld false 1 (.t 7)),
 qr 9 (.eqb false (.t 6) (.t 8)),
 qm 10 9,
 ⟨some 11, some (10, true), .fad 1 (.t 2)⟩,
 ⟨some 12, some (10, true), .ld false 1 (.t 11)⟩,
 ⟨some 13, some (10, true), .fad 1 (.t 3)⟩,
 ⟨some 14, some (10, true), .ld false 1 (.t 13)⟩,
 ⟨some 15, some (10, true), .call 18 [(1, (.t 12)), (1, (.t 14))]⟩,
 qr 16 (.pick (.t 10) (.t 15) (.k (.b false))),
 qm 4 16])
 (.ret))
theorem tsameI_spec (s : Bool) (a : List Nat) (la : a.length ≤ 1000000000) : AFun Tryz.prog J0 17 [zL s a, zL s a] (.b true) := by
  have h := tsame_spec a la
  have hs : (s == s) = true := by cases s <;> rfl
  refine mkQ fol J0s Tryz.func17 a17 ?_
  unfold a17
  simp only [init_eq, initE, qm, qr, qn]
  exact wdQ (ai @hs @bz_SF0)
def a5 : AC := .seq (.reg [qr 2 (.bx 27 (.t 0)),
 qr 3 (.bx 27 (.t 1)),
 qr 4 (.mv (.k (.b false)))])
 (.seq (.reg [qr 5 (.fad 0 (.t 2)),
 qr 6 (.ld true 2 (.t 5)),
 qr 7 (.fad 0 (.t 3)),
 qr 8 (.ld true 2 (.t 7)),
 qr 9 (.call 17 [(1, (.t 6)), (1, (.t 8))]),
 qm 10 9,
 ⟨some 11, some (10, true), .fad 2 (.t 2)⟩,
 ⟨some 12, some (10, true), .ld false 1 (.t 11)⟩,
 ⟨some 13, some (10, true), .fad 2 (.t 3)⟩,
 ⟨some 14, some (10, true), .ld false 1 (.t 13)⟩,
 ⟨some 15, some (10, true), .call 18 [(1, (.t 12)), (1, (.t 14))]⟩,
 qr 16 (.pick (.t 10) (.t 15) (.k (.b false))),
 qm 4 16])
 (.ret))
theorem tsameR_spec (s : Bool) (a d : List Nat) (la : a.length ≤ 1000000000) (ld : d.length ≤ 1000000000) : AFun Tryz.prog J0 5 [rL s a d, rL s a d] (.b true) := by
  have h1 := tsameI_spec s a la
  have h2 := tsame_spec d ld
  refine mkQ fol J0s Tryz.func5 a5 ?_
  unfold a5
  simp only [init_eq, initE, qm, qr, qn]
  exact wdQ @bz_SF0
theorem tsameQ {p : Rat} {m : Nat} {v : V} (h : Rr v p m) (hm : m ≤ 1000000000) : AFun Tryz.prog J0 5 [rN p.num p.den, rN p.num p.den] (.b true) := by
  obtain ⟨h1, h2⟩ := Rr_num h
  exact tsameR_spec _ _ _ (Nat.le_trans (dlen h1) hm) (Nat.le_trans (dlen h2) hm)
def a22 : AC := .seq (.reg [qr 2 (.mv (.k .nl))])
 (.seq (.reg [qr 3 (.bsl 33 1 0 [] []),
 qm 4 0,
 qr 5 (.app 33 1 8 (.t 3) (.t 4)),
 qm 2 5])
 (.ret))
theorem tcopyN_spec (a : List Nat) (la : a.length ≤ 1000000000) : AFun Tryz.prog J0 22 [.l 1 (W a)] (.o 33 1 (W a)) := by
  refine mkQ fol J0s Tryz.func22 a22 ?_
  unfold a22
  simp only [init_eq, initE, qm, qr, qn]
  refine spQ (ai @nappA @bz_SF0) ?_
  exact rtQ (ai @nappA @bz_SF0)
def a21 : AC := .seq (.reg [qr 1 (.bx 25 (.t 0)),
 qr 2 (.al 25 [(.b false), (.l 1 [])])])
 (.seq (.dreg [qr 3 (.fad 0 (.t 1)),
 qr 4 (.ld false 1 (.t 3)),
 qr 5 (.fad 1 (.t 1)),
 qr 6 (.ld false 1 (.t 5)),
 qr 7 (.call 22 [(1, (.t 6))]),
 qr 8 (.bld [(.b false), (.l 1 [])] [(0, 1, (.t 4)), (1, 1, (.t 7))]),
 qn (.st 2 (.t 2) (.t 8))])
 (.ret))
theorem tcopyI_spec (s : Bool) (a : List Nat) (la : a.length ≤ 1000000000) : AFun Tryz.prog J0 21 [zL s a] (zL s a) := by
  have h := (tcopyN_spec a la).frozen
  refine mkcQ fol J0s Tryz.func21 a21 [.c 2 true 2] ?_
  unfold a21
  simp only [init_eq, initE, qm, qr, qn]
  exact wcQ @bz_SF0
def a9 : AC := .seq (.reg [qr 1 (.bx 27 (.t 0)),
 qr 2 (.al 27 [(.b false), (.l 1 []), (.l 1 [])])])
 (.seq (.dreg [qr 3 (.fad 0 (.t 1)),
 qr 4 (.ld true 2 (.t 3)),
 qr 5 (.call 21 [(1, (.t 4))]),
 qr 6 (.fad 2 (.t 1)),
 qr 7 (.ld false 1 (.t 6)),
 qr 8 (.call 22 [(1, (.t 7))]),
 qr 9 (.bld [(.b false), (.l 1 []), (.l 1 [])] [(0, 2, (.t 5)), (2, 1, (.t 8))]),
 qn (.st 3 (.t 2) (.t 9))])
 (.ret))
theorem tcopyR_spec (s : Bool) (a d : List Nat) (la : a.length ≤ 1000000000) (ld : d.length ≤ 1000000000) : AFun Tryz.prog J0 9 [rL s a d] (rL s a d) := by
  have h1 := tcopyI_spec s a la
  have h2 := (tcopyN_spec d ld).frozen
  refine mkcQ fol J0s Tryz.func9 a9 [.c 2 true 3] ?_
  unfold a9
  simp only [init_eq, initE, qm, qr, qn]
  exact wcQ @bz_SF0
theorem tcopyQ {v : V} {p : Rat} {m : Nat} (h : Rr v p m) (hm : m ≤ 1000000000) : AFun Tryz.prog J0 9 [v] v := by
  obtain ⟨s, a, d, rfl, _, _, la, ld, _, _⟩ := h
  exact tcopyR_spec s a d (by omega) (by omega)
def a6 : AC := .seq (.reg [qr 2 (.al 25 [(.b false), (.l 1 [])])])
 (.seq (.seq (.reg [qm 3 0,
 qr 4 (.bin .eql (.t 3) (.k (.i .i64 0)))])
 (.cond (.t 4)
 (.seq (.reg [qr 5 (.bld [(.b false), (.l 1 [])] []),
 qn (.st 2 (.t 2) (.t 5))])
 (.ret))
 (.skip)))
 (.seq (.seq (.reg [qm 6 0,
 qr 7 (.bin .lss (.t 6) (.k (.i .i64 0)))])
 (.cond (.t 7)
 (.seq (.reg [qm 8 0,
 qr 9 (.un .neg (.t 8)),
 qr 10 (.cvt .u64 (.t 9)),
 qr 11 (.bsl 33 1 1 [(.i .u64 0)] [(0, (.t 10))]),
 qr 12 (.bld [(.b false), (.l 1 [])] [(0, 1, (.k (.b true))), (1, 1, (.t 11))]),
 qn (.st 2 (.t 2) (.t 12))])
 (.ret))
 (.skip)))
 (.seq (.reg [qm 13 0,
 qr 14 (.cvt .u64 (.t 13)),
 qr 15 (.bsl 33 1 1 [(.i .u64 0)] [(0, (.t 14))]),
 qr 16 (.bld [(.b false), (.l 1 [])] [(1, 1, (.t 15))]),
 qn (.st 2 (.t 2) (.t 16))])
 (.ret))))
theorem twhole1 : AFun Tryz.prog J0 6 [.i .i64 1] (.g [.b false, .l 1 [.i .u64 1]]) := by
  refine mkcQ fol J0s Tryz.func6 a6 [.c 2 true 2] ?_
  unfold a6
  simp only [init_eq, initE, qm, qr, qn]
  refine spQ @bz_SF0 ?_
  simp (disch := (first | omega | assumption)) only [retC, rsVs_nil, rsVs_cons, rsV_t, rsV_c, rsp_pt, rsq_t, rsq_f, ocons_ss, retV_1, retV_2, retNV_nil, retNV_cons, retOk, retN, ret1, retF, ret1F, V.okArg, and_true, true_and, S1, ↓reduceIte, Nat.reduceEqDiff, Nat.reduceAdd, Nat.reduceMul, Nat.reduceDiv, AOp.sb, AOp.mut, frzf, ↓Bool.false_eq_true, beq_self_eq_true, ite_self, Nat.reduceLeDiff, Int.reduceEq, Int.reduceSub, Int.reduceAdd, Int.reduceNeg, Int.reduceLT, Int.reduceLE, Nat.reduceLT, bz_SF0, show IntKind.u64.wrap 1 = 1 from rfl]
theorem nv_all0 {d : List Nat} (hd : Wd d) (h : nv B d = 0) (i : Nat) : d.getD i 0 = 0 := by
  rw [nv_digit B0 hd i, h, Nat.zero_div, Nat.zero_mod]
def a7 : AC := .seq (.reg [qr 1 (.bx 27 (.t 0)),
 qr 2 (.mv (.k (.b false)))])
 (.seq (.seq (.reg [qr 5 (.fad 2 (.t 1)),
 qr 6 (.ld false 1 (.t 5)),
 qr 7 (.len (.t 6)),
 qr 8 (.mv (.k (.i .i64 0)))])
 (.blk 0
 (.loop
 (.seq (.reg [qr 9 (.bin .lss (.t 8) (.t 7))])
 (.seq (.cond (.t 9)
 (.skip)
 (.exit 0))
 (.seq (.blk 1
 (.seq (.reg [qr 10 (.idx 1 (.t 6) (.t 8)),
 qr 11 (.ld false 1 (.t 10)),
 qm 4 11])
 (.seq (.reg [qm 12 4,
 qr 13 (.bin .neq (.t 12) (.k (.i .u64 0)))])
 (.cond (.t 13)
 (.seq (.reg [qr 2 (.mv (.k (.b true)))])
 (.ret))
 (.skip)))))
 (.reg [qr 14 (.bin .add (.t 8) (.k (.i .i64 1))),
 qm 8 14])))))))
 (.seq (.reg [qr 2 (.mv (.k (.b false)))])
 (.ret)))
theorem tmeans_spec (s : Bool) (a d : List Nat) (hd : Wd d) (ld : d.length ≤ 1000000000) : AFun Tryz.prog J0 7 [rL s a d] (.b (decide (nv B d ≠ 0))) := by
  refine mkQ fol J0s Tryz.func7 a7 ?_
  unfold a7
  simp only [init_eq, initE, qm, qr, qn]
  refine spQ @bz_SF0 ?_
  refine vm_loopA [] Nat (fun i => ⟨[(6, .l 1 (W d)), (7, .i .i64 (d.length : Int)), (8, .i .i64 (i : Int))], [], 0⟩) (fun i => i ≤ d.length ∧ nv B (d.take i) = 0) (fun i => d.length - i) 0 ⟨Nat.zero_le _, rfl⟩ (by exact leQ) (by
    exact ltQ) ?_
  rintro i ⟨hi, hz⟩ Q' hQ he hr
  by_cases h : (i : Int) < (d.length : Int)
  · have hg := W_get d i (by omega)
    by_cases h0 : ((d.getD i 0 : Nat) : Int) = 0
    · have h0' : d.getD i 0 = 0 := by omega
      refine spQ (ai @h0 (ai @hg (ai @h @bz_SF0))) ?_
      refine hQ _ (i + 1) ⟨by omega, by rw [nv_take_succ', hz, h0', Nat.mul_zero]⟩ (by omega) ?_
      exact ltQ
    · have e : decide (nv B d ≠ 0) = true := decide_eq_true fun hn => h0 (by rw [nv_all0 hd hn i]; rfl)
      refine spQ (ai @h0 (ai @hg (ai @h @bz_SF0))) ?_
      refine hr _ ?_
      exact pdQ (ai @e @bz_SF0)
  · obtain rfl : i = d.length := by omega
    rw [List.take_length] at hz
    have e : decide (nv B d ≠ 0) = false := decide_eq_false fun hn => hn hz
    refine spQ (ai @h @bz_SF0) ?_
    refine he _ _ ?_
    refine spQ @bz_SF0 ?_
    exact rtQ (ai @e @bz_SF0)
theorem qsum_err (l : List (Bool × List Nat × List Nat)) (ll : l.length ≤ 1000) (h : ∀ p, p ∈ l → Wd p.2.2 ∧ p.2.2.length ≤ 1000000000) (hc : ce l = 1) : AFun Tryz.prog J0 8 [.l 3 (RC l)] (.t [.g [.b false, .l 1 [], .l 1 []], .i .i64 1]) := by
  have h1 := qchecks_spec l (by omega) h
  rw [hc] at h1
  refine mkcQ fol J0s Tryz.func8 a8 [.c 2 true 3, .t 3] ?_
  unfold a8
  simp only [init_eq, initE, qm, qr, qn]
  exact wcQ @bz_SF0
end Go.Proofs.YtgejbndgakgfnaaGreatDoor
