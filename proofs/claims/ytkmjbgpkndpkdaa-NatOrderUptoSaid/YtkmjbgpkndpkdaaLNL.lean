/-
  NatLists, NatOrder: the laws' walks.
-/
import Derived.Test.YtkmjbgpkndpkdaaNS7
namespace Go.Proofs.Ytkmjbgpkndpkdaa
open Go Go.RowKit Ab
set_option linter.unusedSimpArgs false
set_option linter.unusedVariables false
set_option maxHeartbeats 10000000
theorem bz_LNL : type_of% (And.intro @wi (And.intro @tn_nat (And.intro @Nat.div_one (And.intro @Nat.mul_one (And.intro @W_len (And.intro @W_nf (And.intro @W_cell (And.intro @W_nil (@W_get))))))))) := And.intro @wi (And.intro @tn_nat (And.intro @Nat.div_one (And.intro @Nat.mul_one (And.intro @W_len (And.intro @W_nf (And.intro @W_cell (And.intro @W_nil (@W_get))))))))
theorem Ww1 {x : Nat} (h : x < 18446744073709551616) : Wd [x] := fun y hy => by rw [List.mem_singleton] at hy; rw [hy]; exact h
theorem Ww2 {x y : Nat} (h : x < 18446744073709551616) (k : y < 18446744073709551616) : Wd [x, y] := fun z hz => by
  rcases List.mem_cons.1 hz with h1 | h1
  · rw [h1]; exact h
  · rw [List.mem_singleton.1 h1]; exact k
def a5 : AC := .seq (.reg [qr 0 (.mv (.k (.b false)))])
 (.seq (.reg [qr 1 (.bsl 34 1 1 [(.i .u64 0)] [(0, (.k (.i .u64 18446744073709551615)))]),
 qr 2 (.bsl 34 1 1 [(.i .u64 0)] [(0, (.k (.i .u64 1)))]),
 qr 3 (.call 14 [(1, (.t 1)), (1, (.t 2))]),
 qr 4 (.bsl 34 1 2 [(.i .u64 0), (.i .u64 0)] [(0, (.k (.i .u64 0))), (1, (.k (.i .u64 1)))]),
 qr 5 (.call 6 [(1, (.t 3)), (1, (.t 4))]),
 qm 6 5,
 ⟨some 7, some (6, true), .bsl 34 1 2 [(.i .u64 0), (.i .u64 0)] [(0, (.k (.i .u64 2))), (1, (.k (.i .u64 0)))]⟩,
 ⟨some 8, some (6, true), .bsl 34 1 1 [(.i .u64 0)] [(0, (.k (.i .u64 1)))]⟩,
 ⟨some 9, some (6, true), .call 12 [(1, (.t 7)), (1, (.t 8))]⟩,
 ⟨some 10, some (6, true), .bin .eql (.t 9) (.k (.i .i64 1))⟩,
 qr 11 (.pick (.t 6) (.t 10) (.k (.b false))),
 qm 0 11])
 (.ret))
theorem lknown_spec : AFun Try.prog J0 5 [] (.b true) := by
  have h1 := add_spec [18446744073709551615] [1] (Ww1 (by decide)) (Ww1 (by decide)) (by decide) (by decide)
  rw [show dg B (nv B [18446744073709551615] + nv B [1]) = [0, 1] from by rw [show nv B [18446744073709551615] + nv B [1] = nv B [0, 1] from rfl, ← tz_dg B2 (Ww2 (by decide) (by decide))]; rfl] at h1
  have h2 := same_spec [0, 1] [0, 1] (by decide) (by decide)
  have h3 := cmp_spec [2, 0] [1] (Ww2 (by decide) (by decide)) (Ww1 (by decide)) (by decide) (by decide)
  rw [show sg (nv B [2, 0]) (nv B [1]) = 1 from by decide] at h3
  refine mkQ fol J0s Try.func5 a5 ?_
  unfold a5
  simp only [init_eq, initE, qm, qr, qn]
  exact wdQ (ai @lconsA (ai @lnilA @bz_LNL))
theorem srt_all (L : List Nat) (n : Nat) (hn : n = L.length) : (srt L 0 n).length = n ∧ (srt L 0 n).Perm L ∧ SoB (srt L 0 n) 0 n := by
  subst hn
  obtain ⟨h1, h2⟩ := srt_spec L (Nat.zero_le _) (Nat.le_refl _)
  exact ⟨h1.1, h1.2.1, h2⟩
def a3 : AC := .seq (.reg [qr 2 (.mv (.k (.b false)))])
 (.seq (.seq (.reg [qr 6 (.call 5 []),
 qr 7 (.un .not (.t 6)),
 qm 8 7,
 ⟨some 9, some (8, false), .mv (.t 0)⟩,
 ⟨some 10, some (8, false), .call 7 [(1, (.t 9))]⟩,
 ⟨some 11, some (8, false), .mv (.t 0)⟩,
 ⟨some 12, some (8, false), .call 8 [(1, (.t 11))]⟩,
 ⟨some 13, some (8, false), .call 6 [(1, (.t 10)), (1, (.t 12))]⟩,
 ⟨some 14, some (8, false), .un .not (.t 13)⟩,
 qr 15 (.pick (.t 8) (.k (.b true)) (.t 14))])
 (.cond (.t 15)
 (.seq (.reg [qr 2 (.mv (.k (.b false)))])
 (.ret))
 (.skip)))
 (.seq (.reg [qm 16 0,
 qr 17 (.call 9 [(1, (.t 16))]),
 qm 18 0,
 qr 19 (.call 10 [(1, (.t 18))]),
 qm 3 17,
 qm 4 19])
 (.seq (.seq (.reg [qm 20 3,
 qr 21 (.len (.t 20)),
 qm 22 4,
 qr 23 (.len (.t 22)),
 qr 24 (.bin .neq (.t 21) (.t 23))])
 (.cond (.t 24)
 (.seq (.reg [qr 2 (.mv (.k (.b false)))])
 (.ret))
 (.skip)))
 (.seq (.seq (.reg [qr 5 (.mv (.k (.i .i64 0)))])
 (.blk 0
 (.loop
 (.seq (.seq (.reg [qm 25 5,
 qm 26 3,
 qr 27 (.len (.t 26)),
 qr 28 (.bin .lss (.t 25) (.t 27))])
 (.cond (.t 28)
 (.skip)
 (.exit 0)))
 (.seq (.blk 1
 (.seq (.dreg [qm 31 3,
 qm 32 5,
 qr 33 (.idx 1 (.t 31) (.t 32)),
 qr 34 (.ld false 1 (.t 33)),
 qm 35 4,
 qm 36 5,
 qr 37 (.idx 1 (.t 35) (.t 36)),
 qr 38 (.ld false 1 (.t 37)),
 qr 39 (.call 6 [(1, (.t 34)), (1, (.t 38))]),
 qr 40 (.un .not (.t 39))])
 (.cond (.t 40)
 (.seq (.reg [qr 2 (.mv (.k (.b false)))])
 (.ret))
 (.skip))))
 (.reg [qm 29 5,
 qr 30 (.bin .add (.t 29) (.k (.i .i64 1))),
 qm 5 30]))))))
 (.seq (.reg [qr 2 (.mv (.k (.b true)))])
 (.ret))))))
theorem natLists_spec (l : List (List Nat)) (m : Nat) (h : NOk l m) (hm : m ≤ 10000000) : AFun Try.prog J0 3 [.l 1 (RV l)] (.b true) := by
  have kn := lknown_spec
  have s1 := nsum_spec l m h (by omega)
  have s2 := rsum_spec l m h (by omega)
  have ls := sm_B h (by omega) l.length (Nat.le_refl _)
  have c1 := same_spec (dg B (sm (vs l) l.length)) (dg B (sm (vs l) l.length)) (by omega) (by omega)
  have q1 := (nsorted_spec l m h (by omega)).frozen
  have q2 := (rsorted_spec l m h (by omega)).frozen
  obtain ⟨r1, r2, r3⟩ := srt_all (vs l) l.length (vs_len l).symm
  have hs := SmL_vs h (by omega)
  have c2 : ∀ i, i < l.length → AFun Try.prog J0 6 [.l 1 (W (dg B ((srt (vs l) 0 l.length).getD i 0))), .l 1 (W (dg B ((srt (vs l) 0 l.length).getD i 0)))] (.b true) := fun i hi => by
    have hb : (dg B ((srt (vs l) 0 l.length).getD i 0)).length ≤ 1099511627776 := by
      rw [List.getD_eq_getElem?_getD, List.getElem?_eq_getElem (by omega)]
      exact hs _ (r2.mem_iff.1 (List.getElem_mem _))
    have := same_spec (dg B ((srt (vs l) 0 l.length).getD i 0)) (dg B ((srt (vs l) 0 l.length).getD i 0)) (by omega) (by omega)
    rw [decide_eq_true rfl] at this
    exact this
  rw [decide_eq_true rfl] at c1
  have hl := h.1
  generalize dg B (sm (vs l) l.length) = x at *
  generalize srt (vs l) 0 l.length = S at *
  have kS : (NV S).length = l.length := by rw [NV_len, r1]
  refine mkQ fol J0s Try.func3 a3 ?_
  unfold a3
  simp only [init_eq, initE, qm, qr, qn]
  refine wkQ (ai @kS (ai @lconsA (ai @lnilA @bz_LNL))) ?_
  refine vm_loopA [] Nat (fun i => ⟨[(3, .l 1 (NV S)), (4, .l 1 (NV S)), (5, .i .i64 (i : Int))], [], 0⟩) (fun i => i ≤ l.length) (fun i => l.length - i) 0 (Nat.zero_le _) (by exact leQ) (by
    exact ltQ) ?_
  intro i hi Q' hQ he hr
  by_cases h1 : (i : Int) < (l.length : Int)
  · have c3 := c2 i (by omega)
    have g1 := NV_get S i (by omega)
    have wi1 := iadd1 (show i ≤ 1099511627776 by omega)
    refine wkQ (ai @wi1 (ai @g1 (ai @kS (ai @h1 (ai @lconsA (ai @lnilA @bz_LNL)))))) ?_
    refine hQ _ (i + 1) (by omega) (by omega) ?_
    exact ltQ
  · refine spQ (ai @kS (ai @h1 (ai @lconsA (ai @lnilA @bz_LNL)))) ?_
    refine he _ _ ?_
    refine spQ (ai @lconsA (ai @lnilA @bz_LNL)) ?_
    exact rtQ (ai @lconsA (ai @lnilA @bz_LNL))
end Go.Proofs.Ytkmjbgpkndpkdaa
