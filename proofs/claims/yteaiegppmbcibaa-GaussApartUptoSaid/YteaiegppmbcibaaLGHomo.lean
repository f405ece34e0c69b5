/-
  GaussHomo: the law's walk.
-/
import Derived.Test.YteaiegppmbcibaaH1
import Derived.Test.YteaiegppmbcibaaLGKn
namespace Go.Proofs.Yteaiegppmbcibaa
open Go Go.RowKit Ab
set_option linter.unusedSimpArgs false
set_option linter.unusedVariables false
set_option maxHeartbeats 10000000
theorem bz_LGHomo : type_of% (And.intro @W_len (And.intro @D_len (And.intro @Nat.div_one (And.intro @Nat.mul_one (And.intro @tn_nat (And.intro @W_nf (And.intro @D_nf (And.intro @W_nil (And.intro @D_nil (And.intro @wi (And.intro @nf_g (And.intro @Bool.false_and (And.intro @W_cell (And.intro @ZC_cell (@ZC_nil))))))))))))))) := And.intro @W_len (And.intro @D_len (And.intro @Nat.div_one (And.intro @Nat.mul_one (And.intro @tn_nat (And.intro @W_nf (And.intro @D_nf (And.intro @W_nil (And.intro @D_nil (And.intro @wi (And.intro @nf_g (And.intro @Bool.false_and (And.intro @W_cell (And.intro @ZC_cell (@ZC_nil))))))))))))))
def sm1 (p : Bool × List Nat) : Int := if p.1 then -((p.2.headD 0 % 10 : Nat) : Int) else ((p.2.headD 0 % 10 : Nat) : Int)
def sml (l : List (Bool × List Nat)) : List Int := (l.take 5).map sm1
theorem sm1_le (p : Bool × List Nat) : (sm1 p).natAbs ≤ 9 := by unfold sm1; split <;> omega
theorem sml_len (l : List (Bool × List Nat)) : (sml l).length = min 5 l.length := by unfold sml; rw [List.length_map, List.length_take]
theorem sml_Cb (l : List (Bool × List Nat)) : Cb (sml l) 9 := fun i => by
  unfold sml
  rw [List.getD_eq_getElem?_getD, List.getElem?_map]
  cases (l.take 5)[i]? with
  | none => simp
  | some p => exact sm1_le p
theorem sml_get (l : List (Bool × List Nat)) (i : Nat) (h : i < min 5 l.length) : (sml l).getD i 0 = sm1 (l.getD i (false, [])) := by
  unfold sml
  rw [List.getD_eq_getElem?_getD, List.getElem?_map, List.getElem?_take, if_pos (by omega), List.getD_eq_getElem?_getD, List.getElem?_eq_getElem (by omega)]; rfl
theorem ZC_get0 : ∀ (l : List (Bool × List Nat)) (i : Nat), i < l.length → (ZC l).getD (i * 2) .un = .b (l.getD i (false, [])).1
  | [], i, h => by simp at h
  | p :: r, 0, h => rfl
  | p :: r, i + 1, h => by
    have := ZC_get0 r i (by simpa using h)
    rw [show (i + 1) * 2 = (i * 2 + 1) + 1 from by omega]
    exact this
theorem tmod_10 (a : Nat) : (a : Int).tmod 10 = ((a % 10 : Nat) : Int) := rfl
def a6 : AC := .seq (.reg [qr 2 (.mv (.k .nl))])
 (.seq (.reg [qr 3 (.mv (.k .nl))])
 (.seq (.seq (.reg [qr 4 (.mv (.k (.i .i64 0)))])
 (.blk 0
 (.loop
 (.seq (.seq (.reg [qm 6 4,
 qm 7 0,
 qr 8 (.len (.t 7)),
 qr 9 (.bin .lss (.t 6) (.t 8)),
 qm 10 9,
 ⟨some 11, some (10, true), .mv (.t 4)⟩,
 ⟨some 12, some (10, true), .bin .lss (.t 11) (.k (.i .i64 5))⟩,
 qr 13 (.pick (.t 10) (.t 12) (.k (.b false)))])
 (.cond (.t 13)
 (.skip)
 (.exit 0)))
 (.seq (.blk 1
 (.seq (.reg [qr 5 (.mv (.k (.i .i64 0)))])
 (.seq (.seq (.reg [qm 16 0,
 qm 17 4,
 qr 18 (.idx 2 (.t 16) (.t 17)),
 qr 19 (.fad 1 (.t 18)),
 qr 20 (.ld false 1 (.t 19)),
 qr 21 (.len (.t 20)),
 qr 22 (.bin .gtr (.t 21) (.k (.i .i64 0)))])
 (.cond (.t 22)
 (.reg [qm 23 0,
 qm 24 4,
 qr 25 (.idx 2 (.t 23) (.t 24)),
 qr 26 (.fad 1 (.t 25)),
 qr 27 (.ld false 1 (.t 26)),
 qr 28 (.idx 1 (.t 27) (.k (.i .i64 0))),
 qr 29 (.ld false 1 (.t 28)),
 qr 30 (.bin .rem (.t 29) (.k (.i .u64 10))),
 qr 31 (.cvt .i64 (.t 30)),
 qm 5 31])
 (.skip)))
 (.seq (.seq (.reg [qm 32 0,
 qm 33 4,
 qr 34 (.idx 2 (.t 32) (.t 33)),
 qr 35 (.fad 0 (.t 34)),
 qr 36 (.ld false 1 (.t 35))])
 (.cond (.t 36)
 (.reg [qm 37 5,
 qr 38 (.un .neg (.t 37)),
 qm 5 38])
 (.skip)))
 (.reg [qm 39 3,
 qm 40 5,
 qr 41 (.call 18 [(1, (.t 40))]),
 qr 42 (.bsl 58 2 1 [(.b false), (.l 1 [])] [(0, (.t 41))]),
 qr 43 (.app 58 2 32 (.t 39) (.t 42)),
 qm 3 43])))))
 (.reg [qm 14 4,
 qr 15 (.bin .add (.t 14) (.k (.i .i64 1))),
 qm 4 15]))))))
 (.seq (.reg [qm 44 3,
 qm 2 44])
 (.ret))))
theorem small_spec (l : List (Bool × List Nat)) (m : Nat) (hm : m ≤ 9223372036854775807) (hl : ZOk l m) : AFun Try.prog J0 6 [.l 2 (ZC l)] (.l 2 (ZC (nfl (sml l)))) := by
  have hz := ZC_len l
  have hd : l.length * 2 / 2 = l.length := by omega
  have hlm : l.length ≤ m := hl.1
  obtain ⟨n, hn⟩ : ∃ n, n = min 5 l.length := ⟨_, rfl⟩
  have ln : (sml l).length = n := by rw [sml_len, hn]
  refine mkQ fol J0s Try.func6 a6 ?_
  unfold a6
  simp only [init_eq, initE, qm, qr, qn]
  refine spQ @bz_LGHomo ?_
  refine vm_loopA [(3, 58, 2)] Nat (fun i => ⟨[(0, .l 2 (ZC l)), (3, .ow 2 0 i), (4, .i .i64 (i : Int))], [(0, some ⟨58, 2, ZC (nfl ((sml l).take i)), true, false⟩)], 1⟩)
    (fun i => i ≤ n) (fun i => n - i) 0 (Nat.zero_le _) (by exact leQ) (by
    exact ltQ) ?_
  intro i hi Q' hQ he hr
  by_cases h : (i : Int) < (n : Int)
  · have hil : i < l.length := by omega
    have h1 : (i : Int) < (l.length : Int) := by omega
    have h5 : (i : Int) < 5 := by omega
    obtain ⟨r1, r2⟩ := ZC_row l i hil
    have r0 := ZC_get0 l i hil
    obtain ⟨wa, la⟩ := hl.2 _ (getD_mem hil)
    have hg := sml_get l i (by omega)
    have hle := sm1_le (l.getD i (false, []))
    have hap := ZC_app1 (nfl ((sml l).take i)) ((sml l).getD i 0)
    rw [show nfl ((sml l).take i) ++ [nfp ((sml l).getD i 0)] = nfl ((sml l).take (i + 1)) from by unfold nfl; rw [take_snoc (sml l) i (by omega), List.map_append]; rfl] at hap
    have l0 := ZN_len ((sml l).take i)
    have l1 := ZN_len ((sml l).take (i + 1))
    rw [List.length_take] at l0 l1
    rw [hg] at hap
    have hZ := hZ_spec (sm1 (l.getD i (false, []))) (by omega) (by omega)
    generalize l.getD i (false, []) = p at *
    obtain ⟨s, a⟩ := p
    unfold sm1 at hZ hap hle
    simp only [] at hZ hap hle wa r1 r2 r0
    cases a with
    | nil =>
      cases s with
      | false =>
        simp only [List.headD_nil, Nat.zero_mod, Bool.false_eq_true, if_false] at hZ hap
        try rw [show decide (((0 : Nat) : Int) < 0) = false from rfl] at hap
        try rw [show ((0 : Nat) : Int) = 0 from rfl] at hap
        refine wkQ (ai @hap (ai @lnilA (ai @Nat.add_zero (ai @r2 (ai @r0 (ai @hz (ai @hd (ai @h5 (ai @h1 @bz_LGHomo))))))))) ?_
        refine hQ _ (i + 1) (by omega) (by omega) ?_
        exact ltQ
        all_goals exact hap
      | true =>
        simp only [List.headD_nil, Nat.zero_mod, if_true] at hZ hap
        rw [show (-((0 : Nat) : Int)) = 0 from rfl] at hZ hap
        try rw [show decide ((0 : Int) < 0) = false from rfl] at hap
        refine wkQ (ai @hap (ai @lnilA (ai @Nat.add_zero (ai @r2 (ai @r0 (ai @hz (ai @hd (ai @h5 (ai @h1 @bz_LGHomo))))))))) ?_
        refine hQ _ (i + 1) (by omega) (by omega) ?_
        exact ltQ
        all_goals exact hap
    | cons w r =>
      have hw0 := W_get (w :: r) 0 (by simp)
      rw [show (w :: r).getD 0 0 = w from rfl] at hw0
      have hl0 : (0 : Int) < ((w :: r).length : Int) := by simp only [List.length_cons]; omega
      have hl1 : 0 < (w :: r).length := by simp
      have wq : IntKind.i64.wrap ((w % 10 : Nat) : Int) = ((w % 10 : Nat) : Int) := wi (by omega)
      have wn : IntKind.i64.wrap (0 - ((w % 10 : Nat) : Int)) = -((w % 10 : Nat) : Int) := by rw [wi (by omega)]; omega
      cases s with
      | false =>
        simp only [List.headD_cons, Bool.false_eq_true, if_false] at hZ hap
        generalize w :: r = aw at *
        refine wkQ (ai @hap (ai @wq (ai @tmod_10 (ai @Int.toNat_zero (ai @hw0 (ai @hl1 (ai @hl0 (ai @Nat.add_zero (ai @r2 (ai @r0 (ai @hz (ai @hd (ai @h5 (ai @h1 @bz_LGHomo)))))))))))))) ?_
        refine hQ _ (i + 1) (by omega) (by omega) ?_
        exact ltQ
      | true =>
        simp only [List.headD_cons, if_true] at hZ hap
        generalize w :: r = aw at *
        refine wkQ (ai @hap (ai @wn (ai @wq (ai @tmod_10 (ai @Int.toNat_zero (ai @hw0 (ai @hl1 (ai @hl0 (ai @Nat.add_zero (ai @r2 (ai @r0 (ai @hz (ai @hd (ai @h5 (ai @h1 @bz_LGHomo))))))))))))))) ?_
        refine hQ _ (i + 1) (by omega) (by omega) ?_
        exact ltQ
  · obtain rfl : i = n := by omega
    rw [show (sml l).take i = sml l from List.take_of_length_le (by omega)]
    by_cases h1 : (i : Int) < (l.length : Int)
    · have h5 : ¬ (i : Int) < 5 := by omega
      refine spQ (ai @hz (ai @hd (ai @h5 (ai @h1 @bz_LGHomo)))) ?_
      refine he _ _ ?_
      refine spQ @bz_LGHomo ?_
      exact rtQ @bz_LGHomo
    · refine spQ (ai @hz (ai @hd (ai @h1 @bz_LGHomo))) ?_
      refine he _ _ ?_
      refine spQ @bz_LGHomo ?_
      exact rtQ @bz_LGHomo
end Go.Proofs.Yteaiegppmbcibaa
