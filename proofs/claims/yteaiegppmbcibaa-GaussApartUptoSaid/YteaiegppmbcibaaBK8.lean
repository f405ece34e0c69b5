/-
  The book: the room behind what was handed in is empty.
-/
import Derived.Test.YteaiegppmbcibaaBK7
namespace Go.Proofs.Yteaiegppmbcibaa
open Go Go.RowKit Ab
set_option linter.unusedSimpArgs false
set_option linter.unusedVariables false
set_option maxHeartbeats 10000000
theorem bz_BK8 : type_of% (And.intro @W_len (And.intro @Nat.div_one (And.intro @Nat.mul_one (And.intro @tn_nat (And.intro @W_nf (And.intro @W_nil (And.intro @wi (And.intro @nf_g (And.intro @Bool.false_and (And.intro @W_cell (@ZC_cell))))))))))) := And.intro @W_len (And.intro @Nat.div_one (And.intro @Nat.mul_one (And.intro @tn_nat (And.intro @W_nf (And.intro @W_nil (And.intro @wi (And.intro @nf_g (And.intro @Bool.false_and (And.intro @W_cell (@ZC_cell))))))))))
theorem ZC_opt2 : ∀ (l : List (Bool × List Nat)) (k : Nat), k < l.length → (ZC l)[k * 2]? = some (.b (l.getD k (false, [])).1) ∧ (ZC l)[k * 2 + 1]? = some (.l 1 (W (l.getD k (false, [])).2))
  | [], k, h => by simp at h
  | p :: r, 0, h => ⟨rfl, rfl⟩
  | p :: r, k + 1, h => by
    have := ZC_opt2 r k (by simpa using h)
    rw [show (k + 1) * 2 = k * 2 + 1 + 1 from by omega]
    simpa [ZC] using this
theorem zero_at {l m : List (Bool × List Nat)} (hm : m = l ++ List.replicate 5 (false, [])) {i : Nat} (h1 : l.length ≤ i) (h2 : i < m.length) : (ZC m).getD (i * 2) .un = .b false ∧ (ZC m).getD (i * 2 + 1) .un = .l 1 [] := by
  obtain ⟨a, b⟩ := ZC_opt2 m i h2
  have e : m.getD i (false, []) = (false, []) := by
    rw [hm, List.getD_eq_getElem?_getD, List.getElem?_append_right h1]
    cases hx : (List.replicate 5 ((false, []) : Bool × List Nat))[i - l.length]? with
    | none => rfl
    | some x =>
      have := List.mem_of_getElem? hx
      rw [List.eq_of_mem_replicate this]; rfl
  rw [e] at a b
  rw [List.getD_eq_getElem?_getD, List.getD_eq_getElem?_getD, a, b]
  exact ⟨rfl, rfl⟩
def a11 : AC := .seq (.reg [qr 2 (.mv (.k (.b false)))])
 (.seq (.seq (.reg [qr 3 (.mv (.k (.i .i64 0)))])
 (.blk 0
 (.loop
 (.seq (.seq (.reg [qm 9 3,
 qm 10 0,
 qr 11 (.nc (.t 10)),
 qr 12 (.fad 5 (.t 11)),
 qr 13 (.ld false 1 (.t 12)),
 qr 14 (.len (.t 13)),
 qr 15 (.bin .lss (.t 9) (.t 14))])
 (.cond (.t 15)
 (.skip)
 (.exit 0)))
 (.seq (.blk 1
 (.seq (.reg [qm 18 0,
 qr 19 (.nc (.t 18)),
 qr 20 (.fad 5 (.t 19)),
 qr 21 (.ld false 1 (.t 20)),
 qm 22 3,
 qr 23 (.idx 1 (.t 21) (.t 22)),
 qr 24 (.ld false 1 (.t 23)),
 qm 4 24])
 (.seq (.reg [qm 25 4,
 qr 26 (.len (.t 25)),
 qr 27 (.bin .sub (.t 26) (.k (.i .i64 5))),
 qm 5 27])
 (.blk 2
 (.loop
 (.seq (.seq (.reg [qm 28 5,
 qm 29 4,
 qr 30 (.len (.t 29)),
 qr 31 (.bin .lss (.t 28) (.t 30))])
 (.cond (.t 31)
 (.skip)
 (.exit 2)))
 (.seq (.blk 3
 (.seq (.reg [qm 34 4,
 qm 35 5,
 qr 36 (.idx 2 (.t 34) (.t 35)),
 qr 37 (.fad 0 (.t 36)),
 qr 38 (.ld false 1 (.t 37)),
 qm 39 38,
 ⟨some 40, some (39, false), .mv (.t 4)⟩,
 ⟨some 41, some (39, false), .mv (.t 5)⟩,
 ⟨some 42, some (39, false), .idx 2 (.t 40) (.t 41)⟩,
 ⟨some 43, some (39, false), .fad 1 (.t 42)⟩,
 ⟨some 44, some (39, false), .ld false 1 (.t 43)⟩,
 ⟨some 45, some (39, false), .len (.t 44)⟩,
 ⟨some 46, some (39, false), .bin .gtr (.t 45) (.k (.i .i64 0))⟩,
 qr 47 (.pick (.t 39) (.k (.b true)) (.t 46))])
 (.cond (.t 47)
 (.seq (.reg [qr 2 (.mv (.k (.b false)))])
 (.ret))
 (.skip))))
 (.reg [qm 32 5,
 qr 33 (.bin .add (.t 32) (.k (.i .i64 1))),
 qm 5 33]))))))))
 (.reg [qm 16 3,
 qr 17 (.bin .add (.t 16) (.k (.i .i64 1))),
 qm 3 17]))))))
 (.seq (.seq (.reg [qr 6 (.mv (.k (.i .i64 0)))])
 (.blk 4
 (.loop
 (.seq (.seq (.reg [qm 48 6,
 qm 49 0,
 qr 50 (.nc (.t 49)),
 qr 51 (.fad 6 (.t 50)),
 qr 52 (.ld false 1 (.t 51)),
 qr 53 (.len (.t 52)),
 qr 54 (.bin .lss (.t 48) (.t 53))])
 (.cond (.t 54)
 (.skip)
 (.exit 4)))
 (.seq (.blk 5
 (.seq (.reg [qm 57 0,
 qr 58 (.nc (.t 57)),
 qr 59 (.fad 6 (.t 58)),
 qr 60 (.ld false 1 (.t 59)),
 qm 61 6,
 qr 62 (.idx 1 (.t 60) (.t 61)),
 qr 63 (.ld false 1 (.t 62)),
 qm 7 63])
 (.seq (.reg [qm 64 7,
 qr 65 (.len (.t 64)),
 qr 66 (.bin .sub (.t 65) (.k (.i .i64 5))),
 qm 8 66])
 (.blk 6
 (.loop
 (.seq (.seq (.reg [qm 67 8,
 qm 68 7,
 qr 69 (.len (.t 68)),
 qr 70 (.bin .lss (.t 67) (.t 69))])
 (.cond (.t 70)
 (.skip)
 (.exit 6)))
 (.seq (.blk 7
 (.seq (.reg [qm 73 7,
 qm 74 8,
 qr 75 (.idx 3 (.t 73) (.t 74)),
 qr 76 (.fad 0 (.t 75)),
 qr 77 (.fad 0 (.t 76)),
 qr 78 (.ld false 1 (.t 77)),
 qm 79 78,
 ⟨some 80, some (79, false), .mv (.t 7)⟩,
 ⟨some 81, some (79, false), .mv (.t 8)⟩,
 ⟨some 82, some (79, false), .idx 3 (.t 80) (.t 81)⟩,
 ⟨some 83, some (79, false), .fad 0 (.t 82)⟩,
 ⟨some 84, some (79, false), .fad 1 (.t 83)⟩,
 ⟨some 85, some (79, false), .ld false 1 (.t 84)⟩,
 ⟨some 86, some (79, false), .len (.t 85)⟩,
 ⟨some 87, some (79, false), .bin .gtr (.t 86) (.k (.i .i64 0))⟩,
 qr 88 (.pick (.t 79) (.k (.b true)) (.t 87)),
 qm 89 88,
 ⟨some 90, some (89, false), .mv (.t 7)⟩,
 ⟨some 91, some (89, false), .mv (.t 8)⟩,
 ⟨some 92, some (89, false), .idx 3 (.t 90) (.t 91)⟩,
 ⟨some 93, some (89, false), .fad 2 (.t 92)⟩,
 ⟨some 94, some (89, false), .ld false 1 (.t 93)⟩,
 ⟨some 95, some (89, false), .len (.t 94)⟩,
 ⟨some 96, some (89, false), .bin .gtr (.t 95) (.k (.i .i64 0))⟩,
 qr 97 (.pick (.t 89) (.k (.b true)) (.t 96))])
 (.cond (.t 97)
 (.seq (.reg [qr 2 (.mv (.k (.b false)))])
 (.ret))
 (.skip))))
 (.reg [qm 71 8,
 qr 72 (.bin .add (.t 71) (.k (.i .i64 1))),
 qm 8 72]))))))))
 (.reg [qm 55 6,
 qr 56 (.bin .add (.t 55) (.k (.i .i64 1))),
 qm 6 56]))))))
 (.seq (.reg [qm 98 0,
 qr 99 (.nc (.t 98)),
 qr 100 (.fad 0 (.t 99)),
 qr 101 (.call 23 [(1, (.t 100))]),
 qm 2 101])
 (.ret))))
theorem spared_spec (L : List (List Nat)) (x0 x3 : V) (l m : List (Bool × List Nat)) (hL : L.length ≤ 1000000) (ha : ∀ a, a ∈ L → a.length ≤ 1000000000000) (hm : m = l ++ List.replicate 5 (false, [])) (ll : l.length ≤ 1000000) :
    AFun Try.prog J0 11 [.ip [x0, .l 1 (LL L), .l 1 (LL L), x3, .l 1 [], .l 1 [.l 2 (ZC m)], .l 1 []] 0] (.b true) := by
  have hu := untouched_spec L x0 x3 (.l 1 []) (.l 1 [.l 2 (ZC m)]) (.l 1 []) hL ha
  have hlm : m.length = l.length + 5 := by rw [hm]; simp
  have hz := ZC_len m
  have hd : m.length * 2 / 2 = m.length := by omega
  have w5 : IntKind.i64.wrap ((m.length : Int) - 5) = ((l.length : Nat) : Int) := by rw [hlm, wi (by omega)]; omega
  refine mkQ fol J0s Try.func11 a11 ?_
  unfold a11
  simp only [init_eq, initE, qm, qr, qn]
  refine spQ @bz_BK8 ?_
  refine vm_loopA [] Nat (fun k => ⟨[(0, .ip [x0, .l 1 (LL L), .l 1 (LL L), x3, .l 1 [], .l 1 [.l 2 (ZC m)], .l 1 []] 0), (3, .i .i64 (k : Int))], [], 0⟩) (fun k => k ≤ 1) (fun k => 1 - k) 0 (Nat.zero_le _) (by exact leQ) (by
    exact ltQ) ?_
  intro k hk Q' hQ he hr
  by_cases h : (k : Int) < 1
  · obtain rfl : k = 0 := by omega
    have i0 : Int.toNat 0 = 0 := rfl
    rw [show ((0 : Nat) : Int) = 0 from rfl] at *
    refine spQ (ai @i0 (ai @w5 (ai @hd (ai @hz (ai @h @bz_BK8))))) ?_
    refine vm_loopA [] Nat (fun i => ⟨[(0, .ip [x0, .l 1 (LL L), .l 1 (LL L), x3, .l 1 [], .l 1 [.l 2 (ZC m)], .l 1 []] 0), (3, .i .i64 0), (4, .l 2 (ZC m)), (5, .i .i64 (i : Int))], [], 0⟩) (fun i => l.length ≤ i ∧ i ≤ m.length) (fun i => m.length - i) l.length ⟨Nat.le_refl _, by omega⟩ (by exact leQ) (by
      exact ltQ) ?_
    rintro i ⟨hi0, hi⟩ Q2 hQ2 he2 hr2
    by_cases h2 : (i : Int) < (m.length : Int)
    · obtain ⟨z0, z1⟩ := zero_at hm hi0 (by omega)
      rw [show i * 2 = i * 2 + 0 from rfl] at z0
      refine spQ (ai @z1 (ai @z0 (ai @hd (ai @hz (ai @h2 @bz_BK8))))) ?_
      refine hQ2 _ (i + 1) ⟨by omega, by omega⟩ (by omega) ?_
      exact ltQ
    · refine spQ (ai @hd (ai @hz (ai @h2 @bz_BK8))) ?_
      refine he2 _ _ ?_
      refine spQ @bz_BK8 ?_
      refine hQ _ 1 (by omega) (by omega) ?_
      exact ltQ
  · obtain rfl : k = 1 := by omega
    refine spQ (ai @h @bz_BK8) ?_
    refine he _ _ ?_
    refine spQ @bz_BK8 ?_
    refine vm_loopA [] Nat (fun i => ⟨[(0, .ip [x0, .l 1 (LL L), .l 1 (LL L), x3, .l 1 [], .l 1 [.l 2 (ZC m)], .l 1 []] 0), (6, .i .i64 0)], [], 0⟩) (fun i => True) (fun i => 0) 0 trivial (by exact leQ) (by
      exact ltQ) ?_
    intro i _ Q3 hQ3 he3 hr3
    refine spQ @bz_BK8 ?_
    refine he3 _ _ ?_
    exact wdQ @bz_BK8
end Go.Proofs.Yteaiegppmbcibaa
