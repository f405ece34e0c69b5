/-
  The book: nothing that was handed in was written.
-/
import Derived.Test.YteaiegppmbcibaaBK6
import Derived.Test.YteaiegppmbcibaaZC
namespace Go.Proofs.Yteaiegppmbcibaa
open Go Go.RowKit Ab
set_option linter.unusedSimpArgs false
set_option linter.unusedVariables false
set_option maxHeartbeats 10000000
theorem bz_BK7 : type_of% (And.intro @W_len (And.intro @Nat.div_one (And.intro @Nat.mul_one (And.intro @tn_nat (And.intro @W_nf (And.intro @W_nil (And.intro @wi (And.intro @nf_g (And.intro @Bool.false_and (And.intro @W_cell (@ZC_cell))))))))))) := And.intro @W_len (And.intro @Nat.div_one (And.intro @Nat.mul_one (And.intro @tn_nat (And.intro @W_nf (And.intro @W_nil (And.intro @wi (And.intro @nf_g (And.intro @Bool.false_and (And.intro @W_cell (@ZC_cell))))))))))
def LL (L : List (List Nat)) : List V := L.map fun a => V.l 1 (W a)
theorem LL_len (L : List (List Nat)) : (LL L).length = L.length := by simp [LL]
theorem LL_get (L : List (List Nat)) (k : Nat) (h : k < L.length) : (LL L).getD k .un = .l 1 (W (L.getD k [])) := by
  simp [LL, List.getD_eq_getElem?_getD, h]
theorem W_gt (a : List Nat) (i : Nat) (h : i < a.length) : (W a).getD i .un = .i .u64 ((a.getD i 0 : Nat) : Int) := by
  simp [W, List.getD_eq_getElem?_getD, h]
def a23 : AC := .seq (.reg [qr 2 (.mv (.k (.b false)))])
 (.seq (.seq (.reg [qr 3 (.mv (.k (.i .i64 0)))])
 (.blk 0
 (.loop
 (.seq (.seq (.reg [qm 5 3,
 qm 6 0,
 qr 7 (.nc (.t 6)),
 qr 8 (.fad 1 (.t 7)),
 qr 9 (.ld false 1 (.t 8)),
 qr 10 (.len (.t 9)),
 qr 11 (.bin .lss (.t 5) (.t 10))])
 (.cond (.t 11)
 (.skip)
 (.exit 0)))
 (.seq (.blk 1
 (.seq (.reg [qr 4 (.mv (.k (.i .i64 0)))])
 (.blk 2
 (.loop
 (.seq (.seq (.reg [qm 14 4,
 qm 15 0,
 qr 16 (.nc (.t 15)),
 qr 17 (.fad 1 (.t 16)),
 qr 18 (.ld false 1 (.t 17)),
 qm 19 3,
 qr 20 (.idx 1 (.t 18) (.t 19)),
 qr 21 (.ld false 1 (.t 20)),
 qr 22 (.len (.t 21)),
 qr 23 (.bin .lss (.t 14) (.t 22))])
 (.cond (.t 23)
 (.skip)
 (.exit 2)))
 (.seq (.blk 3
 (.seq (.dreg [qm 26 0,
 qr 27 (.nc (.t 26)),
 qr 28 (.fad 1 (.t 27)),
 qr 29 (.ld false 1 (.t 28)),
 qm 30 3,
 qr 31 (.idx 1 (.t 29) (.t 30)),
 qr 32 (.ld false 1 (.t 31)),
 qm 33 4,
 qr 34 (.idx 1 (.t 32) (.t 33)),
 qr 35 (.ld false 1 (.t 34)),
 qm 36 0,
 qr 37 (.nc (.t 36)),
 qr 38 (.fad 2 (.t 37)),
 qr 39 (.ld false 1 (.t 38)),
 qm 40 3,
 qr 41 (.idx 1 (.t 39) (.t 40)),
 qr 42 (.ld false 1 (.t 41)),
 qm 43 4,
 qr 44 (.idx 1 (.t 42) (.t 43)),
 qr 45 (.ld false 1 (.t 44)),
 qr 46 (.bin .neq (.t 35) (.t 45))])
 (.cond (.t 46)
 (.seq (.reg [qr 2 (.mv (.k (.b false)))])
 (.ret))
 (.skip))))
 (.reg [qm 24 4,
 qr 25 (.bin .add (.t 24) (.k (.i .i64 1))),
 qm 4 25])))))))
 (.reg [qm 12 3,
 qr 13 (.bin .add (.t 12) (.k (.i .i64 1))),
 qm 3 13]))))))
 (.seq (.reg [qr 2 (.mv (.k (.b true)))])
 (.ret)))
theorem untouched_spec (L : List (List Nat)) (x0 x3 x4 x5 x6 : V) (hL : L.length ≤ 1000000) (ha : ∀ a, a ∈ L → a.length ≤ 1000000000000) :
    AFun Try.prog J0 23 [.ip [x0, .l 1 (LL L), .l 1 (LL L), x3, x4, x5, x6] 0] (.b true) := by
  have hl := LL_len L
  refine mkQ fol J0s Try.func23 a23 ?_
  unfold a23
  simp only [init_eq, initE, qm, qr, qn]
  refine spQ @bz_BK7 ?_
  refine vm_loopA [] Nat (fun k => ⟨[(0, .ip [x0, .l 1 (LL L), .l 1 (LL L), x3, x4, x5, x6] 0), (3, .i .i64 (k : Int))], [], 0⟩) (fun k => k ≤ L.length) (fun k => L.length - k) 0 (Nat.zero_le _) (by exact leQ) (by
    exact ltQ) ?_
  intro k hk Q' hQ he hr
  by_cases h : (k : Int) < (L.length : Int)
  · have hg := LL_get L k (by omega)
    have hmem : L.getD k [] ∈ L := by rw [List.getD_eq_getElem?_getD, List.getElem?_eq_getElem (by omega)]; exact List.getElem_mem _
    have hal := ha _ hmem
    generalize L.getD k [] = a at *
    refine spQ (ai @hl (ai @h @bz_BK7)) ?_
    refine vm_loopA [] Nat (fun i => ⟨[(0, .ip [x0, .l 1 (LL L), .l 1 (LL L), x3, x4, x5, x6] 0), (3, .i .i64 (k : Int)), (4, .i .i64 (i : Int))], [], 0⟩) (fun i => i ≤ a.length) (fun i => a.length - i) 0 (Nat.zero_le _) (by exact leQ) (by
      exact ltQ) ?_
    intro i hi Q2 hQ2 he2 hr2
    by_cases h2 : (i : Int) < (a.length : Int)
    · have hx := W_gt a i (by omega)
      have hxx : (((a.getD i 0 : Nat) : Int) = ((a.getD i 0 : Nat) : Int)) = True := eq_self _
      generalize ((a.getD i 0 : Nat) : Int) = x at *
      refine spQ (ai @hxx (ai @hx (ai @h2 (ai @hg (ai @hl (ai @h @bz_BK7)))))) ?_
      refine hQ2 _ (i + 1) (by omega) (by omega) ?_
      exact ltQ
    · obtain rfl : i = a.length := by omega
      refine spQ (ai @h2 (ai @hg (ai @hl (ai @h @bz_BK7)))) ?_
      refine he2 _ _ ?_
      refine spQ @bz_BK7 ?_
      refine hQ _ (k + 1) (by omega) (by omega) ?_
      exact ltQ
  · obtain rfl : k = L.length := by omega
    refine spQ (ai @hl (ai @h @bz_BK7)) ?_
    refine he _ _ ?_
    refine spQ @bz_BK7 ?_
    exact rtQ @bz_BK7
end Go.Proofs.Yteaiegppmbcibaa
