/-
  slices: rows of numbers sorted: the turning of blocks.
-/
import Derived.Test.YtdafakcccjjpiaaNS0
import Derived.Test.YtdafakcccjjpiaaGD
import Derived.Test.YtdafakcccjjpiaaGE
namespace Go.Proofs.Ytdafakcccjjpiaa
open Go Go.RowKit Ab
set_option linter.unusedSimpArgs false
set_option linter.unusedVariables false
set_option maxHeartbeats 10000000
theorem bz_NS1 : type_of% (And.intro @W_len (And.intro @Nat.div_one (And.intro @Nat.mul_one (And.intro @tn_nat (And.intro @W_nf (@W_nil)))))) := And.intro @W_len (And.intro @Nat.div_one (And.intro @Nat.mul_one (And.intro @tn_nat (And.intro @W_nf (@W_nil)))))
def NV (L : List Nat) : List V := L.map fun v => .l 1 (W (dg B v))
theorem NV_len (L : List Nat) : (NV L).length = L.length := by simp [NV]
theorem NV_get (L : List Nat) (i : Nat) (h : i < L.length) : (NV L).getD i .un = .l 1 (W (dg B (L.getD i 0))) := by
  simp [NV, List.getD_eq_getElem?_getD, List.getElem?_eq_getElem h]
theorem NV_set (L : List Nat) (i v : Nat) : (NV L).set i (.l 1 (W (dg B v))) = NV (L.set i v) := by simp [NV]
def a57 : AC := .seq (.reg [qr 10 (.mv (.k (.i .i64 0)))])
 (.blk 0
 (.loop
 (.seq (.seq (.reg [qm 11 10,
 qm 12 3,
 qr 13 (.bin .lss (.t 11) (.t 12))])
 (.cond (.t 13)
 (.skip)
 (.exit 0)))
 (.seq (.blk 1
 (.dreg [qm 16 0,
 qm 17 1,
 qm 18 10,
 qr 19 (.bin .add (.t 17) (.t 18)),
 qm 20 0,
 qm 21 2,
 qm 22 10,
 qr 23 (.bin .add (.t 21) (.t 22)),
 qm 24 0,
 qm 25 2,
 qm 26 10,
 qr 27 (.bin .add (.t 25) (.t 26)),
 qr 28 (.idx 1 (.t 24) (.t 27)),
 qr 29 (.ld false 1 (.t 28)),
 qm 30 0,
 qm 31 1,
 qm 32 10,
 qr 33 (.bin .add (.t 31) (.t 32)),
 qr 34 (.idx 1 (.t 30) (.t 33)),
 qr 35 (.ld false 1 (.t 34)),
 qr 36 (.idx 1 (.t 16) (.t 19)),
 qn (.st 1 (.t 36) (.t 29)),
 qr 37 (.idx 1 (.t 20) (.t 23)),
 qn (.st 1 (.t 37) (.t 35))]))
 (.reg [qm 14 10,
 qr 15 (.bin .add (.t 14) (.k (.i .i64 1))),
 qm 10 15])))))
theorem swapR_spec (L : List Nat) (a b n : Nat) (h1 : a + n ≤ b) (h2 : b + n ≤ L.length) (hl : L.length ≤ 1099511627776) : AFun Try.prog J0 57 [.o 23 1 (NV L), .i .i64 (a : Int), .i .i64 (b : Int), .i .i64 (n : Int), .c (.func (.func 26) #[] #[])] (.mu (.t []) (NV (swr L a b n))) := by
  refine AFun.mkm (m := 0) fol J0s Try.func57 rfl (ac := a57) (by kernel_rfl) rfl rfl rfl rfl (by kernel_rfl) ?_
  apply vm_start
  unfold a57
  simp only [initL_eq, initE, lent, qm, qr, qn]
  rw [show (NV L).length / 1 = L.length from by rw [NV_len, Nat.div_one]]
  refine spQ @bz_NS1 ?_
  refine vm_loopA [] Nat (fun i => ⟨[(0, .ow 1 0 L.length), (1, .i .i64 (a : Int)), (2, .i .i64 (b : Int)), (3, .i .i64 (n : Int)), (10, .i .i64 (i : Int))], [(0, some ⟨23, 1, NV (swr L a b i), true, false⟩)], 1⟩)
    (fun i => i ≤ n) (fun i => n - i) 0 (Nat.zero_le _) (by exact leQ) (by
    exact ltQ) ?_
  intro i hi Q' hQ he hr
  have hM := swr_len L a b i
  by_cases h : (i : Int) < (n : Int)
  · have t1 : ((a : Int) + (i : Int)).toNat = a + i := by omega
    have t2 : ((b : Int) + (i : Int)).toNat = b + i := by omega
    have e : swr L a b (i + 1) = swp (swr L a b i) (a + i) (b + i) := rfl
    unfold swp at e
    generalize swr L a b i = M at *
    have k1 := NV_len M
    have g1 := NV_get M (a + i) (by omega)
    have g2 := NV_get M (b + i) (by omega)
    have s1 := NV_set M (a + i) (M.getD (b + i) 0)
    have s2 := NV_set (M.set (a + i) (M.getD (b + i) 0)) (b + i) (M.getD (a + i) 0)
    have k2 := NV_len (M.set (a + i) (M.getD (b + i) 0))
    rw [List.length_set] at k2
    refine spQ (ai @wi (ai @s2 (ai @s1 (ai @g2 (ai @g1 (ai @k2 (ai @k1 (ai @t2 (ai @t1 (ai @h @bz_NS1)))))))))) ?_
    refine hQ _ (i + 1) (by omega) (by omega) ?_
    simp (disch := (first | omega | assumption)) only [Sl, Sa, Sw, ↓reduceIte, Nat.reduceEqDiff, Nat.reduceLT, List.all_nil, List.all_cons, Nat.reduceBneDiff, Nat.reduceAdd, bne_iff_ne, ne_eq, reduceCtorEq, not_false_eq_true, not_true_eq_false, Bool.and_true, Bool.true_and, and_true, true_and, and_self, i_eq, e]
    repeat' first | rfl | omega | (simp only [List.length_append, List.length_cons, List.length_nil]; done) | apply And.intro
  · refine spQ (ai @h @bz_NS1) ?_
    refine he _ _ ?_
    obtain rfl : i = n := by omega
    exact ⟨0, rfl, rfl⟩
end Go.Proofs.Ytdafakcccjjpiaa
