/-
  nat: sums of lists, sorted lists; the document's.
-/
import Derived.Test.YtdafakcccjjpiaaNS5
import Derived.Test.YtdafakcccjjpiaaGC
namespace Go.Proofs.Ytdafakcccjjpiaa
open Go Go.RowKit Ab
set_option linter.unusedSimpArgs false
set_option linter.unusedVariables false
set_option maxHeartbeats 10000000
theorem bz_NS6 : type_of% (And.intro @W_len (And.intro @D_len (And.intro @Nat.div_one (And.intro @Nat.mul_one (And.intro @tn_nat (And.intro @W_nf (And.intro @D_nf (And.intro @W_nil (@D_nil))))))))) := And.intro @W_len (And.intro @D_len (And.intro @Nat.div_one (And.intro @Nat.mul_one (And.intro @tn_nat (And.intro @W_nf (And.intro @D_nf (And.intro @W_nil (@D_nil))))))))
def RV (l : List (List Nat)) : List V := l.map fun a => .l 1 (W a)
theorem RV_len (l : List (List Nat)) : (RV l).length = l.length := by simp [RV]
theorem RV_get (l : List (List Nat)) (i : Nat) (h : i < l.length) : (RV l).getD i .un = .l 1 (W (l.getD i [])) := by
  simp [RV, List.getD_eq_getElem?_getD, List.getElem?_eq_getElem h]
def NOk (l : List (List Nat)) (m : Nat) : Prop := l.length ≤ m ∧ ∀ a, a ∈ l → Wd a ∧ a.length ≤ m
theorem NOk.get {l : List (List Nat)} {m : Nat} (h : NOk l m) (i : Nat) (hi : i < l.length) : Wd (l.getD i []) ∧ (l.getD i []).length ≤ m := by
  rw [List.getD_eq_getElem?_getD, List.getElem?_eq_getElem hi]
  exact h.2 _ (List.getElem_mem hi)
def vs (l : List (List Nat)) : List Nat := l.map (nv B)
theorem vs_len (l : List (List Nat)) : (vs l).length = l.length := by simp [vs]
theorem vs_get (l : List (List Nat)) (i : Nat) (h : i < l.length) : (vs l).getD i 0 = nv B (l.getD i []) := by
  simp [vs, List.getD_eq_getElem?_getD, List.getElem?_eq_getElem h]
def sm (L : List Nat) (i : Nat) : Nat := (L.take i).sum
theorem sm_0 (L : List Nat) : sm L 0 = 0 := rfl
theorem sm_s (L : List Nat) (i : Nat) (h : i < L.length) : sm L (i + 1) = sm L i + L.getD i 0 := by
  unfold sm
  rw [List.take_add_one, List.getElem?_eq_getElem h, List.getD_eq_getElem?_getD, List.getElem?_eq_getElem h, List.sum_append]
  simp
theorem vs_lt {l : List (List Nat)} {m : Nat} (h : NOk l m) (x : Nat) (hx : x ∈ vs l) : x < B ^ m := by
  obtain ⟨a, ha, rfl⟩ := List.mem_map.1 hx
  obtain ⟨h1, h2⟩ := h.2 a ha
  exact Nat.lt_of_lt_of_le (nv_lt h1) (Nat.pow_le_pow_right B0 h2)
theorem sm_le {L : List Nat} {P : Nat} (h : ∀ x, x ∈ L → x < P) : ∀ i, i ≤ L.length → sm L i ≤ i * P
  | 0, _ => by rw [sm_0]; exact Nat.zero_le _
  | i + 1, hi => by
    have ih := sm_le h i (by omega)
    have hx : L.getD i 0 < P := by
      rw [List.getD_eq_getElem?_getD, List.getElem?_eq_getElem (by omega)]
      exact h _ (List.getElem_mem _)
    rw [sm_s L i (by omega), Nat.succ_mul]; omega
theorem sm_B {l : List (List Nat)} {m : Nat} (h : NOk l m) (hm : m ≤ 100000000) (i : Nat) (hi : i ≤ l.length) : (dg B (sm (vs l) i)).length ≤ m + 1 := by
  have h1 := sm_le (vs_lt h) i (by rw [vs_len]; exact hi)
  have h2 : i * B ^ m ≤ m * B ^ m := Nat.mul_le_mul_right _ (Nat.le_trans hi h.1)
  have h3 : m * B ^ m < B ^ (m + 1) := by
    rw [Nat.pow_succ, Nat.mul_comm]
    exact Nat.mul_lt_mul_of_pos_left (by unfold B; omega) (Nat.pow_pos B0)
  exact dg_len B2 (by omega)
def a14 : AC := .seq (.reg [qr 2 (.mv (.k .nl))])
 (.seq (.reg [qr 3 (.mv (.k .nl))])
 (.seq (.seq (.reg [qm 6 0,
 qr 7 (.len (.t 6)),
 qr 8 (.mv (.k (.i .i64 0)))])
 (.blk 0
 (.loop
 (.seq (.reg [qr 9 (.bin .lss (.t 8) (.t 7))])
 (.seq (.cond (.t 9)
 (.skip)
 (.exit 0))
 (.seq (.blk 1
 (.seq (.reg [qr 10 (.idx 1 (.t 6) (.t 8)),
 qr 11 (.ld false 1 (.t 10)),
 qm 5 11])
 (.reg [qm 12 3,
 qm 13 5,
 qr 14 (.call 6 [(1, (.t 12)), (1, (.t 13))]),
 qm 3 14])))
 (.reg [qr 15 (.bin .add (.t 8) (.k (.i .i64 1))),
 qm 8 15])))))))
 (.seq (.reg [qm 16 3,
 qm 2 16])
 (.ret))))
theorem nsum_spec (l : List (List Nat)) (m : Nat) (h : NOk l m) (hm : m ≤ 100000000) : AFun Try.prog J0 14 [.l 1 (RV l)] (.o 45 1 (W (dg B (sm (vs l) l.length)))) := by
  have kl := RV_len l
  have hl := h.1
  refine mkQ fol J0s Try.func14 a14 ?_
  unfold a14
  simp only [init_eq, initE, qm, qr, qn]
  refine spQ (ai @kl @bz_NS6) ?_
  refine vm_loopA [(3, 45, 1)] Nat (fun i => ⟨[(3, .ow 1 0 (dg B (sm (vs l) i)).length), (6, .l 1 (RV l)), (7, .i .i64 (l.length : Int)), (8, .i .i64 (i : Int))], [(0, some ⟨45, 1, W (dg B (sm (vs l) i)), true, false⟩)], 1⟩)
    (fun i => i ≤ l.length) (fun i => l.length - i) 0 (Nat.zero_le _) (by exact leQ) (by
    exact ltQ) ?_
  intro i hi Q' hQ he hr
  by_cases h1 : (i : Int) < (l.length : Int)
  · obtain ⟨wa, la⟩ := h.get i (by omega)
    have g1 := RV_get l i (by omega)
    have c1 := add_spec (dg B (sm (vs l) i)) (l.getD i []) (dg_Lt B0 _) wa (Nat.le_trans (sm_B h hm i hi) (by omega)) (by omega)
    rw [nv_dg B2, ← vs_get l i (by omega), ← sm_s (vs l) i (by rw [vs_len]; omega)] at c1
    have wi1 := iadd1 (show i ≤ 1099511627776 by omega)
    generalize dg B (sm (vs l) i) = x at *
    refine wkQ (ai @wi1 (ai @g1 (ai @kl (ai @h1 @bz_NS6)))) ?_
    refine hQ _ (i + 1) (by omega) (by omega) ?_
    exact ltQ
  · obtain rfl : i = l.length := by omega
    refine spQ (ai @h1 @bz_NS6) ?_
    refine he _ _ ?_
    refine spQ @bz_NS6 ?_
    exact rtQ @bz_NS6
end Go.Proofs.Ytdafakcccjjpiaa
