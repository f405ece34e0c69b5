/-
  LexKeeps: all pieces are marked, outside the layer.
-/
import Derived.Test.YtjfbkegdnljfjaaLK4
namespace Go.Proofs.Ytjfbkegdnljfjaa
open Go Go.RowKit Go.Shelf Go.Proofs Ab
set_option linter.unusedSimpArgs false
set_option linter.unusedVariables false
set_option maxHeartbeats 10000000
set_option maxHeartbeats 4000000
set_option maxRecDepth 2000000
def mps (ps : List (List Tk)) (k : Nat) : List (List Tk) := (List.range ps.length).map fun j => if j < k then mkd j (ps.getD j []).length else ps.getD j []
theorem mps_len (ps : List (List Tk)) (k : Nat) : (mps ps k).length = ps.length := by simp [mps]
theorem mps_get (ps : List (List Tk)) (k j : Nat) (h : j < ps.length) : (mps ps k)[j]? = some (if j < k then mkd j (ps.getD j []).length else ps.getD j []) := by
  simp [mps, h]
theorem mps_zero (ps : List (List Tk)) : mps ps 0 = ps := by
  apply List.ext_getElem?
  intro j
  rcases Nat.lt_or_ge j ps.length with h | h
  · rw [mps_get ps 0 j h, if_neg (by omega), List.getD_eq_getElem?_getD, List.getElem?_eq_getElem h]; rfl
  · rw [List.getElem?_eq_none (by rw [mps_len]; exact h), List.getElem?_eq_none h]
structure Ma (w w' : World) (vs : Value) (vl : List Value) (qs : List (List Tk)) : Prop where
  os : w'.os = w.os
  tape : w'.tape = w.tape
  output : w'.output = w.output
  size : w.heap.size ≤ w'.heap.size
  block : ∀ q, q < w.heap.size → (∀ (j : Nat) (v : Value), vl[j]? = some v → v.ownBlock ≠ some q) → w'.heap[q]? = w.heap[q]?
  rows : Rwl 0 w' vs vl qs
theorem Ma.step {w w1 w2 w3 : World} {vs v : Value} {vl xs : List Value} {ps : List (List Tk)} {k : Nat} (h : Ma w w1 vs vl (mps ps k)) (hk : k < ps.length) (hv : vl[k]? = some v) (hM : Mk w1 w2 v (mkd k (ps.getD k []).length)) (hW : Wk w2 w3 v (mkd k (ps.getD k []).length).length xs) (hr : RepAll w2 (fun _ => False) xs (T (mkd k (ps.getD k []).length))) :
    Ma w w3 vs vl (mps ps (k + 1)) := by
  have hsz := hM.size
  have bl : ∀ q, q < w1.heap.size → v.ownBlock ≠ some q → w3.heap[q]? = w1.heap[q]? := fun q hq hne => (hW.block q (by omega) hne).trans (hM.block q hne)
  refine ⟨hW.os.trans (hM.os.trans h.os), hW.tape.trans (hM.tape.trans h.tape), hW.output.trans (hM.output.trans h.output), by have := hW.size; have := h.size; omega, fun q hq hne => (bl q (by have := h.size; omega) (hne k v hv)).trans (h.block q hq hne), ⟨?_, fun j u p hj hp => ?_, h.rows.sep⟩⟩
  · have := h.rows.row
    rw [mps_len] at this ⊢
    exact ow_below this fun q hq => bl q (this.lt q hq).2 (fun e => h.rows.ne hv e hq)
  · have hjl : j < ps.length := by rw [← mps_len ps (k + 1)]; exact (List.getElem?_eq_some_iff.1 hp).1
    rw [mps_get ps (k + 1) j hjl] at hp
    by_cases e : j = k
    · subst e
      rw [if_pos (by omega)] at hp
      cases hp
      rw [hv] at hj; cases hj
      exact ⟨xs, hW.own, T_rep hr⟩
    · have hp' : (mps ps k)[j]? = some p := by
        rw [mps_get ps k j hjl, ← hp]
        by_cases h1 : j < k
        · rw [if_pos h1, if_pos (by omega)]
        · rw [if_neg h1, if_neg (by omega)]
      obtain ⟨ys, h1, h2⟩ := h.rows.pc j u p hj hp'
      exact ⟨ys, ow_below h1 fun q hq => bl q (h1.lt q hq).2 (fun e2 => h.rows.sep j k u v q e hj hv hq e2), T_rep h2⟩
theorem round_end {a : Act} {w : World} {R : Exit → Act → World → Prop} {k m : Nat} (hz : a.tmps.size = 232) (h129 : a.tmps.getD 129 undef = .int .i64 (k : Int)) (hk : (k : Int) < (m : Int)) (hm : m ≤ 10000001)
    (kk : ∀ a' : Act, a'.tmps.size = 232 → (∀ t, t < 129 → a'.tmps.getD t undef = a.tmps.getD t undef) → a'.tmps.getD 129 undef = .int .i64 ((k : Int) + 1) → a'.defers = a.defers → R .normal a' w) :
    (q2 (q2 (q2 (lkR Try.f3)))).wp Try.prog R a w := by
  have g129 := gI hz h129 (by decide)
  have kkA := PLift.up kk
  clear kk
  refine wp_region_lit ?_
  go_wp2
  refine kkA.down _ (by simp [hz]) (fun t ht => ?_) ?_ rfl
  · dsimp only
    rw [gset_ne (by omega), gset_ne (by omega)]
  · dsimp only
    rw [gset_eq (by simp [hz])]
theorem mark_round {a : Act} {w w0 : World} {R : Exit → Act → World → Prop} {sa : Option Addr} {sc k : Nat} {vl : List Value} {ps : List (List Tk)} (hz : a.tmps.size = 232) (h15 : a.tmps.getD 15 undef = .slice sa ps.length sc) (h128 : a.tmps.getD 128 undef = .int .i64 (ps.length : Int)) (h129 : a.tmps.getD 129 undef = .int .i64 (k : Int)) (hk : k < ps.length) (hm : ps.length ≤ 10000001) (hpl : ∀ p, p ∈ ps → p.length ≤ 10000001)
    (hR : Ma w0 w (.slice sa ps.length sc) vl (mps ps k))
    (kk : ∀ (a' : Act) (w' : World), a'.tmps.size = 232 → (∀ t, t < 129 → t ≠ 20 → t ≠ 21 → a'.tmps.getD t undef = a.tmps.getD t undef) → a'.tmps.getD 129 undef = .int .i64 ((k : Int) + 1) → a'.defers = a.defers → Ma w0 w' (.slice sa ps.length sc) vl (mps ps (k + 1)) → R .normal a' w') :
    (lkR Try.f3).wp Try.prog R a w := by
  have g128 := gI hz h128 (by decide)
  have g129 := gI hz h129 (by decide)
  have hki : (k : Int) < (ps.length : Int) := by omega
  have hlen := hR.rows.len
  rw [mps_len] at hlen
  obtain ⟨v, hv⟩ : ∃ v, vl[k]? = some v := ⟨_, List.getElem?_eq_getElem (by omega)⟩
  have hpk := hR.rows.pc k v _ hv (mps_get ps k k hk)
  rw [if_neg (by omega)] at hpk
  have hmem : ps.getD k [] ∈ ps := by rw [List.getD_eq_getElem?_getD, List.getElem?_eq_getElem hk]; exact List.getElem_mem hk
  have hpn := hpl _ hmem
  obtain ⟨qs, rfl, hcell, hne⟩ : ∃ qs, sa = some ⟨qs, 0, none⟩ ∧ w.cell? ⟨qs, k, none⟩ = some v ∧ v.ownBlock ≠ some qs := by
    have hro := hR.rows.row
    rw [mps_len] at hro
    rcases hro.2 with ⟨h, h2⟩ | ⟨g, cap, cur, h, _⟩
    · omega
    · cases h
      refine ⟨g, rfl, ?_, fun h => hR.rows.ne hv h rfl⟩
      rw [hro.cellAt k (by omega)]; exact hv
  have hA := PLift.up (And.intro hR (And.intro hv (And.intro hpk kk)))
  clear hR hv hpk kk
  refine wp_seq_k fun K0 hK0 => ?_
  have hk0 := PLift.up hK0
  clear hK0
  refine wp_region_lit ?_
  go_wp2
  refine hk0.down _ _ ?_
  refine wp_seq_k fun K1 hK1 => ?_
  have hk1 := PLift.up hK1
  clear hK1
  refine wp_cond_true (by rw [eval_tmp]; dsimp only; rw [gset_eq (by simp [hz])]) ?_
  go_wp2
  refine hk1.down _ _ ?_
  refine wp_seq_k fun K2 hK2 => ?_
  have hk2 := PLift.up hK2
  clear hK2
  refine wp_block ?_
  refine wp_seq_k fun K3 hK3 => ?_
  have hk3 := PLift.up hK3
  clear hK3
  refine wp_region_lit ?_
  go_wp2
  refine hk3.down _ _ ?_
  refine wp_seq_k fun K4 hK4 => ?_
  have hk4 := PLift.up hK4
  clear hK4
  have e15 : ∀ (b : Bool), ((((a.tmps.setIfInBounds 130 (.bool b)).setIfInBounds 131 (.int .i64 (k : Int))).setIfInBounds 20 (.int .i64 (k : Int))).getD 15 undef) = .slice (some ⟨qs, 0, none⟩) ps.length sc := fun b => by
    rw [gset_ne (by decide), gset_ne (by decide), gset_ne (by decide)]; exact h15
  refine mark_piece (qs := qs) (m := ps.length) (cs := sc) (k := k) (v := v) (p := ps.getD k []) (by simp [hz]) (e15 _) (by dsimp only; rw [gset_eq (by simp [hz])]) hki hm hcell hpn hA.down.2.2.1 hne fun a1 w1 hz1 hs1 hd1 hM => ?_
  refine hk4.down _ _ ?_
  have f15 := (hs1 15 (by decide) (by decide)).trans (e15 _)
  have f20 : a1.tmps.getD 20 undef = .int .i64 (k : Int) := (hs1 20 (by decide) (by decide)).trans (by dsimp only; rw [gset_eq (by simp [hz])])
  have f129 : a1.tmps.getD 129 undef = .int .i64 (k : Int) := (hs1 129 (by decide) (by decide)).trans (by dsimp only; rw [gset_ne (by decide), gset_ne (by decide), gset_ne (by decide)]; exact h129)
  obtain ⟨xs, ho, hr⟩ := hM.own
  refine app_reg (v := v) (xs := xs) hz1 f15 f20 hki hm ((World.cell?_of_block (a := ⟨qs, k, none⟩) (hM.block qs hne)).trans hcell) ho (by simp [mkd]; exact hpn) fun a2 w2 hz2 hs2 hd2 hW => ?_
  refine hk2.down _ _ ?_
  refine round_end hz2 ((hs2 129 (by decide)).trans f129) hki hm fun a3 hz3 hs3 h3 hd3 => ?_
  refine hA.down.2.2.2 a3 w2 hz3 (fun t ht h20 h21 => ?_) h3 (hd3.trans (hd2.trans hd1)) (hA.down.1.step hk hA.down.2.1 hM hW hr)
  refine (hs3 t ht).trans ((hs2 t (by omega)).trans ((hs1 t (by omega) h21).trans ?_))
  dsimp only
  rw [gset_ne (by omega), gset_ne (by omega), gset_ne (by omega)]
end Go.Proofs.Ytjfbkegdnljfjaa
