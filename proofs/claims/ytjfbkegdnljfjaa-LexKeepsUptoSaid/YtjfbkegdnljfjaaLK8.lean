/-
  surdlaw24.LexKeeps: the law, whole.
-/
import Derived.Test.YtjfbkegdnljfjaaLK7
namespace Go.Proofs.Ytjfbkegdnljfjaa
open Go Go.RowKit Go.Shelf Go.Proofs Ab
set_option linter.unusedSimpArgs false
set_option linter.unusedVariables false
set_option maxHeartbeats 10000000
set_option maxHeartbeats 4000000
set_option maxRecDepth 2000000
theorem splitG_each (s : List UInt8) : ∀ (ts : List Tk) (d : Int) (pre p : List Tk), p ∈ splitG s ts d pre → p.length ≤ pre.length + ts.length
  | [], d, pre, p, h => by
    simp only [splitG, List.mem_singleton] at h
    subst h; simp
  | t :: r, d, pre, p, h => by
    simp only [splitG] at h
    split at h
    · rcases List.mem_cons.1 h with rfl | h
      · omega
      · have := splitG_each s r _ [] p h
        simp only [List.length_nil, List.length_cons] at *; omega
    · have := splitG_each s r _ _ p h
      simp only [List.length_append, List.length_cons, List.length_nil] at *; omega
theorem ps_len (ts : List Tk) : (splitR ts [43]).1.length ≤ ts.length + 1 := by
  unfold splitR
  split
  · split
    · exact splitG_len _ _ _ _
    · simp
  · simp
theorem ps_each (ts : List Tk) : ∀ p, p ∈ (splitR ts [43]).1 → p.length ≤ ts.length := by
  unfold splitR
  split
  · split
    · intro p h; have := splitG_each _ _ _ _ p h; simpa using this
    · intro p h; simp at h
  · intro p h; simp at h
theorem Rwl.lt {B : Nat} {w : World} {vs : Value} {vl : List Value} {ps : List (List Tk)} (h : Rwl B w vs vl ps) : (∀ q, vs.ownBlock = some q → B ≤ q ∧ q < w.heap.size) ∧ ∀ (j : Nat) (v : Value) (q : Nat), vl[j]? = some v → v.ownBlock = some q → B ≤ q ∧ q < w.heap.size :=
  ⟨h.row.lt, fun j v q hj hq => by obtain ⟨p, xs, _, h2, _⟩ := h.pcs hj; exact h2.lt q hq⟩
theorem Rwl.base {B B' : Nat} {w : World} {vs : Value} {vl : List Value} {ps : List (List Tk)} (h : Rwl B w vs vl ps) (hB : B' ≤ B) : Rwl B' w vs vl ps :=
  ⟨ow_base h.row hB, fun j v p hj hp => by obtain ⟨xs, h1, h2⟩ := h.pc j v p hj hp; exact ⟨xs, ow_base h1 hB, h2⟩, h.sep⟩
theorem env_lk {w : World} {H : Nat → Prop} {ov : Nat → Option Value} (tm : Nat → Value) : ∀ (l : List (Nat × V)), (∀ p, p ∈ l → Rep w H ov (tm p.1) p.2) → ∀ t, Rep w H ov (tm t) (lk l t)
  | [], _, t => .any _
  | (k, v) :: r, h, t => by
    unfold lk
    split
    · rename_i e; subst e; exact h (k, v) (.head _)
    · exact env_lk tm r (fun p hp => h p (.tail _ hp)) t
structure K3 (w w1 w2 w3 : World) (H1 : Nat → Prop) (s : List UInt8) (ts : List Tk) (v1 v5 v6 v7 v9 v11 v13 vs vt : Value) (vl vlt : List Value) : Prop where
  below : Below w.heap.size w w1
  b12 : Below w1.heap.size w1 w2
  b23 : Below w2.heap.size w2 w3
  Hlt : ∀ q, H1 q → q < w1.heap.size
  p1 : Rep0 w1 H1 v1 (.l 3 (T ts))
  p7 : Rep0 w1 H1 v7 (.l 3 (T (scanR s).1))
  p9 : Rep0 w1 H1 v9 (.l 1 (PT (splitR ts [43]).1))
  o5 : ∃ g cap xs, v5 = .slice (some ⟨g, 0, none⟩) (ts.length + 2) cap ∧ v6 = .slice (some ⟨g, 0, none⟩) ts.length cap ∧ w1.ownsRow w.heap.size 27 3 v5 (ts.length + 2) xs ∧ RepAll w1 (fun _ => False) xs (T (ts ++ [r9, r8]))
  o11 : ∃ xs, w1.ownsRow w.heap.size 27 3 v11 (scanR s).1.length xs ∧ RepAll w1 (fun _ => False) xs (T (scanR s).1)
  o13 : ∃ xs, w1.ownsRow w.heap.size 27 3 v13 (scanR s).1.length xs ∧ RepAll w1 (fun _ => False) xs (T (scanR s).1)
  n5 : ∀ q, v5.ownBlock = some q → ¬ H1 q
  n11 : ∀ q, v11.ownBlock = some q → ¬ H1 q
  s5 : ∀ q, v5.ownBlock = some q → v11.ownBlock ≠ some q
  s5' : ∀ q, v5.ownBlock = some q → v13.ownBlock ≠ some q
  s11 : ∀ q, v11.ownBlock = some q → v13.ownBlock ≠ some q
  rs : Rwl w1.heap.size w2 vs vl (splitR ts [43]).1
  rt : Rwl w2.heap.size w3 vt vlt (splitR ts [43]).1
def H3 (H1 : Nat → Prop) (v5 v13 vs vt : Value) (vlt : List Value) (q : Nat) : Prop := H1 q ∨ v5.ownBlock = some q ∨ v13.ownBlock = some q ∨ vs.ownBlock = some q ∨ vt.ownBlock = some q ∨ ∃ (j : Nat) (v : Value), vlt[j]? = some v ∧ v.ownBlock = some q
def ks3 (v1 v5 v6 v7 v9 v13 vs vt : Value) : List (Nat × Value) := [(1, v1), (5, v5), (6, v6), (7, v7), (9, v9), (13, v13), (15, vs), (17, vt)]
theorem K3.conc {w w1 w2 w3 : World} {H1 : Nat → Prop} {s : List UInt8} {ts : List Tk} {v1 v5 v6 v7 v9 v11 v13 vs vt : Value} {vl vlt : List Value} (h : K3 w w1 w2 w3 H1 s ts v1 v5 v6 v7 v9 v11 v13 vs vt vl vlt) (hl : ts.length ≤ 1100000) {a : Act} (hz : a.tmps.size = 232) (hd : a.defers = [])
    (kp : ∀ m v, (m, v) ∈ ks3 v1 v5 v6 v7 v9 v13 vs vt → a.tmps.getD m undef = v) (k11 : a.tmps.getD 11 undef = v11) :
    Conc w3 ⟨H3 H1 v5 v13 vs vt vlt, fun q => v11.ownBlock = some q ∨ (Value.slice none 0 0).ownBlock = some q, ks3 v1 v5 v6 v7 v9 v13 vs vt⟩ w3 (H3 H1 v5 v13 vs vt vlt) (fun i => match i with | 0 => some v11 | 1 => some (.slice none 0 0) | _ => none) 232 a
      ⟨[(1, .l 3 (T ts)), (5, .l 3 (T (ts ++ [r9, r8]))), (6, .l 3 (T ts)), (9, .l 1 (PT (splitR ts [43]).1)), (11, .ow 3 0 (scanR s).1.length), (15, .l 1 (vl.map V.c)), (17, .l 1 (PT (splitR ts [43]).1))], [(0, some ⟨27, 3, T (scanR s).1, true, false⟩), (1, some ⟨27, 3, [], true, false⟩)], 2⟩ := by
  obtain ⟨g, cap, x5, e5, e6, O5, R5⟩ := h.o5
  obtain ⟨x11, O11, R11⟩ := h.o11
  obtain ⟨x13, O13, R13⟩ := h.o13
  have hs12 := h.b12.size
  have hs23 := h.b23.size
  have hx := scanR_len s
  have hb13 : ∀ q, q < w1.heap.size → w3.heap[q]? = w1.heap[q]? := fun q hq => (h.b23.block q (by omega)).trans (h.b12.block q hq)
  have ltS := h.rs.lt
  have ltT := h.rt.lt
  have O5' := ow_below (w' := w3) O5 fun q hq => hb13 q (O5.lt q hq).2
  have O11' := ow_below (w' := w3) O11 fun q hq => hb13 q (O11.lt q hq).2
  have hps := ps_len ts
  have hpe : ∀ p, p ∈ (splitR ts [43]).1 → p.length ≤ maxLen := fun p hp => by have := ps_each ts p hp; unfold maxLen; omega
  have m1 : ∀ {v : Value} {x : V}, Rep0 w1 H1 v x → Rep0 w3 (H3 H1 v5 v13 vs vt vlt) v x := fun hr => hr.mono (fun q hq => .inl hq) (fun q hq => hb13 q (h.Hlt q hq))
  have hlt3 : ∀ q, H3 H1 v5 v13 vs vt vlt q → q < w3.heap.size := fun q hq => by
    rcases hq with hq | hq | hq | hq | hq | ⟨j, v, hj, hq⟩
    · have := h.Hlt q hq; omega
    · have := (O5.lt q hq).2; omega
    · have := (O13.lt q hq).2; omega
    · have := (ltS.1 q hq).2; omega
    · exact (ltT.1 q hq).2
    · exact (ltT.2 j v q hj hq).2
  refine ⟨mem2 hlt3 (own0 O11') (T_rep R11) (T_cells _) (by unfold maxLen; omega) (by decide) (fun q hq h3 => ?_) (World.ownsRow_nil w3 0 _ 3) ⟨rfl, fun j v x h => by simp at h⟩ (fun x h => by simp at h) (Nat.zero_le _) (by decide) (fun q h => by cases h) (fun q _ h => by cases h), hz, hd, kp, ?_, fun id hid => ?_⟩
  · have hq1 := (O11.lt q hq).2
    rcases h3 with h3 | h3 | h3 | h3 | h3 | ⟨j, v, hj, h3⟩
    · exact h.n11 q hq h3
    · exact h.s5 q h3 hq
    · exact h.s11 q hq h3
    · have := (ltS.1 q h3).1; omega
    · have := (ltT.1 q h3).1; omega
    · have := (ltT.2 j v q hj h3).1; omega
  · refine env_lk (fun t => a.tmps.getD t undef) _ fun p hp => ?_
    simp only [List.mem_cons, List.not_mem_nil, or_false] at hp
    rcases hp with rfl | rfl | rfl | rfl | rfl | rfl | rfl
    · show Rep _ _ _ (a.tmps.getD 1 undef) _
      rw [kp 1 v1 (by simp [ks3])]; exact .base (m1 h.p1)
    · show Rep _ _ _ (a.tmps.getD 5 undef) _
      rw [kp 5 v5 (by simp [ks3])]; exact .base (row_l (by decide) O5' (T_rep R5) (by unfold maxLen; omega) fun q hq => .inr (.inl hq))
    · show Rep _ _ _ (a.tmps.getD 6 undef) _
      rw [kp 6 v6 (by simp [ks3]), e6]
      rw [e5] at O5'
      have hcap : ts.length ≤ cap := by
        rcases O5'.2 with ⟨h0, _⟩ | ⟨_, _, _, h0, _, _, h1, _⟩
        · cases h0
        · cases h0; omega
      exact .base (row_pre (l2 := [r9, r8]) O5' (T_rep R5) (by unfold maxLen; omega) hcap (.inr (.inl (by rw [e5]; rfl))))
    · show Rep _ _ _ (a.tmps.getD 9 undef) _
      rw [kp 9 v9 (by simp [ks3])]; exact .base (m1 h.p9)
    · show Rep _ _ _ (a.tmps.getD 11 undef) _
      rw [k11]; exact rep_ow O11' (by unfold maxLen; omega) rfl
    · show Rep _ _ _ (a.tmps.getD 15 undef) _
      rw [kp 15 vs (by simp [ks3])]; exact .base ((h.rs.below h.b23).readc (by unfold maxLen; omega) fun q hq => .inr (.inr (.inr (.inl hq))))
    · show Rep _ _ _ (a.tmps.getD 17 undef) _
      rw [kp 17 vt (by simp [ks3])]; exact .base (h.rt.read hpe (by unfold maxLen; omega) (fun q hq => .inr (.inr (.inr (.inr (.inl hq))))) fun j v q hj hq => .inr (.inr (.inr (.inr (.inr ⟨j, v, hj, hq⟩)))))
  · match id, hid with
    | k + 2, _ => rfl
def H5 (H1 : Nat → Prop) (v13 vt : Value) (vl vlt : List Value) (q : Nat) : Prop := H1 q ∨ v13.ownBlock = some q ∨ (∃ (j : Nat) (v : Value), vl[j]? = some v ∧ v.ownBlock = some q) ∨ vt.ownBlock = some q ∨ ∃ (j : Nat) (v : Value), vlt[j]? = some v ∧ v.ownBlock = some q
theorem K3.conc5 {w w1 w2 w3 w4 w5 : World} {H1 : Nat → Prop} {s : List UInt8} {ts : List Tk} {v1 v5 v6 v7 v9 v11 v13 vs vt : Value} {vl vlt : List Value} (h : K3 w w1 w2 w3 H1 s ts v1 v5 v6 v7 v9 v11 v13 vs vt vl vlt) (hl : ts.length ≤ 1100000)
    (hb4 : BelE w3 (fun q => v11.ownBlock = some q ∨ (Value.slice none 0 0).ownBlock = some q) w4) (hM : Ma w4 w5 vs vl (mps (splitR ts [43]).1 (splitR ts [43]).1.length)) {a : Act} (hz : a.tmps.size = 232) (hd : a.defers = [])
    (kp : ∀ m v, (m, v) ∈ ks3 v1 v5 v6 v7 v9 v13 vs vt → a.tmps.getD m undef = v) :
    Conc w5 ⟨H5 H1 v13 vt vl vlt, fun q => v5.ownBlock = some q ∨ vs.ownBlock = some q, []⟩ w5 (H5 H1 v13 vt vl vlt) (fun i => match i with | 0 => some v5 | 1 => some vs | _ => none) 232 a
      ⟨[(1, .l 3 (T ts)), (5, .ow 3 0 (ts.length + 2)), (6, .sl 3 0 0 ts.length), (7, .l 3 (T (scanR s).1)), (9, .l 1 (PT (splitR ts [43]).1)), (13, .l 3 (T (scanR s).1)), (15, .ow 1 1 (splitR ts [43]).1.length), (17, .l 1 (PT (splitR ts [43]).1))], [(0, some ⟨27, 3, T (ts ++ [r9, r8]), true, false⟩), (1, some ⟨24, 1, PT (mps (splitR ts [43]).1 (splitR ts [43]).1.length), true, false⟩)], 2⟩ := by
  obtain ⟨g, cap, x5, e5, e6, O5, R5⟩ := h.o5
  obtain ⟨x11, O11, R11⟩ := h.o11
  obtain ⟨x13, O13, R13⟩ := h.o13
  have hs12 := h.b12.size
  have hs23 := h.b23.size
  have hs34 := hb4.size
  have hs45 := hM.size
  have hx := scanR_len s
  have ltS := h.rs.lt
  have ltT := h.rt.lt
  have hb13 : ∀ q, q < w1.heap.size → w3.heap[q]? = w1.heap[q]? := fun q hq => (h.b23.block q (by omega)).trans (h.b12.block q hq)
  have hb35 : ∀ q, q < w3.heap.size → v11.ownBlock ≠ some q → (q < w1.heap.size ∨ w2.heap.size ≤ q ∨ vs.ownBlock = some q) → w5.heap[q]? = w3.heap[q]? := fun q hq hne hc => by
    refine (hM.block q (by omega) fun j v hj hq2 => ?_).trans (hb4.block q hq fun h => h.elim hne (fun h => by cases h))
    rcases hc with hc | hc | hc
    · have := (ltS.2 j v q hj hq2).1; omega
    · have := (ltS.2 j v q hj hq2).2; omega
    · exact h.rs.ne hj hq2 hc
  have hb15 : ∀ q, q < w1.heap.size → v11.ownBlock ≠ some q → w5.heap[q]? = w1.heap[q]? := fun q hq hne => (hb35 q (by omega) hne (.inl hq)).trans (hb13 q hq)
  have O5' := ow_below (w' := w5) O5 fun q hq => hb15 q (O5.lt q hq).2 (h.s5 q hq)
  have O13' := ow_below (w' := w5) O13 fun q hq => hb15 q (O13.lt q hq).2 (fun h2 => h.s11 q h2 hq)
  have lt11 : ∀ q, v11.ownBlock = some q → q < w1.heap.size := fun q hq => (O11.lt q hq).2
  have hRt := h.rt.keep (w' := w5) (fun q hq => hb35 q (ltT.1 q hq).2 (fun h2 => by have := lt11 q h2; have := (ltT.1 q hq).1; omega) (.inr (.inl (ltT.1 q hq).1))) fun j v q hj hq => hb35 q (ltT.2 j v q hj hq).2 (fun h2 => by have := lt11 q h2; have := (ltT.2 j v q hj hq).1; omega) (.inr (.inl (ltT.2 j v q hj hq).1))
  have hps := ps_len ts
  have hpe : ∀ p, p ∈ (splitR ts [43]).1 → p.length ≤ maxLen := fun p hp => by have := ps_each ts p hp; unfold maxLen; omega
  have m1 : ∀ {v : Value} {x : V}, Rep0 w1 H1 v x → Rep0 w5 (H5 H1 v13 vt vl vlt) v x := fun hr => hr.mono (fun q hq => .inl hq) (fun q hq => hb15 q (h.Hlt q hq) (fun h2 => h.n11 q h2 hq))
  have hRM := hM.rows
  have hml := mps_len (splitR ts [43]).1 (splitR ts [43]).1.length
  have hme : ∀ p, p ∈ mps (splitR ts [43]).1 (splitR ts [43]).1.length → p.length ≤ maxLen := fun p hp => by
    simp only [mps, List.mem_map, List.mem_range] at hp
    obtain ⟨j, hj, rfl⟩ := hp
    rw [if_pos hj]
    simp only [mkd, List.length_replicate]
    refine hpe _ ?_
    rw [List.getD_eq_getElem?_getD, List.getElem?_eq_getElem hj]; exact List.getElem_mem hj
  have hlt5 : ∀ q, H5 H1 v13 vt vl vlt q → q < w5.heap.size := fun q hq => by
    rcases hq with hq | hq | ⟨j, v, hj, hq⟩ | hq | ⟨j, v, hj, hq⟩
    · have := h.Hlt q hq; omega
    · have := (O13.lt q hq).2; omega
    · have := (ltS.2 j v q hj hq).2; omega
    · have := (ltT.1 q hq).2; omega
    · have := (ltT.2 j v q hj hq).2; omega
  have hrow := hRM.row
  rw [hml] at hrow
  refine ⟨mem2 hlt5 (own0 O5') (T_rep R5) (T_cells _) (by unfold maxLen; omega) (by decide) (fun q hq h3 => ?_) (own0 hrow) (hRM.cells hme fun j v q hj hq => .inr (.inr (.inl ⟨j, v, hj, hq⟩))) (PT_cells _) (by unfold maxLen; omega) Nat.one_pos (fun q hq h3 => ?_) (fun q hq h3 => ?_), hz, hd, fun _ _ h => (by cases h), ?_, fun id hid => ?_⟩
  · have hq1 := (O5.lt q hq).2
    rcases h3 with h3 | h3 | ⟨j, v, hj, h3⟩ | h3 | ⟨j, v, hj, h3⟩
    · exact h.n5 q hq h3
    · exact h.s5' q hq h3
    · have := (ltS.2 j v q hj h3).1; omega
    · have := (ltT.1 q h3).1; omega
    · have := (ltT.2 j v q hj h3).1; omega
  · have hq1 := ltS.1 q hq
    rcases h3 with h3 | h3 | ⟨j, v, hj, h3⟩ | h3 | ⟨j, v, hj, h3⟩
    · have := h.Hlt q h3; omega
    · have := (O13.lt q h3).2; omega
    · exact h.rs.ne hj h3 hq
    · have := (ltT.1 q h3).1; omega
    · have := (ltT.2 j v q hj h3).1; omega
  · have := (O5.lt q hq).2; have := (ltS.1 q h3).1; omega
  · refine env_lk (fun t => a.tmps.getD t undef) _ fun p hp => ?_
    simp only [List.mem_cons, List.not_mem_nil, or_false] at hp
    rcases hp with rfl | rfl | rfl | rfl | rfl | rfl | rfl | rfl
    · show Rep _ _ _ (a.tmps.getD 1 undef) _
      rw [kp 1 v1 (by simp [ks3])]; exact .base (m1 h.p1)
    · show Rep _ _ _ (a.tmps.getD 5 undef) _
      rw [kp 5 v5 (by simp [ks3])]; exact rep_ow O5' (by unfold maxLen; omega) rfl
    · show Rep _ _ _ (a.tmps.getD 6 undef) _
      rw [kp 6 v6 (by simp [ks3]), e6]
      rw [e5] at O5'
      have hcap : ts.length ≤ cap := by
        rcases O5'.2 with ⟨h0, _⟩ | ⟨_, _, _, h0, _, _, h1, _⟩
        · cases h0
        · cases h0; omega
      refine .sl _ 3 0 0 _ cap v5 (by unfold maxLen; omega) hcap rfl (.inr ⟨g, by rw [e5]; rfl, rfl⟩) (fun _ _ => ⟨_, e5⟩)
    · show Rep _ _ _ (a.tmps.getD 7 undef) _
      rw [kp 7 v7 (by simp [ks3])]; exact .base (m1 h.p7)
    · show Rep _ _ _ (a.tmps.getD 9 undef) _
      rw [kp 9 v9 (by simp [ks3])]; exact .base (m1 h.p9)
    · show Rep _ _ _ (a.tmps.getD 13 undef) _
      rw [kp 13 v13 (by simp [ks3])]; exact .base (row_l (by decide) O13' (T_rep R13) (by unfold maxLen; omega) fun q hq => .inr (.inl hq))
    · show Rep _ _ _ (a.tmps.getD 15 undef) _
      rw [kp 15 vs (by simp [ks3])]; exact rep_ow hrow (by unfold maxLen; omega) rfl
    · show Rep _ _ _ (a.tmps.getD 17 undef) _
      rw [kp 17 vt (by simp [ks3])]; exact .base (hRt.read hpe (by unfold maxLen; omega) (fun q hq => .inr (.inr (.inr (.inl hq)))) fun j v q hj hq => .inr (.inr (.inr (.inr ⟨j, v, hj, hq⟩))))
  · match id, hid with
    | k + 2, _ => rfl
end Go.Proofs.Ytjfbkegdnljfjaa
