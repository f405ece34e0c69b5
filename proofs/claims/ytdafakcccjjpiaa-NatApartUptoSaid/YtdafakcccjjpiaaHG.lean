/-
  The texts AP38, AP39, AP40, AP41, AP42.
-/
import Derived.Test.YtdafakcccjjpiaaHA
import Derived.Test.YtdafakcccjjpiaaHF
namespace Go.Proofs.Ytdafakcccjjpiaa
open Go Go.RowKit Go.Proofs Ab
set_option linter.unusedSimpArgs false
set_option linter.unusedVariables false
set_option maxHeartbeats 10000000
set_option maxHeartbeats 4000000
set_option maxRecDepth 2000000
theorem filter_lt {p q : Nat → Bool} : ∀ (l : List Nat) (x : Nat), (∀ y, q y = true → p y = true) → x ∈ l → p x = true → q x = false → (l.filter q).length < (l.filter p).length
  | [], x, _, hx, _, _ => by simp at hx
  | y :: l, x, h, hx, hp, hq => by
    have hle : ∀ l : List Nat, (l.filter q).length ≤ (l.filter p).length := fun l => by
      induction l with
      | nil => exact Nat.le_refl _
      | cons z l ih =>
        simp only [List.filter_cons]
        by_cases h1 : q z = true
        · rw [if_pos h1, if_pos (h z h1)]; simp only [List.length_cons]; omega
        · rw [if_neg h1]
          split
          · simp only [List.length_cons]; omega
          · exact ih
    simp only [List.filter_cons]
    rcases List.mem_cons.1 hx with rfl | hx
    · rw [if_pos hp, hq]
      have := hle l
      simp only [Bool.false_eq_true, if_false, List.length_cons]; omega
    · have ih := filter_lt l x h hx hp hq
      by_cases h1 : q y = true
      · rw [if_pos h1, if_pos (h y h1)]; simp only [List.length_cons]; omega
      · rw [if_neg h1]
        split
        · simp only [List.length_cons]; omega
        · exact ih
theorem set_in {listed : Array Bool} {i j : Nat} (d : Bool) : (listed.setIfInBounds i true).getD j d = if i = j ∧ i < listed.size then true else listed.getD j d := by
  by_cases hij : i = j
  · subst hij
    by_cases hs : i < listed.size
    · simp [hs]
    · simp [hs]
  · rw [if_neg (fun h => hij h.1)]
    simp only [Array.getD_eq_getD_getElem?, Array.getElem?_setIfInBounds_ne hij]
def backB (ops : Array Oper) : Bool := (List.range ops.size).all fun j => ((ops[j]?).map fun o => o.after.all fun e => decide (e.on < j)).getD true
theorem backB_spec {ops : Array Oper} (h : backB ops = true) {j : Nat} {o : Oper} (ho : ops[j]? = some o) : ∀ e, e ∈ o.after → e.on < j := fun e he => by
  have hj : j < ops.size := (Array.getElem?_eq_some_iff.1 ho).1
  have h1 := List.all_eq_true.1 h j (List.mem_range.2 hj)
  rw [ho] at h1
  simp only [Option.map_some, Option.getD_some] at h1
  exact of_decide_eq_true (Array.all_eq_true_iff_forall_mem.1 h1 e he)
theorem wpAny_inv {P : Program} {ops : Array Oper} {Q : Exit → Act → World → Prop} {md : Region.Mode} (I : Array Bool → Act → World → Prop) (hB : backB ops = true)
    (hstep : ∀ listed a w i o, I listed a w → ops[i]? = some o → listed.getD i true = false → (∀ e, e ∈ o.after → Region.binds md e = true → listed.getD e.on false = true) → wpOp P ops Q i (I (listed.setIfInBounds i true)) a w)
    (hfin : ∀ listed a w, I listed a w → (∀ j, j < ops.size → listed.getD j true = true) → Q .normal a w) :
    ∀ (f : Nat) (listed : Array Bool) (a : Act) (w : World), listed.size = ops.size → ((List.range ops.size).filter fun i => !listed.getD i true).length ≤ f → I listed a w → wpAny P md ops Q f listed a w := by
  have all : ∀ listed : Array Bool, listed.size = ops.size → Region.ready md ops listed = [] → ∀ j, j < ops.size → listed.getD j true = true := fun listed hs hr j => by
    induction j using Nat.strongRecOn with
    | _ j ih =>
      intro hj
      cases hl : listed.getD j true with
      | true => rfl
      | false =>
        have hm : j ∈ Region.ready md ops listed := by
          have hg : ops[j]? = some ops[j] := Array.getElem?_eq_getElem hj
          refine mem_ready.2 ⟨hl, ops[j], hg, fun e he _ => ?_⟩
          have h1 := backB_spec hB hg e he
          have h2 := ih e.on h1 (by omega)
          simp only [Array.getD_eq_getD_getElem?, Array.getElem?_eq_getElem (show e.on < listed.size by omega), Option.getD_some] at h2 ⊢
          exact h2
        rw [hr] at hm; cases hm
  intro f
  induction f with
  | zero =>
    intro listed a w hs hc hI
    have h0 : ∀ j, j < ops.size → listed.getD j true = true := fun j hj => by
      cases hl : listed.getD j true with
      | true => rfl
      | false =>
        have hm : j ∈ (List.range ops.size).filter fun i => !listed.getD i true := List.mem_filter.2 ⟨List.mem_range.2 hj, by rw [hl]; rfl⟩
        rw [List.eq_nil_of_length_eq_zero (Nat.le_zero.1 hc)] at hm; cases hm
    refine ⟨?_, hfin _ _ _ hI h0⟩
    refine List.eq_nil_iff_forall_not_mem.2 fun j hj => ?_
    obtain ⟨h1, o, h2, _⟩ := mem_ready.1 hj
    rw [h0 j (Array.getElem?_eq_some_iff.1 h2).1] at h1; cases h1
  | succ f ih =>
    intro listed a w hs hc hI
    refine ⟨fun hr => hfin _ _ _ hI (all listed hs hr), fun i hi => ?_⟩
    obtain ⟨h1, o, h2, h3⟩ := mem_ready.1 hi
    have hin : i < ops.size := (Array.getElem?_eq_some_iff.1 h2).1
    refine wpOp_mono (fun a' w' hI' => ih _ a' w' (by simp [hs]) ?_ hI') (hstep listed a w i o hI h2 h1 h3)
    have := filter_lt (p := fun i => !listed.getD i true) (q := fun j => !(listed.setIfInBounds i true).getD j true) (List.range ops.size) i (fun y hy => ?_) (List.mem_range.2 hin) (by show (!listed.getD i true) = true; rw [h1]; rfl) (by show (!(listed.setIfInBounds i true).getD i true) = false; rw [set_in, if_pos ⟨rfl, by omega⟩]; rfl)
    · omega
    · have hy' : (!(listed.setIfInBounds i true).getD y true) = true := hy
      rw [set_in] at hy'
      split at hy'
      · cases hy'
      · exact hy'
theorem op_at {P : Program} {ops : Array Oper} {Q : Exit → Act → World → Prop} {i : Nat} {o : Oper} {K : Act → World → Prop} {a : Act} {w : World} (ho : ops[i]? = some o) (hg : o.guard = none) (h : o.wp P a w K Q) : wpOp P ops Q i K a w := by
  unfold wpOp
  simp only [ho]
  rw [if_pos (by unfold Region.wanted; rw [hg])]
  exact .inl h
theorem op_move {P : Program} {ops : Array Oper} {Q : Exit → Act → World → Prop} {i : Nat} {o : Oper} {K : Act → World → Prop} {a : Act} {w : World} (x : Operand) (ho : ops[i]? = some o) (hg : o.guard = none) (hx : o.op = .move x) (h : K (a.put o.dst (a.eval x)) w) : wpOp P ops Q i K a w :=
  op_at ho hg (BigFrame.wp_move x hx h)
end Go.Proofs.Ytdafakcccjjpiaa
namespace Go.Proofs.Ytdafakcccjjpiaa
open Go Go.RowKit Go.Proofs Ab
set_option linter.unusedSimpArgs false
set_option linter.unusedVariables false
set_option maxHeartbeats 10000000
set_option maxHeartbeats 4000000
set_option maxRecDepth 2000000
structure OJ (N d0 m : Nat) (D : Nat → Bool) (a0 : Act) (w0 w1 : World) (v : Nat → Value) (Qf : World → Prop) (listed : Array Bool) (a : Act) (w : World) : Prop where
  ls : listed.size = m + 2
  sz : a.tmps.size = N
  df : a.defers = a0.defers
  old : ∀ t, t < d0 → a.tmps.getD t undef = a0.tmps.getD t undef
  val : ∀ j, j < m + 1 → listed.getD j true = true → a.tmps.getD (d0 + j) undef = v j
  c1 : listed.getD m true = true → ∀ j, D j = true → listed.getD j true = true
  c2 : listed.getD (m + 1) true = true → listed.getD m true = true
  k0 : listed.getD m true = false → w = w0
  k1 : listed.getD m true = true → listed.getD (m + 1) true = false → w = w1
  k2 : listed.getD (m + 1) true = true → Qf w
theorem getD_tf {listed : Array Bool} {i : Nat} (h : i < listed.size) (hl : listed.getD i false = true) : listed.getD i true = true := by
  simp only [Array.getD_eq_getD_getElem?, Array.getElem?_eq_getElem h, Option.getD_some] at hl ⊢; exact hl
theorem op_with {P : Program} {ops : Array Oper} {Q : Exit → Act → World → Prop} {i : Nat} {o : Oper} {K : Act → World → Prop} {a a' : Act} {w w' : World} (ho : ops[i]? = some o) (hg : o.guard = none) (hk : K a' w') (h : ∀ K : Act → World → Prop, K a' w' → o.wp P a w K Q) : wpOp P ops Q i K a w := op_at ho hg (h K hk)
theorem OJ.put {N d0 m : Nat} {D : Nat → Bool} {a0 : Act} {w0 w1 : World} {v : Nat → Value} {Qf : World → Prop} {listed : Array Bool} {a : Act} {w : World} (h : OJ N d0 m D a0 w0 w1 v Qf listed a w) {i : Nat} (hi : i < m) (hn : d0 + i < N) {x : Value} (hx : x = v i) : OJ N d0 m D a0 w0 w1 v Qf (listed.setIfInBounds i true) (a.put (some (d0 + i)) x) w := by
  have hs := h.ls
  have ne : ∀ j, i ≠ j → (listed.setIfInBounds i true).getD j true = listed.getD j true := fun j hj => by rw [set_in, if_neg (fun h => hj h.1)]
  refine ⟨by simp [hs], by simp [Act.put, h.sz], h.df, fun t ht => ?_, fun j hj hl => ?_, fun hl j h1 => ?_, fun hl => ?_, fun hl => h.k0 (by rw [ne _ (by omega)] at hl; exact hl), fun hl hl2 => h.k1 (by rw [ne _ (by omega)] at hl; exact hl) (by rw [ne _ (by omega)] at hl2; exact hl2), fun hl => h.k2 (by rw [ne _ (by omega)] at hl; exact hl)⟩
  · show (a.tmps.setIfInBounds (d0 + i) x).getD t undef = _
    rw [gset_ne (by omega)]; exact h.old t ht
  · show (a.tmps.setIfInBounds (d0 + i) x).getD (d0 + j) undef = _
    by_cases hij : i = j
    · subst hij
      rw [gset_eq (by rw [h.sz]; exact hn)]; exact hx
    · rw [gset_ne (by omega)]
      rw [ne j hij] at hl
      exact h.val j hj hl
  · rw [ne _ (by omega)] at hl
    rw [set_in]
    split
    · rfl
    · exact h.c1 hl j h1
  · rw [ne _ (by omega)] at hl ⊢
    exact h.c2 hl
theorem OJ.build {N d0 m : Nat} {D : Nat → Bool} {a0 : Act} {w0 w1 : World} {v : Nat → Value} {Qf : World → Prop} {listed : Array Bool} {a : Act} {w : World} (h : OJ N d0 m D a0 w0 w1 v Qf listed a w) (hn : d0 + m < N) (hl : ∀ j, D j = true → listed.getD j true = true) (hD : D m = false) (hu : listed.getD m true = false) {x : Value} (hx : x = v m) : OJ N d0 m D a0 w0 w1 v Qf (listed.setIfInBounds m true) (a.put (some (d0 + m)) x) w1 := by
  have hs := h.ls
  have ne : ∀ j, m ≠ j → (listed.setIfInBounds m true).getD j true = listed.getD j true := fun j hj => by rw [set_in, if_neg (fun h => hj h.1)]
  have he : (listed.setIfInBounds m true).getD m true = true := by rw [set_in, if_pos ⟨rfl, by omega⟩]
  have hm1 : listed.getD (m + 1) true = false := by
    cases hc : listed.getD (m + 1) true with
    | false => rfl
    | true => rw [h.c2 hc] at hu; cases hu
  refine ⟨by simp [hs], by simp [Act.put, h.sz], h.df, fun t ht => ?_, fun j hj hl => ?_, fun _ j h1 => (ne j (fun e => by rw [← e, hD] at h1; cases h1)).trans (hl j h1), fun _ => he, fun hl => (by rw [he] at hl; cases hl), fun _ _ => rfl, fun hl => (by rw [ne _ (by omega), hm1] at hl; cases hl)⟩
  · show (a.tmps.setIfInBounds (d0 + m) x).getD t undef = _
    rw [gset_ne (by omega)]; exact h.old t ht
  · show (a.tmps.setIfInBounds (d0 + m) x).getD (d0 + j) undef = _
    by_cases hij : m = j
    · subst hij
      rw [gset_eq (by rw [h.sz]; exact hn)]; exact hx
    · rw [gset_ne (by omega)]
      rw [ne j hij] at hl
      exact h.val j hj hl
theorem OJ.call {N d0 m : Nat} {D : Nat → Bool} {a0 : Act} {w0 w1 w : World} {v : Nat → Value} {Qf : World → Prop} {listed : Array Bool} {a : Act} (h : OJ N d0 m D a0 w0 w1 v Qf listed a w) (hD : D (m + 1) = false) (hu : listed.getD m true = true) {x : Value} {w' : World} (hq : Qf w') : OJ N d0 m D a0 w0 w1 v Qf (listed.setIfInBounds (m + 1) true) (a.put (some (d0 + m + 1)) x) w' := by
  have hs := h.ls
  have ne : ∀ j, m + 1 ≠ j → (listed.setIfInBounds (m + 1) true).getD j true = listed.getD j true := fun j hj => by rw [set_in, if_neg (fun h => hj h.1)]
  have he : (listed.setIfInBounds (m + 1) true).getD (m + 1) true = true := by rw [set_in, if_pos ⟨rfl, by omega⟩]
  refine ⟨by simp [hs], by simp [Act.put, h.sz], h.df, fun t ht => ?_, fun j hj hl => ?_, fun _ j h1 => (ne j (fun e => by rw [← e, hD] at h1; cases h1)).trans (h.c1 hu j h1), fun _ => (ne _ (by omega)).trans hu, fun hl => (by rw [ne _ (by omega), hu] at hl; cases hl), fun _ hl => (by rw [he] at hl; cases hl), fun _ => hq⟩
  · show (a.tmps.setIfInBounds (d0 + m + 1) x).getD t undef = _
    rw [gset_ne (by omega)]; exact h.old t ht
  · show (a.tmps.setIfInBounds (d0 + m + 1) x).getD (d0 + j) undef = _
    rw [gset_ne (by omega)]
    rw [ne j (by omega)] at hl
    exact h.val j hj hl
end Go.Proofs.Ytdafakcccjjpiaa
namespace Go.Proofs.Ytdafakcccjjpiaa
open Go Go.RowKit Go.Proofs Ab
set_option linter.unusedSimpArgs false
set_option linter.unusedVariables false
set_option maxHeartbeats 10000000
set_option maxHeartbeats 4000000
set_option maxRecDepth 2000000
def oL (v0 v1 v2 v3 v4 v5 v6 v7 v8 v9 v11 v12 v13 v14 v15 vS : Value) (q c : Nat) : Nat → Value
  | 0 => v0 | 1 => v1 | 2 => v2 | 3 => v3 | 4 => v4 | 5 => v5 | 6 => v6 | 7 => v7 | 8 => v8 | 9 => v9
  | 10 => .slice (some ⟨q, 0, none⟩) 3 c | 11 => .pointer (some ⟨q, 0, none⟩) | 12 => v11
  | 13 => .slice (some ⟨q, 0, none⟩) 3 c | 14 => .pointer (some ⟨q, 1, none⟩) | 15 => v12
  | 16 => .slice (some ⟨q, 0, none⟩) 3 c | 17 => .pointer (some ⟨q, 2, none⟩) | 18 => v13
  | 19 => v14 | 20 => v15 | 21 => vS | _ => undef
def oD (j : Nat) : Bool := (1 ≤ j && j ≤ 9) || j == 12 || j == 15 || j == 18 || j == 19 || j == 20
theorem na_out {a : Act} {w : World} {R : Exit → Act → World → Prop} {b q c : Nat} {x13 x14 x15 x17 x19 x20 x22 x24 x26 x28 x29 l0 l1 l2 : Value} {Qf : World → Prop} (hz : a.tmps.size = 264) (h7 : a.tmps.getD 7 undef = .pointer (some ⟨b, 0, none⟩)) (h27 : a.tmps.getD 27 undef = .slice (some ⟨q, 0, none⟩) 3 c)
    (h13 : a.tmps.getD 13 undef = x13) (h14 : a.tmps.getD 14 undef = x14) (h15 : a.tmps.getD 15 undef = x15) (h17 : a.tmps.getD 17 undef = x17) (h19 : a.tmps.getD 19 undef = x19) (h20 : a.tmps.getD 20 undef = x20) (h22 : a.tmps.getD 22 undef = x22) (h24 : a.tmps.getD 24 undef = x24) (h26 : a.tmps.getD 26 undef = x26) (h28 : a.tmps.getD 28 undef = x28) (h29 : a.tmps.getD 29 undef = x29)
    (hsl : ∀ v, v ∈ [x13, x14, x15, x17, x19, x20, x22, x24, x26, l0, l1, l2, x28, x29] → ∃ a n c, v = Value.slice a n c)
    (k0 : w.cell? ⟨q, 0, none⟩ = some l0) (k1 : w.cell? ⟨q, 1, none⟩ = some l1) (k2 : w.cell? ⟨q, 2, none⟩ = some l2)
    (hcall : Calls Try.prog 23 #[.pointer (some ⟨b, 0, none⟩), .slice (some ⟨w.heap.size, 0, none⟩) 14 14] (World.alloc { w with drawn := w.drawn + 1 } (.cells #[x13, x14, x15, x17, x19, x20, x22, x24, x26, l0, l1, l2, x28, x29] 23)) (fun e w' => e = .returned (.tuple #[]) ∧ Qf w'))
    (kk : ∀ (a' : Act) (w' : World), a'.tmps.size = 264 → (∀ t, t < 235 → a'.tmps.getD t undef = a.tmps.getD t undef) → a'.defers = a.defers → Qf w' → R .normal a' w') : (q1 (qd 17 (naD Try.f3))).wp Try.prog R a w := by
  obtain ⟨ax13, nx13, cx13, rfl⟩ := hsl x13 (by simp)
  obtain ⟨ax14, nx14, cx14, rfl⟩ := hsl x14 (by simp)
  obtain ⟨ax15, nx15, cx15, rfl⟩ := hsl x15 (by simp)
  obtain ⟨ax17, nx17, cx17, rfl⟩ := hsl x17 (by simp)
  obtain ⟨ax19, nx19, cx19, rfl⟩ := hsl x19 (by simp)
  obtain ⟨ax20, nx20, cx20, rfl⟩ := hsl x20 (by simp)
  obtain ⟨ax22, nx22, cx22, rfl⟩ := hsl x22 (by simp)
  obtain ⟨ax24, nx24, cx24, rfl⟩ := hsl x24 (by simp)
  obtain ⟨ax26, nx26, cx26, rfl⟩ := hsl x26 (by simp)
  obtain ⟨al0, nl0, cl0, rfl⟩ := hsl l0 (by simp)
  obtain ⟨al1, nl1, cl1, rfl⟩ := hsl l1 (by simp)
  obtain ⟨al2, nl2, cl2, rfl⟩ := hsl l2 (by simp)
  obtain ⟨ax28, nx28, cx28, rfl⟩ := hsl x28 (by simp)
  obtain ⟨ax29, nx29, cx29, rfl⟩ := hsl x29 (by simp)
  clear hsl
  refine wp_region_any fol ?_
  refine wpAny_inv (OJ 264 235 21 oD a { w with drawn := w.drawn + 1 } (World.alloc { w with drawn := w.drawn + 1 } (.cells #[(.slice ax13 nx13 cx13), (.slice ax14 nx14 cx14), (.slice ax15 nx15 cx15), (.slice ax17 nx17 cx17), (.slice ax19 nx19 cx19), (.slice ax20 nx20 cx20), (.slice ax22 nx22 cx22), (.slice ax24 nx24 cx24), (.slice ax26 nx26 cx26), (.slice al0 nl0 cl0), (.slice al1 nl1 cl1), (.slice al2 nl2 cl2), (.slice ax28 nx28 cx28), (.slice ax29 nx29 cx29)] 23)) (oL (.pointer (some ⟨b, 0, none⟩)) (.slice ax13 nx13 cx13) (.slice ax14 nx14 cx14) (.slice ax15 nx15 cx15) (.slice ax17 nx17 cx17) (.slice ax19 nx19 cx19) (.slice ax20 nx20 cx20) (.slice ax22 nx22 cx22) (.slice ax24 nx24 cx24) (.slice ax26 nx26 cx26) (.slice al0 nl0 cl0) (.slice al1 nl1 cl1) (.slice al2 nl2 cl2) (.slice ax28 nx28 cx28) (.slice ax29 nx29 cx29) (.slice (some ⟨w.heap.size, 0, none⟩) 14 14) q c) Qf) (by kernel_rfl) ?_ ?_ _ _ _ _ (by simp) ?_ ?_
  · intro listed a1 w1 i o hI ho hu haf
    have hi : i < 23 := by
      have := (Array.getElem?_eq_some_iff.1 ho).1
      exact this
    have hs := hI.ls
    have hsz := hI.sz
    have mv : ∀ (t j : Nat) (v : Value), t < 235 → a.tmps.getD t undef = v → (oL (.pointer (some ⟨b, 0, none⟩)) (.slice ax13 nx13 cx13) (.slice ax14 nx14 cx14) (.slice ax15 nx15 cx15) (.slice ax17 nx17 cx17) (.slice ax19 nx19 cx19) (.slice ax20 nx20 cx20) (.slice ax22 nx22 cx22) (.slice ax24 nx24 cx24) (.slice ax26 nx26 cx26) (.slice al0 nl0 cl0) (.slice al1 nl1 cl1) (.slice al2 nl2 cl2) (.slice ax28 nx28 cx28) (.slice ax29 nx29 cx29) (.slice (some ⟨w.heap.size, 0, none⟩) 14 14) q c) j = v → a1.eval (.tmp t) = (oL (.pointer (some ⟨b, 0, none⟩)) (.slice ax13 nx13 cx13) (.slice ax14 nx14 cx14) (.slice ax15 nx15 cx15) (.slice ax17 nx17 cx17) (.slice ax19 nx19 cx19) (.slice ax20 nx20 cx20) (.slice ax22 nx22 cx22) (.slice ax24 nx24 cx24) (.slice ax26 nx26 cx26) (.slice al0 nl0 cl0) (.slice al1 nl1 cl1) (.slice al2 nl2 cl2) (.slice ax28 nx28 cx28) (.slice ax29 nx29 cx29) (.slice (some ⟨w.heap.size, 0, none⟩) 14 14) q c) j := fun t j v h1 h2 h3 => by
      rw [eval_tmp, hI.old t h1, h2, h3]
    match i, hi, ho, hu with
    | 0, _, ho, hu =>
      obtain rfl := Option.some.inj ho
      exact op_move _ ho rfl rfl (hI.put (i := 0) (by decide) (by decide) (mv 7 0 _ (by decide) h7 rfl))
    | 1, _, ho, hu =>
      obtain rfl := Option.some.inj ho
      exact op_move _ ho rfl rfl (hI.put (i := 1) (by decide) (by decide) (mv 13 1 _ (by decide) h13 rfl))
    | 2, _, ho, hu =>
      obtain rfl := Option.some.inj ho
      exact op_move _ ho rfl rfl (hI.put (i := 2) (by decide) (by decide) (mv 14 2 _ (by decide) h14 rfl))
    | 3, _, ho, hu =>
      obtain rfl := Option.some.inj ho
      exact op_move _ ho rfl rfl (hI.put (i := 3) (by decide) (by decide) (mv 15 3 _ (by decide) h15 rfl))
    | 4, _, ho, hu =>
      obtain rfl := Option.some.inj ho
      exact op_move _ ho rfl rfl (hI.put (i := 4) (by decide) (by decide) (mv 17 4 _ (by decide) h17 rfl))
    | 5, _, ho, hu =>
      obtain rfl := Option.some.inj ho
      exact op_move _ ho rfl rfl (hI.put (i := 5) (by decide) (by decide) (mv 19 5 _ (by decide) h19 rfl))
    | 6, _, ho, hu =>
      obtain rfl := Option.some.inj ho
      exact op_move _ ho rfl rfl (hI.put (i := 6) (by decide) (by decide) (mv 20 6 _ (by decide) h20 rfl))
    | 7, _, ho, hu =>
      obtain rfl := Option.some.inj ho
      exact op_move _ ho rfl rfl (hI.put (i := 7) (by decide) (by decide) (mv 22 7 _ (by decide) h22 rfl))
    | 8, _, ho, hu =>
      obtain rfl := Option.some.inj ho
      exact op_move _ ho rfl rfl (hI.put (i := 8) (by decide) (by decide) (mv 24 8 _ (by decide) h24 rfl))
    | 9, _, ho, hu =>
      obtain rfl := Option.some.inj ho
      exact op_move _ ho rfl rfl (hI.put (i := 9) (by decide) (by decide) (mv 26 9 _ (by decide) h26 rfl))
    | 10, _, ho, hu =>
      obtain rfl := Option.some.inj ho
      exact op_move _ ho rfl rfl (hI.put (i := 10) (by decide) (by decide) (mv 27 10 _ (by decide) h27 rfl))
    | 11, _, ho, hu =>
      obtain rfl := Option.some.inj ho
      have e1 : a1.tmps.getD 245 undef = .slice (some ⟨q, 0, none⟩) 3 c := hI.val 10 (by decide) (getD_tf (by omega) (haf ⟨10, .data⟩ (by simp) rfl))
      have g1 := gI hsz e1 (by decide)
      refine op_with ho rfl (hI.put (i := 11) (by decide) (by decide) (x := .pointer (some ⟨q, 0, none⟩)) rfl) fun K hK => ?_
      clear hI mv haf hu ho hcall kk
      go_simp
      exact hK
    | 12, _, ho, hu =>
      obtain rfl := Option.some.inj ho
      have e1 : a1.tmps.getD 246 undef = .pointer (some ⟨q, 0, none⟩) := hI.val 11 (by decide) (getD_tf (by omega) (haf ⟨11, .data⟩ (by simp) rfl))
      have g1 := gI hsz e1 (by decide)
      have hw : w1.cell? ⟨q, 0, none⟩ = some (.slice al0 nl0 cl0) := by
        rw [hI.k0 (by
          cases hc : listed.getD 21 true with
          | false => rfl
          | true => rw [hI.c1 hc 12 rfl] at hu; cases hu)]
        exact k0
      refine op_with ho rfl (hI.put (i := 12) (by decide) (by decide) (x := (.slice al0 nl0 cl0)) rfl) fun K hK => ?_
      clear hI mv haf hu ho hcall kk
      go_simp
      exact hK
    | 13, _, ho, hu =>
      obtain rfl := Option.some.inj ho
      exact op_move _ ho rfl rfl (hI.put (i := 13) (by decide) (by decide) (mv 27 13 _ (by decide) h27 rfl))
    | 14, _, ho, hu =>
      obtain rfl := Option.some.inj ho
      have e1 : a1.tmps.getD 248 undef = .slice (some ⟨q, 0, none⟩) 3 c := hI.val 13 (by decide) (getD_tf (by omega) (haf ⟨13, .data⟩ (by simp) rfl))
      have g1 := gI hsz e1 (by decide)
      refine op_with ho rfl (hI.put (i := 14) (by decide) (by decide) (x := .pointer (some ⟨q, 1, none⟩)) rfl) fun K hK => ?_
      clear hI mv haf hu ho hcall kk
      go_simp
      exact hK
    | 15, _, ho, hu =>
      obtain rfl := Option.some.inj ho
      have e1 : a1.tmps.getD 249 undef = .pointer (some ⟨q, 1, none⟩) := hI.val 14 (by decide) (getD_tf (by omega) (haf ⟨14, .data⟩ (by simp) rfl))
      have g1 := gI hsz e1 (by decide)
      have hw : w1.cell? ⟨q, 1, none⟩ = some (.slice al1 nl1 cl1) := by
        rw [hI.k0 (by
          cases hc : listed.getD 21 true with
          | false => rfl
          | true => rw [hI.c1 hc 15 rfl] at hu; cases hu)]
        exact k1
      refine op_with ho rfl (hI.put (i := 15) (by decide) (by decide) (x := (.slice al1 nl1 cl1)) rfl) fun K hK => ?_
      clear hI mv haf hu ho hcall kk
      go_simp
      exact hK
    | 16, _, ho, hu =>
      obtain rfl := Option.some.inj ho
      exact op_move _ ho rfl rfl (hI.put (i := 16) (by decide) (by decide) (mv 27 16 _ (by decide) h27 rfl))
    | 17, _, ho, hu =>
      obtain rfl := Option.some.inj ho
      have e1 : a1.tmps.getD 251 undef = .slice (some ⟨q, 0, none⟩) 3 c := hI.val 16 (by decide) (getD_tf (by omega) (haf ⟨16, .data⟩ (by simp) rfl))
      have g1 := gI hsz e1 (by decide)
      refine op_with ho rfl (hI.put (i := 17) (by decide) (by decide) (x := .pointer (some ⟨q, 2, none⟩)) rfl) fun K hK => ?_
      clear hI mv haf hu ho hcall kk
      go_simp
      exact hK
    | 18, _, ho, hu =>
      obtain rfl := Option.some.inj ho
      have e1 : a1.tmps.getD 252 undef = .pointer (some ⟨q, 2, none⟩) := hI.val 17 (by decide) (getD_tf (by omega) (haf ⟨17, .data⟩ (by simp) rfl))
      have g1 := gI hsz e1 (by decide)
      have hw : w1.cell? ⟨q, 2, none⟩ = some (.slice al2 nl2 cl2) := by
        rw [hI.k0 (by
          cases hc : listed.getD 21 true with
          | false => rfl
          | true => rw [hI.c1 hc 18 rfl] at hu; cases hu)]
        exact k2
      refine op_with ho rfl (hI.put (i := 18) (by decide) (by decide) (x := (.slice al2 nl2 cl2)) rfl) fun K hK => ?_
      clear hI mv haf hu ho hcall kk
      go_simp
      exact hK
    | 19, _, ho, hu =>
      obtain rfl := Option.some.inj ho
      exact op_move _ ho rfl rfl (hI.put (i := 19) (by decide) (by decide) (mv 28 19 _ (by decide) h28 rfl))
    | 20, _, ho, hu =>
      obtain rfl := Option.some.inj ho
      exact op_move _ ho rfl rfl (hI.put (i := 20) (by decide) (by decide) (mv 29 20 _ (by decide) h29 rfl))
    | 21, _, ho, hu =>
      obtain rfl := Option.some.inj ho
      have ed : ∀ j, oD j = true → listed.getD j true = true := fun j hj => by
        simp only [oD, Bool.or_eq_true, Bool.and_eq_true, decide_eq_true_eq, beq_iff_eq] at hj
        refine getD_tf (by omega) (haf ⟨j, .data⟩ ?_ rfl)
        have : j = 1 ∨ j = 2 ∨ j = 3 ∨ j = 4 ∨ j = 5 ∨ j = 6 ∨ j = 7 ∨ j = 8 ∨ j = 9 ∨ j = 12 ∨ j = 15 ∨ j = 18 ∨ j = 19 ∨ j = 20 := by omega
        rcases this with rfl | rfl | rfl | rfl | rfl | rfl | rfl | rfl | rfl | rfl | rfl | rfl | rfl | rfl <;> simp
      have hw := hI.k0 hu
      subst hw
      have g1 := gI (v := (.slice ax13 nx13 cx13)) (k := 236) hsz (hI.val 1 (by decide) (ed 1 rfl)) (by decide)
      have g2 := gI (v := (.slice ax14 nx14 cx14)) (k := 237) hsz (hI.val 2 (by decide) (ed 2 rfl)) (by decide)
      have g3 := gI (v := (.slice ax15 nx15 cx15)) (k := 238) hsz (hI.val 3 (by decide) (ed 3 rfl)) (by decide)
      have g4 := gI (v := (.slice ax17 nx17 cx17)) (k := 239) hsz (hI.val 4 (by decide) (ed 4 rfl)) (by decide)
      have g5 := gI (v := (.slice ax19 nx19 cx19)) (k := 240) hsz (hI.val 5 (by decide) (ed 5 rfl)) (by decide)
      have g6 := gI (v := (.slice ax20 nx20 cx20)) (k := 241) hsz (hI.val 6 (by decide) (ed 6 rfl)) (by decide)
      have g7 := gI (v := (.slice ax22 nx22 cx22)) (k := 242) hsz (hI.val 7 (by decide) (ed 7 rfl)) (by decide)
      have g8 := gI (v := (.slice ax24 nx24 cx24)) (k := 243) hsz (hI.val 8 (by decide) (ed 8 rfl)) (by decide)
      have g9 := gI (v := (.slice ax26 nx26 cx26)) (k := 244) hsz (hI.val 9 (by decide) (ed 9 rfl)) (by decide)
      have g12 := gI (v := (.slice al0 nl0 cl0)) (k := 247) hsz (hI.val 12 (by decide) (ed 12 rfl)) (by decide)
      have g15 := gI (v := (.slice al1 nl1 cl1)) (k := 250) hsz (hI.val 15 (by decide) (ed 15 rfl)) (by decide)
      have g18 := gI (v := (.slice al2 nl2 cl2)) (k := 253) hsz (hI.val 18 (by decide) (ed 18 rfl)) (by decide)
      have g19 := gI (v := (.slice ax28 nx28 cx28)) (k := 254) hsz (hI.val 19 (by decide) (ed 19 rfl)) (by decide)
      have g20 := gI (v := (.slice ax29 nx29 cx29)) (k := 255) hsz (hI.val 20 (by decide) (ed 20 rfl)) (by decide)
      refine op_with ho rfl (hI.build (by decide) ed rfl hu (x := .slice (some ⟨w.heap.size, 0, none⟩) 14 14) rfl) fun K hK => ?_
      clear hI mv haf hu ho hcall kk ed
      go_simp
      exact hK
    | 22, _, ho, hu =>
      obtain rfl := Option.some.inj ho
      have h21 : listed.getD 21 true = true := getD_tf (by omega) (haf ⟨21, .data⟩ (by simp) rfl)
      have h0 : listed.getD 0 true = true := getD_tf (by omega) (haf ⟨0, .data⟩ (by simp) rfl)
      have hw := hI.k1 h21 hu
      subst hw
      have g0 := gI (v := .pointer (some ⟨b, 0, none⟩)) (k := 235) hsz (hI.val 0 (by decide) h0) (by decide)
      have g1 := gI (v := .slice (some ⟨w.heap.size, 0, none⟩) 14 14) (k := 256) hsz (hI.val 21 (by decide) h21) (by decide)
      have hX := PLift.up (And.intro hI (And.intro h21 hcall))
      refine op_at ho rfl ?_
      clear hI mv haf hu ho hcall kk h21 h0
      go_simp
      refine hX.down.2.2.mono ?_
      rintro e w' ⟨rfl, hq⟩
      exact hX.down.1.call rfl hX.down.2.1 hq
  · intro listed a1 w1 hI hall
    exact kk a1 w1 hI.sz hI.old hI.df (hI.k2 (hall 22 (by show 22 < 23; decide)))
  · have := List.length_filter_le (fun i => !(Array.replicate 23 false).getD i true) (List.range 23)
    rw [List.length_range] at this
    exact this
  · have hr : ∀ j, j < 23 → (Array.replicate 23 false).getD j true = false := by decide
    refine ⟨by simp, hz, rfl, fun _ _ => rfl, fun j hj hl => ?_, fun hl => ?_, fun hl => ?_, fun _ => rfl, fun hl => ?_, fun hl => ?_⟩
    · have := hr j (by omega)
      rw [show (Array.replicate 23 false).getD j true = true from hl] at this; cases this
    · exact absurd ((hr 21 (by decide)).symm.trans hl) (by decide)
    · exact absurd ((hr 22 (by decide)).symm.trans hl) (by decide)
    · exact absurd ((hr 21 (by decide)).symm.trans hl) (by decide)
    · exact absurd ((hr 22 (by decide)).symm.trans hl) (by decide)
end Go.Proofs.Ytdafakcccjjpiaa
namespace Go.Proofs.Ytdafakcccjjpiaa
open Go Go.RowKit Go.Proofs Ab
set_option linter.unusedSimpArgs false
set_option linter.unusedVariables false
set_option maxHeartbeats 10000000
set_option maxHeartbeats 4000000
set_option maxRecDepth 2000000
theorem Cl.nil (w : World) : Cl w w [] := ⟨fun p hp => by simp at hp, fun i j vi vj q _ h => by simp at h⟩
theorem Cl.lt {w0 w : World} {L : List (Value × List Nat)} (h : Cl w0 w L) {p : Value × List Nat} {q : Nat} (hp : p ∈ L) (hq : p.1.ownBlock = some q) : w0.heap.size ≤ q ∧ q < w.heap.size := by
  obtain ⟨m, _, ho⟩ := h.own p hp
  exact ho.lt q hq
theorem apt_app {L M : List Value} (h : Apt L) (h2 : Apt M) (hx : ∀ v u q, v ∈ L → u ∈ M → v.ownBlock = some q → u.ownBlock ≠ some q) : Apt (L ++ M) := by
  intro i j vi vj q hij hi hj hq
  rw [List.getElem?_append] at hi hj
  split at hi <;> split at hj
  · exact h i j vi vj q hij hi hj hq
  · exact hx vi vj q (List.mem_of_getElem? hi) (List.mem_of_getElem? hj) hq
  · exact fun e => hx vj vi q (List.mem_of_getElem? hj) (List.mem_of_getElem? hi) e hq
  · exact h2 _ _ vi vj q (by omega) hi hj hq
theorem Cl.step {w0 w1 w : World} {L M : List (Value × List Nat)} (h : Cl w0 w1 L) (hs : w0.heap.size ≤ w1.heap.size) (hb : Below w1.heap.size w1 w) (h2 : Cl w1 w M) : Cl w0 w (L ++ M) := by
  have h1 : Cl w0 w L := h.keep fun p q hp hq => hb.block q (h.lt hp hq).2
  refine ⟨fun p hp => ?_, ?_⟩
  · rcases List.mem_append.1 hp with hp | hp
    · exact h1.own p hp
    · obtain ⟨m, hm, ho⟩ := h2.own p hp
      exact ⟨m, hm, ow_base ho hs⟩
  · rw [List.map_append]
    refine apt_app h1.apt h2.apt fun v u q hv hu hq hq2 => ?_
    obtain ⟨p, hp, rfl⟩ := List.mem_map.1 hv
    obtain ⟨p2, hp2, rfl⟩ := List.mem_map.1 hu
    have := (h.lt hp hq).2
    have := (h2.lt hp2 hq2).1
    omega
theorem Cl.below {w0 w1 w : World} {L : List (Value × List Nat)} (h : Cl w0 w1 L) (hb : Below w1.heap.size w1 w) : Cl w0 w L := h.keep fun p q hp hq => hb.block q (h.lt hp hq).2
theorem Cl.base {w0 w1 w : World} {L : List (Value × List Nat)} (h : Cl w1 w L) (hs : w0.heap.size ≤ w1.heap.size) : Cl w0 w L :=
  ⟨fun p hp => by obtain ⟨m, hm, ho⟩ := h.own p hp; exact ⟨m, hm, ow_base ho hs⟩, h.apt⟩
theorem apt_one (u : Value) : Apt [u] := fun i j vi vj q hij hi hj _ => by
  have h1 := (List.getElem?_eq_some_iff.1 hi).1
  have h2 := (List.getElem?_eq_some_iff.1 hj).1
  simp only [List.length_singleton] at h1 h2
  omega
theorem Cl.one {w w1 : World} {u : Value} {A : List Nat} {n : Nat} (ho : w1.ownsRow w.heap.size 45 1 u n (Wv A)) (hn : n ≤ maxLen) : Cl w w1 [(u, A)] :=
  ⟨fun p hp => by rw [List.mem_singleton.1 hp]; exact ⟨n, hn, ho⟩, apt_one u⟩
theorem below_tr {w w1 w2 : World} (h1 : Below w.heap.size w w1) (h2 : Below w1.heap.size w1 w2) : Below w.heap.size w w2 := by
  have a := h1.size
  have b := h2.size
  exact ⟨h2.os.trans h1.os, h2.tape.trans h1.tape, h2.output.trans h1.output, by omega, fun q hq => (h2.block q (by omega)).trans (h1.block q hq)⟩
theorem below_alloc (w : World) (o : Obj) : Below w.heap.size w (w.alloc o) := by
  have h : Below w.heap.size w w := ⟨rfl, rfl, rfl, Nat.le_refl _, fun _ _ => rfl⟩
  exact h.alloc (Nat.le_refl _) o
theorem rowp_l {w : World} {H : Nat → Prop} {B p n c : Nat} {A Z : List Nat} (ho : w.ownsRow B 45 1 (.slice (some ⟨p, 0, none⟩) (n + 5) c) (n + 5) (Wv (A ++ Z))) (hA : A.length = n) (hn : n ≤ 1000000000000) (hH : H p) : Rep0 w H (.slice (some ⟨p, 0, none⟩) n c) (.l 1 (W A)) := by
  have hc : n + 5 ≤ c := by
    rcases ho.2 with ⟨h, _⟩ | ⟨g, cap, cur, h, h1, h2, h3, _⟩
    · cases h
    · cases h; exact h3
  refine .l _ n c 1 _ (fun j => (Wv (A ++ Z))[j]?.getD undef) p 0 Nat.one_pos (by rw [W_len, hA]; omega) (by unfold maxLen; omega) (by omega) (.inr ⟨rfl, hH⟩) (fun j hj => ?_) (fun j x hx => ?_)
  · rw [W_len] at hj
    rw [Nat.zero_add, ho.cellAt j (by omega)]
    have hl : j < (Wv (A ++ Z)).length := by simp only [Wv, List.length_map, List.length_append]; omega
    rw [List.getElem?_eq_getElem hl]; rfl
  · have hj : j < A.length := by
      have := (List.getElem?_eq_some_iff.1 hx).1
      rwa [W_len] at this
    have h1 : (Wv (A ++ Z))[j]? = some (.int .u64 (A[j] : Int)) := by
      simp only [Wv, List.getElem?_map, List.getElem?_append_left hj, List.getElem?_eq_getElem hj]; rfl
    have h2 : (W A)[j]? = some (.i .u64 (A[j] : Int)) := by
      simp only [W, List.getElem?_map, List.getElem?_eq_getElem hj]; rfl
    rw [h1]
    rw [h2] at hx
    cases hx
    exact .i _ _
theorem rows_l {w : World} {H : Nat → Prop} {B e : Nat} {v : Value} {Fv : List Value} {L : List (List Nat)} (ho : w.ownsRow B e 1 v Fv.length Fv) (hl : Fv.length = L.length) (hm : Fv.length ≤ 1000000) (hr : ∀ (j : Nat) (x : Value) (A : List Nat), Fv[j]? = some x → L[j]? = some A → Rep0 w H x (.l 1 (W A))) (hH : ∀ q, v.ownBlock = some q → H q) : Rep0 w H v (.l 1 (LA L)) := by
  refine row_l Nat.one_pos ho ⟨by rw [LA_len, hl], fun j x y h1 h2 => ?_⟩ (by unfold maxLen; omega) hH
  simp only [LA, List.getElem?_map, Option.map_eq_some_iff] at h2
  obtain ⟨A, h3, rfl⟩ := h2
  exact hr j x A h1 h3
theorem Bn.ip {w : World} {H : Nat → Prop} {b : Nat} {vl vf vu : Value} {Lv Fv Uv : List Value} {L : List (List Nat)} (h : Bn w b vl vf vu Lv Fv Uv) (hH : ∀ q, Bq b vl vf vu q → H q) (lf : Fv.length = L.length) (lu : Uv.length = L.length) (hm : L.length ≤ 1000000)
    (rf : ∀ (j : Nat) (x : Value) (A : List Nat), Fv[j]? = some x → L[j]? = some A → Rep0 w H x (.l 1 (W A))) (ru : ∀ (j : Nat) (x : Value) (A : List Nat), Uv[j]? = some x → L[j]? = some A → Rep0 w H x (.l 1 (W A))) : Rep0 w H (.pointer (some ⟨b, 0, none⟩)) (.ip [.any, .l 1 (LA L), .l 1 (LA L)] 0) := by
  obtain ⟨cap, hbox⟩ := h.box
  have e0 := hbox.cellAt 0 (by decide)
  have e1 := hbox.cellAt 1 (by decide)
  have e2 := hbox.cellAt 2 (by decide)
  have r1 := rows_l h.rf lf (by omega) rf fun q hq => hH q (.inr (.inr (.inl hq)))
  have r2 := rows_l h.ru lu (by omega) ru fun q hq => hH q (.inr (.inr (.inr hq)))
  refine .ip _ 0 (fun j => [vl, vf, vu].getD j undef) b 0 (hH b (.inl rfl)) (fun j hj => ?_) (fun j x hx => ?_)
  · match j, hj with
    | 0, _ => exact e0
    | 1, _ => exact e1
    | 2, _ => exact e2
  · match j, hx with
    | 0, hx => cases hx; exact .any _
    | 1, hx => cases hx; exact r1
    | 2, hx => cases hx; exact r2
end Go.Proofs.Ytdafakcccjjpiaa
namespace Go.Proofs.Ytdafakcccjjpiaa
open Go Go.RowKit Go.Proofs Ab
set_option linter.unusedSimpArgs false
set_option linter.unusedVariables false
set_option maxHeartbeats 10000000
set_option maxHeartbeats 4000000
set_option maxRecDepth 2000000
def up (f : Nat → Value) (t : Nat) (v : Value) : Nat → Value := fun s => if s = t then v else f s
theorem up_ne {f : Nat → Value} {t s : Nat} {v : Value} (h : s ≠ t) : up f t v s = f s := if_neg h
theorem up_eq {f : Nat → Value} {t : Nat} {v : Value} : up f t v t = v := if_pos rfl
theorem up1 {a a' : Act} {f : Nat → Value} {t1 : Nat} {v1 : Value} (hf : ∀ t, t < 39 → a.tmps.getD t undef = f t) (hs : ∀ t, t < 39 → t ≠ t1 → a'.tmps.getD t undef = a.tmps.getD t undef) (h1 : a'.tmps.getD t1 undef = v1) : ∀ t, t < 39 → a'.tmps.getD t undef = up f t1 v1 t := fun t ht => by
  by_cases e : t = t1
  · rw [e, up_eq]; exact h1
  · rw [up_ne e, hs t ht e, hf t ht]
theorem up2 {a a' : Act} {f : Nat → Value} {t1 t2 : Nat} {v1 v2 : Value} (hf : ∀ t, t < 39 → a.tmps.getD t undef = f t) (hs : ∀ t, t < 39 → t ≠ t1 → t ≠ t2 → a'.tmps.getD t undef = a.tmps.getD t undef) (h1 : a'.tmps.getD t1 undef = v1) (h2 : a'.tmps.getD t2 undef = v2) : ∀ t, t < 39 → a'.tmps.getD t undef = up (up f t1 v1) t2 v2 t := fun t ht => by
  by_cases e : t = t2
  · rw [e, up_eq]; exact h2
  · rw [up_ne e]
    by_cases e1 : t = t1
    · rw [e1, up_eq]; exact h1
    · rw [up_ne e1, hs t ht e1 e, hf t ht]
theorem up3 {a a' : Act} {f : Nat → Value} {t1 t2 t3 : Nat} {v1 v2 v3 : Value} (hf : ∀ t, t < 39 → a.tmps.getD t undef = f t) (hs : ∀ t, t < 39 → t ≠ t1 → t ≠ t2 → t ≠ t3 → a'.tmps.getD t undef = a.tmps.getD t undef) (h1 : a'.tmps.getD t1 undef = v1) (h2 : a'.tmps.getD t2 undef = v2) (h3 : a'.tmps.getD t3 undef = v3) : ∀ t, t < 39 → a'.tmps.getD t undef = up (up (up f t1 v1) t2 v2) t3 v3 t := fun t ht => by
  by_cases e : t = t3
  · rw [e, up_eq]; exact h3
  · rw [up_ne e]
    by_cases e2 : t = t2
    · rw [e2, up_eq]; exact h2
    · rw [up_ne e2]
      by_cases e1 : t = t1
      · rw [e1, up_eq]; exact h1
      · rw [up_ne e1, hs t ht e1 e2 e, hf t ht]
theorem and127 (n : Int) : ∃ k : Nat, k ≤ 127 ∧ bits .and .i64 n 127 = (k : Int) := by
  have q : bits .and .i64 n 127 = IntKind.i64.wrap (((BitVec.ofInt 64 n &&& BitVec.ofInt 64 127).toNat : Nat) : Int) := rfl
  have h : (BitVec.ofInt 64 n &&& BitVec.ofInt 64 127).toNat ≤ 127 := by rw [BitVec.toNat_and]; exact Nat.and_le_right
  exact ⟨_, h, by rw [q]; exact wi (by omega)⟩
theorem rp2 {w : World} {H : Nat → Prop} {x y : Value} {u v : V} (h1 : Rep0 w H x u) (h2 : Rep0 w H y v) : RepAll w H [x, y] [u, v] := ⟨rfl, fun j a b e1 e2 => by
  match j, e1, e2 with
  | 0, e1, e2 => cases e1; cases e2; exact h1
  | 1, e1, e2 => cases e1; cases e2; exact h2⟩
theorem rp1 {w : World} {H : Nat → Prop} {x : Value} {u : V} (h1 : Rep0 w H x u) : RepAll w H [x] [u] := ⟨rfl, fun j a b e1 e2 => by
  match j, e1, e2 with
  | 0, e1, e2 => cases e1; cases e2; exact h1⟩
theorem sm_one {A : List Nat} (h : Wd A) : dg B (sm (vs [A]) [A].length) = tz A := by rw [tz_dg B2 h]; simp [sm, vs]
def sumE (a b : List Nat) : List Nat := dg B (nv B a + nv B b)
def difE (a b : List Nat) : List Nat := if nv B a < nv B b then dg B (nv B b - nv B a) else dg B (nv B a - nv B b)
def subE (a b : List Nat) : List Nat := if nv B a < nv B b then [] else dg B (nv B a - nv B b)
def ansL (n : Int) (A1 A2 : List Nat) (us : Nat → Value) (L3 : List (Value × List Nat)) : List (Value × List Nat) :=
  [(us 13, sumE A1 A2), (us 14, sumE A1 A2), (us 15, difE A1 A2), (us 17, subE A1 A2), (us 19, (shrR (nv B A1) n).1), (us 20, lowR (nv B A1) n), (us 22, (shrR (nv B A1) n).1), (us 24, (shlR (nv B A1) (bits .and .i64 n 127)).1), (us 26, tz A1)] ++ (L3 ++ [(us 28, sumE A1 A2), (us 29, tz A1)])
structure Ans (w w' : World) (n : Int) (A1 A2 : List Nat) (f us : Nat → Value) (L3 : List (Value × List Nat)) : Prop where
  old : ∀ t, t < 11 → us t = f t
  was : ∃ m, m ≤ maxLen ∧ w'.ownsRow w.heap.size 45 1 (us 11) m (Wv A1)
  old2 : ∃ m, m ≤ maxLen ∧ w'.ownsRow w.heap.size 45 1 (us 12) m (Wv A2)
  s16 : us 16 = .bool (decide (nv B A1 < nv B A2))
  s18 : us 18 = .int .i64 ((if nv B A1 < nv B A2 then 2 else 0 : Nat) : Int)
  s21 : us 21 = .int .i64 (shrR (nv B A1) n).2
  s23 : us 23 = .int .i64 (shrR (nv B A1) n).2
  s25 : us 25 = .int .i64 0
  l3 : L3.length = 3
  k3 : ∀ p, p ∈ L3 → p.2.length ≤ 1000000000
  row : w'.ownsRow w.heap.size 23 1 (us 27) 3 (L3.map fun p => p.1)
  cl : Cl w w' (ansL n A1 A2 us L3)
theorem na_calls {a : Act} {w : World} {R : Exit → Act → World → Prop} {n : Int} {p1 n1 c1 p2 n2 c2 : Nat} {A1 A2 Z1 Z2 : List Nat} {f : Nat → Value} (hz : a.tmps.size = 264) (hf : ∀ t, t < 39 → a.tmps.getD t undef = f t) (h2 : f 2 = .int .i64 n) (h8 : f 8 = .slice (some ⟨p1, 0, none⟩) n1 c1) (h9 : f 9 = .slice (some ⟨p2, 0, none⟩) n2 c2)
    (r1 : w.ownsRow 0 45 1 (.slice (some ⟨p1, 0, none⟩) (n1 + 5) c1) (n1 + 5) (Wv (A1 ++ Z1))) (r2 : w.ownsRow 0 45 1 (.slice (some ⟨p2, 0, none⟩) (n2 + 5) c2) (n2 + 5) (Wv (A2 ++ Z2))) (l1 : A1.length = n1) (l2 : A2.length = n2) (wd1 : Wd A1) (wd2 : Wd A2) (b1 : n1 ≤ 100000000) (b2 : n2 ≤ 100000000) (hn : n < 9223372036854775808)
    (kk : ∀ (a' : Act) (w' : World) (us : Nat → Value) (L3 : List (Value × List Nat)), a'.tmps.size = 264 → a'.defers = a.defers → (∀ t, t < 39 → a'.tmps.getD t undef = us t) → Below w.heap.size w w' → Ans w w' n A1 A2 f us L3 → (qd 11 (naD Try.f3)).wp Try.prog R a' w') : (naD Try.f3).wp Try.prog R a w := by
  have kkA := PLift.up kk
  clear kk
  obtain ⟨x, hx⟩ : ∃ x, x = Value.slice (some ⟨p1, 0, none⟩) n1 c1 := ⟨_, rfl⟩
  obtain ⟨y, hy⟩ : ∃ y, y = Value.slice (some ⟨p2, 0, none⟩) n2 c2 := ⟨_, rfl⟩
  have lt1 : p1 < w.heap.size := (r1.lt p1 rfl).2
  have lt2 : p2 < w.heap.size := (r2.lt p2 rfl).2
  have rx : ∀ w', Below w.heap.size w w' → Rep0 w' (fun q => q = p1 ∨ q = p2) x (.l 1 (W A1)) := fun w' hb => by
    rw [hx]; exact rowp_l (ow_below r1 fun q hq => by cases hq; exact hb.block _ lt1) l1 (by omega) (.inl rfl)
  have ry : ∀ w', Below w.heap.size w w' → Rep0 w' (fun q => q = p1 ∨ q = p2) y (.l 1 (W A2)) := fun w' hb => by
    rw [hy]; exact rowp_l (ow_below r2 fun q hq => by cases hq; exact hb.block _ lt2) l2 (by omega) (.inr rfl)
  have hH : ∀ w', Below w.heap.size w w' → ∀ q, (q = p1 ∨ q = p2) → q < w'.heap.size := fun w' hb q hq => by
    have := hb.size
    rcases hq with rfl | rfl <;> omega
  have e8 := (hf 8 (by decide)).trans h8
  have e9 := (hf 9 (by decide)).trans h9
  have cells : ∀ {p m c : Nat} {A Z : List Nat}, w.ownsRow 0 45 1 (.slice (some ⟨p, 0, none⟩) (m + 5) c) (m + 5) (Wv (A ++ Z)) → A.length = m → ∀ (j : Nat) (u : Value), (Wv A)[j]? = some u → w.cell? ⟨p, j, none⟩ = some u := fun {p m c A Z} ho hl j u hu => by
    have hj := (List.getElem?_eq_some_iff.1 hu).1
    simp only [Wv, List.length_map] at hj
    rw [ho.cellAt j (by omega), ← hu]
    simp only [Wv, List.getElem?_map, List.getElem?_append_left hj]
  refine wp_seq ?_
  refine na_was (A1 := A1) (A2 := A2) hz e8 e9 (by simp [Wv, l1]) (by simp [Wv, l2]) (by omega) (by omega) lt1 lt2 (cells r1 l1) (cells r2 l2) fun a1 w1 v1 v2 z1 s1 k11 k12 d1 B1 o1 o2 => ?_
  have f1 := up2 hf s1 k11 k12
  obtain ⟨k, hk, hke⟩ := and127 n
  have hup : (shlR (nv B A1) (bits .and .i64 n 127)).2 = 0 := by
    rw [hke]; unfold shlR
    rw [if_neg (by omega)]
  have C1 : Cl w w1 [] := ⟨fun p hp => by simp at hp, fun i j vi vj q _ h => by simp at h⟩
  have Bb1 : Below w1.heap.size w1 w1 := ⟨rfl, rfl, rfl, Nat.le_refl _, fun _ _ => rfl⟩
  have rd : ∀ {a' : Act} {g : Nat → Value}, (∀ t, t < 39 → a'.tmps.getD t undef = g t) → g 2 = f 2 → g 8 = f 8 → g 9 = f 9 → a'.tmps.getD 2 undef = .int .i64 n ∧ a'.tmps.getD 8 undef = x ∧ a'.tmps.getD 9 undef = y := fun {a' g} hg e2 e8 e9 =>
    ⟨(hg 2 (by decide)).trans (e2.trans h2), (hg 8 (by decide)).trans (e8.trans (h8.trans hx.symm)), (hg 9 (by decide)).trans (e9.trans (h9.trans hy.symm))⟩
  refine wp_seq ?_
  obtain ⟨i2, i8, i9⟩ := rd f1 rfl rfl rfl
  refine na_add z1 i8 i9 (A := sumE A1 A2) (o_raw (vs := [x, y]) (add_spec A1 A2 wd1 wd2 (by omega) (by omega)) (hH w1 B1) (rp2 (rx w1 B1) (ry w1 B1))) (fun w2 hb => o_raw (vs := [x, y]) (add_spec A1 A2 wd1 wd2 (by omega) (by omega)) (hH w2 (below_tr B1 hb)) (rp2 (rx w2 (below_tr B1 hb)) (ry w2 (below_tr B1 hb)))) fun a2 w2 w3 u13 u14 m13 m14 z2 s2 k13 k14 d2 B2' o13 b13 B3' o14 b14 => ?_
  have f2 := up2 f1 s2 k13 k14
  have B2 := below_tr B1 B2'
  have B3 := below_tr B2 B3'
  have Bb3 := below_tr B2' B3'
  have C3 := (C1.step B1.size B2' (Cl.one o13 b13)).step B2.size B3' (Cl.one o14 b14)
  refine wp_seq ?_
  obtain ⟨i2, i8, i9⟩ := rd f2 rfl rfl rfl
  refine na_diff z2 i8 i9 (A := difE A1 A2) (z := .bool (decide (nv B A1 < nv B A2))) (to_raw (vs := [x, y]) (diffO A1 A2 wd1 wd2 (by omega) (by omega)) (fun w' H' z hz => (Rep.up (ov := fun _ => none) hz).inv_b) (hH w3 B3) (rp2 (rx w3 B3) (ry w3 B3))) fun a4 w4 u15 m15 z4 s4 k15 k16 d4 B4' o15 b15 => ?_
  have f4 := up2 f2 s4 k15 k16
  have B4 := below_tr B3 B4'
  have Bb4 := below_tr Bb3 B4'
  have C4 := C3.step B3.size B4' (Cl.one o15 b15)
  refine wp_seq ?_
  obtain ⟨i2, i8, i9⟩ := rd f4 rfl rfl rfl
  refine na_sub z4 i8 i9 (A := subE A1 A2) (z := .int .i64 ((if nv B A1 < nv B A2 then 2 else 0 : Nat) : Int)) (to_raw (vs := [x, y]) (subO A1 A2 wd1 wd2 (by omega) (by omega)) (fun w' H' z hz => (Rep.up (ov := fun _ => none) hz).inv_i) (hH w4 B4) (rp2 (rx w4 B4) (ry w4 B4))) fun a5 w5 u17 m17 z5 s5 k17 k18 d5 B5' o17 b17 => ?_
  have f5 := up2 f4 s5 k17 k18
  have B5 := below_tr B4 B5'
  have Bb5 := below_tr Bb4 B5'
  have C5 := C4.step B4.size B5' (Cl.one o17 b17)
  refine wp_seq ?_
  obtain ⟨i2, i8, i9⟩ := rd f5 rfl rfl rfl
  refine na_cut z5 i8 i2 (cut_raw (hH w5 B5) (rx w5 B5) wd1 (by omega) hn) fun a6 w6 u19 u20 m19 m20 z6 s6 k19 k20 k21 d6 B6' o19 o20 x19 => ?_
  have f6 := up3 f5 s6 k19 k20 k21
  have B6 := below_tr B5 B6'
  have Bb6 := below_tr Bb5 B6'
  have mxl : ∀ {v : Value} {m : Nat} {xs : List Value} {B : Nat} {w' : World}, w'.ownsRow B 45 1 v m xs → m ≤ maxLen := fun {v m xs B w'} ho => by
    rcases ho.2 with ⟨_, rfl⟩ | ⟨g, cap, cur, _, _, _, h3, h4, _⟩
    · exact Nat.zero_le _
    · exact Nat.le_trans h3 h4
  have C6 := C5.step B5.size B6' (M := [(u19, (shrR (nv B A1) n).1), (u20, lowR (nv B A1) n)]) ⟨fun p hp => by
    simp only [List.mem_cons, List.not_mem_nil, or_false] at hp
    rcases hp with rfl | rfl
    · exact ⟨m19, mxl o19, o19⟩
    · exact ⟨m20, mxl o20, o20⟩, apt_app (L := [u19]) (M := [u20]) (apt_one _) (apt_one _) fun v u q hv hu => by
      rw [List.mem_singleton.1 hv, List.mem_singleton.1 hu]; exact x19 q⟩
  refine wp_seq ?_
  obtain ⟨i2, i8, i9⟩ := rd f6 rfl rfl rfl
  refine na_shr z6 i8 i2 (A := (shrR (nv B A1) n).1) (z := .int .i64 (shrR (nv B A1) n).2) (to_raw (vs := [x, .int .i64 n]) (shrO A1 n wd1 (by omega) hn) (fun w' H' z hz => (Rep.up (ov := fun _ => none) hz).inv_i) (hH w6 B6) (rp2 (rx w6 B6) (.i _ _))) fun a7 w7 u22 m22 z7 s7 k22 k23 d7 B7' o22 b22 => ?_
  have f7 := up2 f6 s7 k22 k23
  have B7 := below_tr B6 B7'
  have Bb7 := below_tr Bb6 B7'
  have C7 := C6.step B6.size B7' (Cl.one o22 b22)
  refine wp_seq ?_
  obtain ⟨i2, i8, i9⟩ := rd f7 rfl rfl rfl
  refine na_shl z7 i8 i2 (A := (shlR (nv B A1) (bits .and .i64 n 127)).1) (z := .int .i64 0) (to_raw (vs := [x, .int .i64 (bits .and .i64 n 127)]) (shlO A1 (bits .and .i64 n 127) wd1 (by omega)) (fun w' H' z hz => by rw [hup] at hz; exact (Rep.up (ov := fun _ => none) hz).inv_i) (hH w7 B7) (rp2 (rx w7 B7) (.i _ _))) fun a8 w8 u24 m24 z8 s8 k24 k25 d8 B8' o24 b24 => ?_
  have f8 := up2 f7 s8 k24 k25
  have B8 := below_tr B7 B8'
  have Bb8 := below_tr Bb7 B8'
  have C8 := C7.step B7.size B8' (Cl.one o24 b24)
  refine wp_seq ?_
  obtain ⟨i2, i8, i9⟩ := rd f8 rfl rfl rfl
  refine na_norm z8 i8 (A := tz A1) (o_raw (vs := [x]) (norm_spec A1 (by omega)) (hH w8 B8) (rp1 (rx w8 B8))) fun a9 w9 u26 m26 z9 s9 k26 d9 B9' o26 b26 => ?_
  have f9 := up1 f8 s9 k26
  have B9 := below_tr B8 B9'
  have Bb9 := below_tr Bb8 B9'
  have C9 := C8.step B8.size B9' (Cl.one o26 b26)
  refine wp_seq ?_
  have wd2' : Wd A2 := wd2
  have i8 := ((rd f9 rfl rfl rfl).2.1).trans hx
  have i9 := ((rd f9 rfl rfl rfl).2.2).trans hy
  have so : Calls Try.prog 13 #[.slice (some ⟨w9.heap.size, 0, none⟩) 3 3] (w9.alloc (.cells #[x, y, x] 23)) (SortedR (w9.alloc (.cells #[x, y, x] 23)) 3) := by
    have Bw := below_tr B9 (below_alloc w9 (.cells #[x, y, x] 23))
    have own := World.ownsRow_lit (base := 0) (e := 23) (size := 1) w9 #[x, y, x] 3 (Nat.zero_le _) (by unfold maxLen; omega) rfl
    refine sorted_raw (Xs := [x, y, x]) (As := [A1, A2, A1]) (Ha := fun q => q = p1 ∨ q = p2) (by decide) (by decide) rfl rfl (by rw [World.size_alloc]; omega) (fun j z hj => ?_) (fun j z b hj hb => ?_) (hH _ Bw) (fun b hb => ?_)
    · have hl := (List.getElem?_eq_some_iff.1 hj).1
      exact (own.cellAt j (by simpa using hl)).trans hj
    · match j, hj, hb with
      | 0, hj, hb => cases hj; cases hb; exact rx _ Bw
      | 1, hj, hb => cases hj; cases hb; exact ry _ Bw
      | 2, hj, hb => cases hj; cases hb; exact rx _ Bw
    · simp only [List.mem_cons, List.not_mem_nil, or_false] at hb
      rcases hb with rfl | rfl | rfl
      · exact ⟨wd1, by omega⟩
      · exact ⟨wd2, by omega⟩
      · exact ⟨wd1, by omega⟩
  rw [hx, hy] at so
  refine na_sorted z9 i8 i9 so fun a10 w10 u27 z10 s10 k27 d10 hS => ?_
  obtain ⟨v27, L3, e27, B10', hL3, hk3, hC3, row27⟩ := hS
  cases e27
  have f10 := up1 f9 s10 k27
  have sA := (below_alloc w9 (.cells #[.slice (some ⟨p1, 0, none⟩) n1 c1, .slice (some ⟨p2, 0, none⟩) n2 c2, .slice (some ⟨p1, 0, none⟩) n1 c1] 23))
  have B10n := below_tr sA B10'
  have B10 := below_tr B9 B10n
  have Bb10 := below_tr Bb9 B10n
  have C10 := C9.step B9.size B10n (hC3.base sA.size)
  have row27b := ow_base row27 (Nat.le_trans B9.size sA.size)
  clear so sA row27 hC3 B10'
  have sumc : ∀ w' : World, Below w.heap.size w w' → Calls Try.prog 14 #[.slice (some ⟨w'.heap.size, 0, none⟩) 2 2] (w'.alloc (.cells #[x, y] 23)) (RowR (w'.alloc (.cells #[x, y] 23)) (sumE A1 A2)) := fun w' hb => by
    have Bw := below_tr hb (below_alloc w' (.cells #[x, y] 23))
    have own := World.ownsRow_lit (base := 0) (e := 23) (size := 1) w' #[x, y] 2 (Nat.zero_le _) (by unfold maxLen; omega) rfl
    have hs := nsum_spec [A1, A2] 100000000 ⟨by show 2 ≤ _; omega, fun a ha => by
      simp only [List.mem_cons, List.not_mem_nil, or_false] at ha
      rcases ha with rfl | rfl
      · exact ⟨wd1, by omega⟩
      · exact ⟨wd2, by omega⟩⟩ (Nat.le_refl _)
    rw [show dg B (sm (vs [A1, A2]) [A1, A2].length) = sumE A1 A2 from by simp [sm, vs, sumE]] at hs
    refine o_raw (vs := [.slice (some ⟨w'.heap.size, 0, none⟩) 2 2]) (H := fun q => (q = p1 ∨ q = p2) ∨ q = w'.heap.size) hs (fun q hq => ?_) (rp1 ?_)
    · rcases hq with hq | hq
      · exact hH _ Bw q hq
      · rw [World.size_alloc]; omega
    · refine row_l Nat.one_pos own (rp2 ((rx _ Bw).mono (fun _ h => .inl h) fun _ _ => rfl) ((ry _ Bw).mono (fun _ h => .inl h) fun _ _ => rfl)) (by unfold maxLen; omega) fun q hq => .inr (by cases hq; rfl)
  refine wp_seq ?_
  have i8 := ((rd f10 rfl rfl rfl).2.1).trans hx
  have i9 := ((rd f10 rfl rfl rfl).2.2).trans hy
  have su := sumc w10 B10
  rw [hx, hy] at su
  refine na_sum z10 i8 i9 su fun a11 w11 u28 z11 s11 k28 d11 hS => ?_
  obtain ⟨v28, m28, e28, B11', o28, b28⟩ := hS
  cases e28
  have f11 := up1 f10 s11 k28
  have sA := (below_alloc w10 (.cells #[.slice (some ⟨p1, 0, none⟩) n1 c1, .slice (some ⟨p2, 0, none⟩) n2 c2] 23))
  have B11n := below_tr sA B11'
  have B11 := below_tr B10 B11n
  have Bb11 := below_tr Bb10 B11n
  have C11 := C10.step B10.size B11n (Cl.one (ow_base o28 sA.size) b28)
  have row27c := ow_below row27b fun q hq => B11n.block q (row27b.lt q hq).2
  clear su sumc sA B11'
  have onec : ∀ w' : World, Below w.heap.size w w' → Calls Try.prog 14 #[.slice (some ⟨w'.heap.size, 0, none⟩) 1 1] (w'.alloc (.cells #[x] 23)) (RowR (w'.alloc (.cells #[x] 23)) (tz A1)) := fun w' hb => by
    have Bw := below_tr hb (below_alloc w' (.cells #[x] 23))
    have own := World.ownsRow_lit (base := 0) (e := 23) (size := 1) w' #[x] 1 (Nat.zero_le _) (by unfold maxLen; omega) rfl
    have hs := nsum_spec [A1] 100000000 ⟨by show 1 ≤ _; omega, fun a ha => by
      rw [List.mem_singleton.1 ha]
      exact ⟨wd1, by omega⟩⟩ (Nat.le_refl _)
    rw [sm_one wd1] at hs
    refine o_raw (vs := [.slice (some ⟨w'.heap.size, 0, none⟩) 1 1]) (H := fun q => (q = p1 ∨ q = p2) ∨ q = w'.heap.size) hs (fun q hq => ?_) (rp1 ?_)
    · rcases hq with hq | hq
      · exact hH _ Bw q hq
      · rw [World.size_alloc]; omega
    · refine row_l Nat.one_pos own (rp1 ((rx _ Bw).mono (fun _ h => .inl h) fun _ _ => rfl)) (by unfold maxLen; omega) fun q hq => .inr (by cases hq; rfl)
  refine wp_seq ?_
  have i8 := ((rd f11 rfl rfl rfl).2.1).trans hx
  have su := onec w11 B11
  rw [hx] at su
  refine na_one z11 i8 su fun a12 w12 u29 z12 s12 k29 d12 hS => ?_
  obtain ⟨v29, m29, e29, B12', o29, b29⟩ := hS
  cases e29
  have f12 := up1 f11 s12 k29
  have sA := (below_alloc w11 (.cells #[.slice (some ⟨p1, 0, none⟩) n1 c1] 23))
  have B12n := below_tr sA B12'
  have B12 := below_tr B11 B12n
  have Bb12 := below_tr Bb11 B12n
  have C12 := C11.step B11.size B12n (Cl.one (ow_base o29 sA.size) b29)
  have row27d := ow_below row27c fun q hq => B12n.block q (row27c.lt q hq).2
  clear su onec sA B12'
  have own1 := ow_below o1 fun q hq => Bb12.block q (o1.lt q hq).2
  have own2 := ow_below o2 fun q hq => Bb12.block q (o2.lt q hq).2
  have dd : a12.defers = a.defers := d12.trans (d11.trans (d10.trans (d9.trans (d8.trans (d7.trans (d6.trans (d5.trans (d4.trans (d2.trans d1)))))))))
  refine kkA.down a12 w12 _ L3 z12 dd f12 B12 ⟨fun t ht => ?_, ⟨n1, by unfold maxLen; omega, own1⟩, ⟨n2, by unfold maxLen; omega, own2⟩, rfl, rfl, rfl, rfl, rfl, hL3, hk3, row27d, ?_⟩
  · have q : ∀ k, 11 ≤ k → t ≠ k := fun k hk => by omega
    simp only [up_ne (q 11 (by decide)), up_ne (q 12 (by decide)), up_ne (q 13 (by decide)), up_ne (q 14 (by decide)), up_ne (q 15 (by decide)), up_ne (q 16 (by decide)), up_ne (q 17 (by decide)), up_ne (q 18 (by decide)), up_ne (q 19 (by decide)), up_ne (q 20 (by decide)), up_ne (q 21 (by decide)), up_ne (q 22 (by decide)), up_ne (q 23 (by decide)), up_ne (q 24 (by decide)), up_ne (q 25 (by decide)), up_ne (q 26 (by decide)), up_ne (q 27 (by decide)), up_ne (q 28 (by decide)), up_ne (q 29 (by decide))]
  · have e : ((((((((([] ++ [(u13, sumE A1 A2)]) ++ [(u14, sumE A1 A2)]) ++ [(u15, difE A1 A2)]) ++ [(u17, subE A1 A2)]) ++ [(u19, (shrR (nv B A1) n).1), (u20, lowR (nv B A1) n)]) ++ [(u22, (shrR (nv B A1) n).1)]) ++ [(u24, (shlR (nv B A1) (bits .and .i64 n 127)).1)]) ++ [(u26, tz A1)]) ++ L3 ++ [(u28, sumE A1 A2)]) ++ [(u29, tz A1)] = [(u13, sumE A1 A2), (u14, sumE A1 A2), (u15, difE A1 A2), (u17, subE A1 A2), (u19, (shrR (nv B A1) n).1), (u20, lowR (nv B A1) n), (u22, (shrR (nv B A1) n).1), (u24, (shlR (nv B A1) (bits .and .i64 n 127)).1), (u26, tz A1)] ++ (L3 ++ [(u28, sumE A1 A2), (u29, tz A1)]) := by simp
    rw [e] at C12
    exact C12
end Go.Proofs.Ytdafakcccjjpiaa
