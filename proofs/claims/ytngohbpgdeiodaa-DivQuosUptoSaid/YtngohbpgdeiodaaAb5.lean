/-
  The abstract layer: what becomes of the objects: freezing, new ones, stores, objects that go.
-/
import Derived.Test.YtngohbpgdeiodaaAb4
namespace Go.Proofs.Ytngohbpgdeiodaa.Ab
set_option linter.unusedSimpArgs false
set_option linter.unusedVariables false
open Go Go.RowKit

section
variable {w0 w w' : World} {H0 : Nat → Prop} {H : Nat → Prop} {ov : Nat → Option Value} {ob : Nat → Option Ob}

/-- Entries that only freeze. -/
def OnlyFrz (ob : Nat → Option Ob) (up : List (Nat × Option Ob)) : Prop := ∀ k x, (k, x) ∈ up → ∃ o, ob k = some o ∧ x = some { o with mu := false }

theorem OnlyFrz.nil : OnlyFrz ob [] := fun _ _ h => by cases h
theorem OnlyFrz.append {u1 u2 : List (Nat × Option Ob)} (h1 : OnlyFrz ob u1) (h2 : OnlyFrz ob u2) : OnlyFrz ob (u1 ++ u2) := fun k x h => (List.mem_append.1 h).elim (h1 k x) (h2 k x)
theorem onlyFrz_frz (v : V) : OnlyFrz ob (frz ob v) := by
  intro k x h
  cases v <;> simp only [frz] at h <;> (try cases h)
  all_goals
    split at h
    · rename_i o ho
      simp only [List.mem_singleton, Prod.mk.injEq] at h
      obtain ⟨rfl, rfl⟩ := h
      exact ⟨o, ho, rfl⟩
    · cases h
theorem onlyFrz_flat {α : Type} (l : List α) (f : α → V) : OnlyFrz ob (l.flatMap fun p => frz ob (f p)) := by
  intro k x h
  obtain ⟨p, _, hp⟩ := List.mem_flatMap.1 h
  exact onlyFrz_frz _ k x hp

theorem upd_cases (up : List (Nat × Option Ob)) (i : Nat) : (upd ob up i = ob i ∧ ∀ x, (i, x) ∉ up) ∨ (i, upd ob up i) ∈ up := by
  induction up with
  | nil => exact .inl ⟨rfl, fun _ h => by cases h⟩
  | cons p r ih =>
    obtain ⟨k, v⟩ := p
    simp only [upd]
    split
    · rename_i hk; subst hk; exact .inr (List.mem_cons_self)
    · rename_i hk
      rcases ih with ⟨h1, h2⟩ | h
      · refine .inl ⟨h1, fun x h => ?_⟩
        rcases List.mem_cons.1 h with e | h
        · cases e; exact hk rfl
        · exact h2 x h
      · exact .inr (List.mem_cons_of_mem _ h)

theorem ObRep.lt {B : Nat} {v : Value} {o : Ob} (h : ObRep w H B v o) {b : Nat} (hb : blk v = some b) : B ≤ b ∧ b < w.heap.size := by
  rcases h.bd with ⟨_, b', cur, rfl, hB, hh, _⟩ | ⟨_, _, n, xs, hown, _⟩
  · cases hb; exact ⟨hB, (Array.getElem?_eq_some_iff.1 hh).1⟩
  · rcases hown.2 with ⟨rfl, _⟩ | ⟨g, cap, cur, rfl, hB, hh, _⟩
    · cases hb
    · cases hb; exact ⟨hB, (Array.getElem?_eq_some_iff.1 hh).1⟩

/-- Freezing. -/
theorem Mem.freeze (hm : Mem w0 H0 w H ov ob) {up : List (Nat × Option Ob)} (hu : OnlyFrz ob up) :
    ∃ H' : Nat → Prop, Ext w H ov w H' ov ∧ Mem w0 H0 w H' ov (upd ob up) ∧ (∀ k x u b, (k, x) ∈ up → ov k = some u → blk u = some b → H' b) ∧
      (∀ b, H' b → H b ∨ ∃ k x u, (k, x) ∈ up ∧ ov k = some u ∧ blk u = some b) := by
  have alive : ∀ i o, upd ob up i = some o → ∃ o', ob i = some o' ∧ ((o = o' ∧ ∀ x, (i, x) ∉ up) ∨ (o = { o' with mu := false } ∧ ∃ x, (i, x) ∈ up)) := fun i o h => by
    rcases upd_cases (ob := ob) up i with ⟨h1, h2⟩ | h1
    · exact ⟨o, h1 ▸ h, .inl ⟨rfl, h2⟩⟩
    · obtain ⟨o', ho', e⟩ := hu _ _ h1
      rw [h] at e
      exact ⟨o', ho', .inr ⟨Option.some.inj e, _, h1⟩⟩
  refine ⟨fun b => H b ∨ ∃ k x u, (k, x) ∈ up ∧ ov k = some u ∧ blk u = some b, ⟨fun b h => .inl h, fun _ _ => rfl, fun _ _ h => h⟩, ⟨hm.bel, ?_, ?_, ?_, ?_⟩, fun k x u b h1 h2 h3 => .inr ⟨k, x, u, h1, h2, h3⟩, fun b h => h⟩
  · rintro b (h | ⟨k, x, u, h1, h2, h3⟩)
    · exact hm.Hlt b h
    · obtain ⟨o, ho, _⟩ := hu _ _ h1
      obtain ⟨u', hu', hr⟩ := hm.obj k o ho
      rw [h2] at hu'; cases hu'
      exact (hr.lt h3).2
  · rintro b (h | ⟨k, x, u, h1, h2, h3⟩) hb
    · exact hm.low b h hb
    · obtain ⟨o, ho, _⟩ := hu _ _ h1
      obtain ⟨u', hu', hr⟩ := hm.obj k o ho
      rw [h2] at hu'; cases hu'
      have := (hr.lt h3).1; omega
  · intro i o hi
    obtain ⟨o', ho', hc⟩ := alive i o hi
    obtain ⟨u, hu', hr⟩ := hm.obj i o' ho'
    refine ⟨u, hu', ?_⟩
    have mono : ∀ {xs : List Value} {cs : List V}, RepAll w H xs cs → RepAll w (fun b => H b ∨ ∃ k x u, (k, x) ∈ up ∧ ov k = some u ∧ blk u = some b) xs cs := fun h => h.mono (fun b h => .inl h) (fun _ _ => rfl)
    rcases hc with ⟨rfl, hno⟩ | ⟨rfl, x, hx⟩
    · refine ⟨hr.cl, fun b hb => ⟨fun h => ?_, fun h => .inl ((hr.fz b hb).2 h)⟩, ?_⟩
      · rcases h with h | ⟨k, x, u', h1, h2, h3⟩
        · exact (hr.fz b hb).1 h
        · obtain ⟨ok, hok, _⟩ := hu _ _ h1
          exact absurd h3 (hm.sep i k _ _ _ _ b (fun e => hno x (e ▸ h1)) ho' hok hu' h2 hb)
      · rcases hr.bd with ⟨hv, b, cur, hu0, hB, hh, hra⟩ | ⟨hv, hsz, n, xs, hown, hra, hmm⟩
        · exact .inl ⟨hv, b, cur, hu0, hB, hh, mono hra⟩
        · exact .inr ⟨hv, hsz, n, xs, hown, mono hra, hmm⟩
    · refine ⟨hr.cl, fun b hb => ⟨fun _ => rfl, fun _ => .inr ⟨i, x, u, hx, hu', hb⟩⟩, ?_⟩
      rcases hr.bd with ⟨hv, b, cur, hu0, hB, hh, hra⟩ | ⟨hv, hsz, n, xs, hown, hra, hmm⟩
      · exact .inl ⟨hv, b, cur, hu0, hB, hh, mono hra⟩
      · exact .inr ⟨hv, hsz, n, xs, hown, mono hra, hmm⟩
  · intro i j oi oj vi vj b hij hi hj
    obtain ⟨oi', hi', _⟩ := alive i oi hi
    obtain ⟨oj', hj', _⟩ := alive j oj hj
    exact hm.sep i j oi' oj' vi vj b hij hi' hj'

/-- A value handed over reads as a settled one, where its objects are immutable. -/
theorem rd_rep (hm : Mem w0 H0 w H ov ob) {v : Value} {x : V} {sz : Nat} (hsz : 0 < sz) (hr : Rep w H ov v x) (hok : okR ob x) (hc : (rd ob sz x).okArg = true ∨ (rd ob sz x).cell = true) {H' : Nat → Prop} (hH : ∀ b, H b → H' b)
    (hfr : ∀ k y u b, (k, y) ∈ frz ob x → ov k = some u → blk u = some b → H' b) : Rep0 w H' v (rd ob sz x) := by
  have row : ∀ (j off n : Nat) (o : Ob) (u : Value) (ba : Option Addr) (cap : Nat), ob j = some o → o.isv = false → ov j = some u → (∀ b, blk u = some b → H' b) → v = .slice ba n cap → n ≤ maxLen → n ≤ cap → off + n * o.sz ≤ o.cs.length →
      (n = 0 ∨ ∃ b, blk u = some b ∧ ba = some ⟨b, off, none⟩) → Rep0 w H' v (.l o.sz ((o.cs.drop off).take (n * o.sz))) := by
    intro j off n o u ba cap ho hisv hu hfb hv hml hcp hle ha
    obtain ⟨u', hu', hor⟩ := hm.obj j o ho
    rw [hu] at hu'; cases hu'
    have hosz : 0 < o.sz := by
      rcases hor.bd with ⟨h, _⟩ | ⟨_, h, _⟩
      · rw [hisv] at h; cases h
      · exact h
    subst hv
    have hlen : ((o.cs.drop off).take (n * o.sz)).length = n * o.sz := by simp; omega
    rcases ha with rfl | ⟨b, hb, rfl⟩
    · simp only [Nat.zero_mul, List.take_zero]
      exact .l ba 0 cap o.sz [] (fun _ => undef) 0 0 hosz (by simp) (Nat.zero_le _) hcp (.inl rfl) (fun j hj => by simp at hj) (fun j x hx => by simp at hx)
    · obtain ⟨us, h1, h2, h3⟩ := hm.row ho hle hu hb
      refine .l _ n cap o.sz _ (fun j => us.getD j undef) b off hosz hlen hml hcp (.inr ⟨rfl, hfb b hb⟩) (fun j hj => ?_) (fun j x hx => ?_)
      · rw [hlen] at hj
        have hj' : j < us.length := by omega
        rw [h2 j us[j] (List.getElem?_eq_getElem hj')]
        simp [List.getD, List.getElem?_eq_getElem hj']
      · have hj : j < us.length := by
          have := (List.getElem?_eq_some_iff.1 hx).1
          rw [hlen] at this; omega
        have := h3.2 j us[j] x (List.getElem?_eq_getElem hj) hx
        simp only [List.getD, List.getElem?_eq_getElem hj, Option.getD_some]
        exact this.mono hH (fun _ _ => rfl)
  cases x with
  | ow s j n =>
    obtain ⟨ba, cap, rfl, ho, hml, hcp, ha⟩ := hr.inv_ow
    simp only [rd] at hc ⊢
    cases hoj : ob j with
    | none => rw [hoj] at hc; simp [V.okArg, V.cell] at hc
    | some o =>
      rw [hoj] at hc
      simp only [] at hc ⊢
      cases hv : o.isv with
      | true => rw [hv] at hc; simp [V.okArg, V.cell] at hc
      | false =>
        simp only [Bool.false_eq_true, if_false]
        obtain ⟨u', hu', hor⟩ := hm.obj j o hoj
        rw [ho] at hu'; cases hu'
        have hn : o.cs.length = n * o.sz := by
          rcases hor.bd with ⟨h, _⟩ | ⟨_, _, m, xs, hown, hra, _⟩
          · rw [hv] at h; cases h
          · have e : m = n := by
              rcases hown.2 with ⟨h, h'⟩ | ⟨g, cap', cur, h, _⟩
              · cases h; exact h'
              · cases h; rfl
            rw [← hra.1, hown.1, e]
        have := row j 0 n o _ ba cap hoj hv ho (fun b hb => hfr j (some { o with mu := false }) _ b (by simp [frz, hoj]) ho hb) rfl hml hcp (by omega) (ha.imp id fun ⟨b, e⟩ => ⟨b, by rw [e]; rfl, e⟩)
        rw [List.drop_zero, ← hn, List.take_length] at this
        exact this
  | sl s j off n =>
    obtain ⟨ba, cap, u, rfl, hml, hcp, ho, ha⟩ := hr.inv_sl
    simp only [rd] at hc ⊢
    simp only [okR] at hok
    cases hoj : ob j with
    | none => rw [hoj] at hok; exact hok.elim
    | some o =>
      rw [hoj] at hc hok
      simp only [] at hc ⊢
      cases hv : o.isv with
      | true => rw [hv] at hc; simp [V.okArg, V.cell] at hc
      | false =>
        simp only [Bool.false_eq_true, if_false]
        exact row j off n o u ba cap hoj hv ho (fun b hb => hfr j (some { o with mu := false }) _ b (by simp [frz, hoj]) ho hb) rfl hml hcp hok ha
  | nl =>
    rw [hr.inv_nl]
    exact .l none 0 0 sz [] (fun _ => undef) 0 0 hsz (by simp) (Nat.zero_le _) (Nat.le_refl _) (.inl rfl) (fun j hj => by simp at hj) (fun j x hx => by simp at hx)
  | pt i k => simp [rd, V.okArg, V.cell] at hc
  | _ =>
    cases hr with
    | base h => exact h.mono hH (fun _ _ => rfl)

/-- The world goes on, and what was there (but one block, that of an object j) stays; the object j is looked at anew, or gone. -/
theorem Mem.step (hm : Mem w0 H0 w H ov ob) {row : Option Nat} (hbel : Below w0.heap.size w0 w') (hsz : w.heap.size ≤ w'.heap.size) (hg : ∀ k, k < w.heap.size → some k ≠ row → w'.heap[k]? = w.heap[k]?)
    (hH : ∀ b, H b → some b ≠ row) {ob' : Nat → Option Ob} {ov' : Nat → Option Value} (hov : ∀ i v, ov i = some v → ov' i = some v)
    (hob : ∀ i o, ob' i = some o → (ob i = some o ∧ ∀ u b, ov i = some u → blk u = some b → some b ≠ row) ∨
      (∃ v, ov' i = some v ∧ ObRep w' H w0.heap.size v o ∧ ∀ j oj vj b, j ≠ i → ob' j = some oj → ov' j = some vj → blk v = some b → blk vj ≠ some b)) :
    Ext w H ov w' H ov' ∧ Mem w0 H0 w' H ov' ob' := by
  have hw : ∀ b, H b → w'.heap[b]? = w.heap[b]? := fun b hb => hg b (hm.Hlt b hb) (hH b hb)
  refine ⟨⟨fun _ h => h, hw, hov⟩, ⟨hbel, fun b hb => Nat.lt_of_lt_of_le (hm.Hlt b hb) hsz, hm.low, fun i o hi => ?_, ?_⟩⟩
  · rcases hob i o hi with ⟨h1, h2⟩ | ⟨v, h1, h2, _⟩
    · obtain ⟨u, hu, hr⟩ := hm.obj i o h1
      exact ⟨u, hov i u hu, hr.mono (fun _ h => h) hw (fun b hb => hg b (hr.lt hb).2 (h2 u b hu hb)) (fun b _ h => h)⟩
    · exact ⟨v, h1, h2⟩
  · intro i j oi oj vi vj b hij hi hj hvi hvj hb
    rcases hob i oi hi with ⟨h1, h2⟩ | ⟨v, h1, h2, h3⟩
    · rcases hob j oj hj with ⟨k1, k2⟩ | ⟨v', k1, k2, k3⟩
      · obtain ⟨ui, hui, _⟩ := hm.obj i oi h1
        obtain ⟨uj, huj, _⟩ := hm.obj j oj k1
        have e1 := hov i ui hui
        have e2 := hov j uj huj
        rw [hvi] at e1; rw [hvj] at e2; cases e1; cases e2
        exact hm.sep i j oi oj _ _ b hij h1 k1 hui huj hb
      · rw [hvj] at k1; cases k1
        exact fun hb' => k3 i oi vi b hij hi hvi hb' hb
    · rw [hvi] at h1; cases h1
      exact h3 j oj vj b (fun e => hij e.symm) hj hvj hb

/-- The value of a new number. -/
def setOv (ov : Nat → Option Value) (id : Nat) (v : Value) : Nat → Option Value := fun i => if i = id then some v else ov i

theorem setOv_same (id : Nat) (v : Value) : setOv ov id v id = some v := by simp [setOv]
theorem setOv_keep {id : Nat} {v : Value} (hid : ov id = none) : ∀ i u, ov i = some u → setOv ov id v i = some u := fun i u h => by
  unfold setOv
  split
  · rename_i e; subst e; rw [hid] at h; cases h
  · exact h
theorem setOv_none {id : Nat} {v : Value} : ∀ i, i ≠ id → ov i = none → setOv ov id v i = none := fun i h1 h2 => by simp [setOv, h1, h2]

/-- A new object in a block that was not there. -/
theorem Mem.add (hm : Mem w0 H0 w H ov ob) {id : Nat} (hid : ov id = none) (hob : ob id = none) (hb : Below w.heap.size w w') {v : Value} {o : Ob} (hr : ObRep w' H w0.heap.size v o) (hnew : ∀ b, blk v = some b → w.heap.size ≤ b) :
    Ext w H ov w' H (setOv ov id v) ∧ Mem w0 H0 w' H (setOv ov id v) (upd ob [(id, some o)]) := by
  refine hm.step (row := none) (hm.bel.trans (hb.mono hm.bel.size)) hb.size (fun k hk _ => hb.block k hk) (fun _ _ => by simp) (setOv_keep hid) fun i oi hi => ?_
  by_cases e : i = id
  · subst e
    right
    simp only [upd, if_true, Option.some.injEq] at hi
    subst hi
    refine ⟨v, setOv_same i v, hr, fun j oj vj b hj hoj hvj hbv hbj => ?_⟩
    have h1 := hnew b hbv
    simp only [upd, if_neg (fun e => hj e.symm : ¬ i = j)] at hoj
    obtain ⟨u, hu, hur⟩ := hm.obj j oj hoj
    have := setOv_keep (v := v) hid j u hu
    rw [hvj] at this; cases this
    have := (hur.lt hbj).2
    omega
  · left
    simp only [upd, if_neg (fun e' => e e'.symm : ¬ id = i)] at hi
    exact ⟨hi, fun _ _ _ _ => by simp⟩

theorem setAt_length {α : Type} : ∀ (vs cs : List α) (k : Nat), (setAt cs k vs).length = cs.length
  | [], cs, k => rfl
  | v :: r, cs, k => by simp [setAt, setAt_length r]

theorem setAt_rep : ∀ (us : List Value) (xs : List V) (vs : List Value) (cs : List V) (k : Nat), RepAll w H us xs → RepAll w H vs cs → RepAll w H (setAt vs k us) (setAt cs k xs)
  | [], [], vs, cs, k, _, h => h
  | [], _ :: _, _, _, _, h, _ => by have := h.1; simp at this
  | _ :: _, [], _, _, _, h, _ => by have := h.1; simp at this
  | u :: us, x :: xs, vs, cs, k, h, h' => by
    refine setAt_rep us xs _ _ (k + 1) ⟨by simpa using h.1, fun j v y h1 h2 => h.2 (j + 1) v y (by simpa using h1) (by simpa using h2)⟩ ⟨by simp [h'.1], fun j v y h1 h2 => ?_⟩
    rw [List.getElem?_set] at h1 h2
    by_cases e : k = j
    · subst e
      rw [if_pos rfl] at h1 h2
      split at h1
      · rename_i hl
        rw [if_pos (by rw [← h'.1]; exact hl)] at h2
        cases h1; cases h2
        exact h.2 0 _ _ rfl rfl
      · cases h1
    · rw [if_neg e] at h1 h2
      exact h'.2 j v y h1 h2

theorem setAt_mem {α : Type} (p : α → Prop) : ∀ (vs cs : List α) (k : Nat), (∀ x, x ∈ cs → p x) → (∀ x, x ∈ vs → p x) → ∀ x, x ∈ setAt cs k vs → p x
  | [], cs, k, h, _, x, hx => h x hx
  | v :: r, cs, k, h, h', x, hx => setAt_mem p r (cs.set k v) (k + 1) (fun y hy => by
      rcases List.mem_or_eq_of_mem_set hy with h1 | h1
      · exact h y h1
      · subst h1; exact h' _ (List.mem_cons_self)) (fun y hy => h' y (List.mem_cons_of_mem _ hy)) x hx
end
end Go.Proofs.Ytngohbpgdeiodaa.Ab
