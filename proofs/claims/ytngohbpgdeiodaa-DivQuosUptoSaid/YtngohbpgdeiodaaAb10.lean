/-
  The abstract layer: regions whose order is open: any order comes to what the text's order comes to.
-/
import Derived.Test.YtngohbpgdeiodaaAb9
namespace Go.Proofs.Ytngohbpgdeiodaa.Ab
set_option linter.unusedSimpArgs false
set_option linter.unusedVariables false
open Go Go.RowKit

def V.refLe (nx : Nat) : V → Bool
  | .ow _ j _ | .sl _ j _ _ | .pt j _ => decide (j ≤ nx)
  | _ => true

section
variable (F G : Nat → List V → V → Prop)
/-- In a region whose order is open: the text's order, and what is made is told by its own number. -/
def rgd : List AO → St → (St → Prop) → Prop
  | [], s, K => K s
  | o :: r, s, K => gv o.gd s (ev F G s.val s.ob s.nx (fun v up => chk (v.refLe s.nx = true ∧ (o.op.mut || up.all (fun p => p.1 == s.nx)) = true) (rgd r (s.aft o.dst v up) K)) o.op) (rgd r (s.aft o.dst .un []) K)
end

/-- What one operation has come to. -/
structure Rc where
  dst : Option Nat
  v : V
  up : List (Nat × Option Ob)

def Did (F G : Nat → List V → V → Prop) (o : AO) (s : St) (r : Rc) : Prop :=
  r.dst = o.dst ∧ gv o.gd s (ev F G s.val s.ob s.nx (fun v up => v = r.v ∧ up = r.up) o.op) (r.v = .un ∧ r.up = []) ∧ r.v.refLe s.nx = true ∧ (o.op.mut || r.up.all (fun p => p.1 == s.nx)) = true

def Trc (F G : Nat → List V → V → Prop) : List AO → St → List Rc → Prop
  | [], _, rs => rs = []
  | o :: l, s, rs => ∃ r rs', rs = r :: rs' ∧ Did F G o s r ∧ Trc F G l (s.aft r.dst r.v r.up) rs'

def endSt : St → List Rc → St
  | s, [] => s
  | s, r :: rs => endSt (s.aft r.dst r.v r.up) rs

theorem gv_split {F G : Nat → List V → V → Prop} {g : Option (Nat × Bool)} {s : St} {op : AOp} {nx : Nat} {dst : Option Nat} {K1 : V → List (Nat × Option Ob) → Prop} {K2 : Prop} (hd : op.det = true)
    (h : gv g s (ev F G s.val s.ob nx (fun v up => chk (v.refLe nx = true ∧ (op.mut || up.all (fun p => p.1 == nx)) = true) (K1 v up)) op) K2) :
    ∃ v up, gv g s (ev F G s.val s.ob nx (fun v' up' => v' = v ∧ up' = up) op) (v = .un ∧ up = []) ∧ v.refLe nx = true ∧ (op.mut || up.all (fun p => p.1 == nx)) = true ∧ (K1 v up ∨ (v = .un ∧ up = [] ∧ K2)) := by
  have run : ev F G s.val s.ob nx (fun v up => chk (v.refLe nx = true ∧ (op.mut || up.all (fun p => p.1 == nx)) = true) (K1 v up)) op → ∃ v up, ev F G s.val s.ob nx (fun v' up' => v' = v ∧ up' = up) op ∧ v.refLe nx = true ∧ (op.mut || up.all (fun p => p.1 == nx)) = true ∧ K1 v up := fun h => by
    obtain ⟨v, up, h1, h2⟩ := ev_split hd h
    exact ⟨v, up, h2, h1.1.1, h1.1.2, h1.2⟩
  have skip : K2 → (V.un.refLe nx = true ∧ (op.mut || ([] : List (Nat × Option Ob)).all (fun p => p.1 == nx)) = true) := fun _ => ⟨rfl, by simp⟩
  cases g with
  | none =>
    obtain ⟨v, up, h1, h2, h3, h4⟩ := run h
    exact ⟨v, up, h1, h2, h3, .inl h4⟩
  | some tw =>
    obtain ⟨t, want⟩ := tw
    cases want <;> simp only [gv] at h ⊢
    all_goals
      cases hx : s.get t <;> rw [hx] at h <;> (try exact h.elim)
    case false.b x =>
      cases x
      · obtain ⟨v, up, h1, h2, h3, h4⟩ := run (h.2 rfl)
        exact ⟨v, up, cnd_mk (fun e => by cases e) (fun _ => h1), h2, h3, .inl h4⟩
      · have k := h.1 rfl
        exact ⟨.un, [], cnd_mk (fun _ => ⟨rfl, rfl⟩) (fun e => by cases e), rfl, by simp, .inr ⟨rfl, rfl, k⟩⟩
    case true.b x =>
      cases x
      · have k := h.2 rfl
        exact ⟨.un, [], cnd_mk (fun e => by cases e) (fun _ => ⟨rfl, rfl⟩), rfl, by simp, .inr ⟨rfl, rfl, k⟩⟩
      · obtain ⟨v, up, h1, h2, h3, h4⟩ := run (h.1 rfl)
        exact ⟨v, up, cnd_mk (fun _ => h1) (fun e => by cases e), h2, h3, .inl h4⟩
    case false.un => exact ⟨.un, [], ⟨rfl, rfl⟩, rfl, by simp, .inr ⟨rfl, rfl, h⟩⟩
    case true.un => exact ⟨.un, [], ⟨rfl, rfl⟩, rfl, by simp, .inr ⟨rfl, rfl, h⟩⟩

theorem rgd_trace {F G : Nat → List V → V → Prop} {K : St → Prop} : ∀ (l : List AO) (s : St), (l.all fun o => o.op.det) = true → rgd F G l s K → ∃ rs, Trc F G l s rs ∧ K (endSt s rs)
  | [], s, _, h => ⟨[], rfl, h⟩
  | o :: l, s, hd, h => by
    simp only [rgd] at h
    simp only [List.all_cons, Bool.and_eq_true] at hd
    obtain ⟨v, up, h1, h2, h3, h4⟩ := gv_split hd.1 (dst := o.dst) (K1 := fun v up => rgd F G l (s.aft o.dst v up) K) (K2 := rgd F G l (s.aft o.dst .un []) K) h
    have k : rgd F G l (s.aft o.dst v up) K := by
      rcases h4 with h4 | ⟨rfl, rfl, h4⟩
      · exact h4
      · exact h4
    obtain ⟨rs, k1, k2⟩ := rgd_trace l _ hd.2 k
    exact ⟨⟨o.dst, v, up⟩ :: rs, ⟨_, rs, rfl, ⟨rfl, h1, h2, h3⟩, k1⟩, k2⟩

/-! ### the states on the way, in any order -/
def putf (e : Nat → V) (d : Option Nat) (v : V) : Nat → V := match d with | some d => fun t => if d = t then v else e t | none => e

def eM (e : Nat → V) : List Rc → List Bool → Nat → V
  | r :: rs, m :: ms => eM (if m then putf e r.dst r.v else e) rs ms
  | _, _ => e
def oM (ob : Nat → Option Ob) : List Rc → List Bool → Nat → Option Ob
  | r :: rs, m :: ms => oM (if m then upd ob r.up else ob) rs ms
  | _, _ => ob

theorem putf_ne {e : Nat → V} {d : Option Nat} {v : V} {t : Nat} (h : d ≠ some t) : putf e d v t = e t := by
  cases d with
  | none => rfl
  | some d => simp only [putf]; rw [if_neg (fun e => h (by rw [e]))]

theorem eM_put : ∀ (rs : List Rc) (ms : List Bool) (e : Nat → V) (d : Option Nat) (v : V), (∀ (k : Nat) (r : Rc), rs[k]? = some r → ms[k]? = some true → ∀ t, r.dst = some t → d ≠ some t) → eM (putf e d v) rs ms = putf (eM e rs ms) d v
  | [], ms, e, d, v, _ => by cases ms <;> rfl
  | r :: rs, [], e, d, v, _ => rfl
  | r :: rs, m :: ms, e, d, v, h => by
    simp only [eM]
    rw [← eM_put rs ms _ d v fun k q h1 h2 => h (k + 1) q (by simpa using h1) (by simpa using h2)]
    cases m with
    | false => rfl
    | true =>
      have h0 := h 0 r rfl rfl
      simp only [if_true]
      congr 1
      funext t
      cases hd : r.dst with
      | none => rfl
      | some t0 =>
        rw [hd] at h0
        have hne := h0 t0 rfl
        cases d with
        | none => rfl
        | some d =>
          simp only [putf]
          by_cases e1 : t0 = t
          · subst e1
            rw [if_pos rfl, if_neg (fun e => hne (by rw [e])), if_pos rfl]
          · rw [if_neg e1]; split <;> simp [e1]

theorem upd_off {ob : Nat → Option Ob} {up : List (Nat × Option Ob)} {j : Nat} (h : ∀ x, (j, x) ∉ up) : upd ob up j = ob j := by
  rcases upd_cases (ob := ob) up j with ⟨h1, _⟩ | h1
  · exact h1
  · exact absurd h1 (h _)

theorem upd_ext {ob ob' : Nat → Option Ob} {up : List (Nat × Option Ob)} {j : Nat} (h : ob j = ob' j) : upd ob up j = upd ob' up j := by
  induction up with
  | nil => exact h
  | cons p r ih => obtain ⟨k, v⟩ := p; simp only [upd]; split <;> first | rfl | exact ih

theorem oM_ext : ∀ (rs : List Rc) (ms : List Bool) {ob ob' : Nat → Option Ob} {j : Nat}, ob j = ob' j → oM ob rs ms j = oM ob' rs ms j
  | [], ms, ob, ob', j, h => by cases ms <;> exact h
  | r :: rs, [], ob, ob', j, h => h
  | r :: rs, m :: ms, ob, ob', j, h => by
    simp only [oM]
    cases m with
    | false => exact oM_ext rs ms h
    | true => exact oM_ext rs ms (upd_ext h)

theorem oM_put : ∀ (rs : List Rc) (ms : List Bool) (ob : Nat → Option Ob) (up : List (Nat × Option Ob)), (∀ (k : Nat) (r : Rc), rs[k]? = some r → ms[k]? = some true → ∀ j x y, (j, x) ∈ up → (j, y) ∉ r.up) → oM (upd ob up) rs ms = upd (oM ob rs ms) up
  | [], ms, ob, up, _ => by cases ms <;> rfl
  | r :: rs, [], ob, up, _ => rfl
  | r :: rs, m :: ms, ob, up, h => by
    simp only [oM]
    rw [← oM_put rs ms _ up fun k q h1 h2 => h (k + 1) q (by simpa using h1) (by simpa using h2)]
    cases m with
    | false => rfl
    | true =>
      have h0 := h 0 r rfl rfl
      simp only [if_true]
      congr 1
      funext j
      rw [upd_upd, upd_upd]
      rcases upd_cases (ob := ob) (r.up ++ up) j with ⟨h1, h2⟩ | h1
      · rw [h1]
        symm
        exact upd_off fun x hx => h2 x (List.mem_append.2 ((List.mem_append.1 hx).symm))
      · rcases List.mem_append.1 h1 with h1' | h1'
        · have hno : ∀ x, (j, x) ∉ up := fun x hx => h0 j x _ hx h1'
          rw [← upd_upd ob up r.up, upd_off hno, ← upd_upd ob r.up up]
          first | exact upd_ext (upd_off hno) | exact (upd_ext (upd_off hno)).symm
        · have hno : ∀ x, (j, x) ∉ r.up := fun x hx => h0 j _ x h1' hx
          rw [← upd_upd ob r.up up, upd_off hno, ← upd_upd ob up r.up]
          first | exact upd_ext (upd_off hno).symm | exact (upd_ext (upd_off hno).symm).symm

/-- The mask with place i set. -/
theorem eM_set : ∀ (rs : List Rc) (ms : List Bool) (i : Nat) (e : Nat → V) (r : Rc), rs[i]? = some r → ms[i]? = some false → (∀ (k : Nat) (q : Rc), i < k → rs[k]? = some q → ms[k]? = some true → ∀ t, q.dst = some t → r.dst ≠ some t) →
    eM e rs (ms.set i true) = putf (eM e rs ms) r.dst r.v
  | [], ms, i, e, r, h, _, _ => by simp at h
  | q :: rs, [], i, e, r, _, h, _ => by simp at h
  | q :: rs, m :: ms, 0, e, r, h1, h2, h3 => by
    simp at h1 h2
    subst h1; subst h2
    simp only [List.set_cons_zero, eM, if_true, Bool.false_eq_true, if_false]
    exact eM_put rs ms e q.dst q.v fun k p hk hm t ht => h3 (k + 1) p (by omega) (by simpa using hk) (by simpa using hm) t ht
  | q :: rs, m :: ms, i + 1, e, r, h1, h2, h3 => by
    simp only [List.set_cons_succ, eM]
    exact eM_set rs ms i _ r (by simpa using h1) (by simpa using h2) fun k p hk hp hm => h3 (k + 1) p (by omega) (by simpa using hp) (by simpa using hm)

theorem oM_set : ∀ (rs : List Rc) (ms : List Bool) (i : Nat) (ob : Nat → Option Ob) (r : Rc), rs[i]? = some r → ms[i]? = some false → (∀ (k : Nat) (q : Rc), i < k → rs[k]? = some q → ms[k]? = some true → ∀ j x y, (j, x) ∈ r.up → (j, y) ∉ q.up) →
    oM ob rs (ms.set i true) = upd (oM ob rs ms) r.up
  | [], ms, i, e, r, h, _, _ => by simp at h
  | q :: rs, [], i, e, r, _, h, _ => by simp at h
  | q :: rs, m :: ms, 0, e, r, h1, h2, h3 => by
    simp at h1 h2
    subst h1; subst h2
    simp only [List.set_cons_zero, oM, if_true, Bool.false_eq_true, if_false]
    exact oM_put rs ms e q.up fun k p hk hm => h3 (k + 1) p (by omega) (by simpa using hk) (by simpa using hm)
  | q :: rs, m :: ms, i + 1, e, r, h1, h2, h3 => by
    simp only [List.set_cons_succ, oM]
    exact oM_set rs ms i _ r (by simpa using h1) (by simpa using h2) fun k p hk hp hm => h3 (k + 1) p (by omega) (by simpa using hp) (by simpa using hm)

/-- A slot reads as in the text's order, where what stands apart does not write it. -/
theorem eM_same : ∀ (rs : List Rc) (ms : List Bool) (i : Nat) (e e' : Nat → V) (t : Nat), ms.length = rs.length → e t = e' t → (∀ (k : Nat) (q : Rc), k < i → rs[k]? = some q → ms[k]? = some false → q.dst ≠ some t) →
    (∀ (k : Nat) (q : Rc), i ≤ k → rs[k]? = some q → ms[k]? = some true → q.dst ≠ some t) → eM e rs ms t = eM e' (rs.take i) ((List.replicate i true)) t
  | [], ms, i, e, e', t, _, h, _, _ => by cases ms <;> simp [eM, h]
  | q :: rs, [], i, e, e', t, hl, _, _, _ => by simp at hl
  | q :: rs, m :: ms, 0, e, e', t, hl, h, h1, h2 => by
    simp only [List.take_zero, List.replicate_zero]
    have : eM e (q :: rs) (m :: ms) t = e t := by
      have gen : ∀ (rs : List Rc) (ms : List Bool) (e : Nat → V), (∀ (k : Nat) (q : Rc), rs[k]? = some q → ms[k]? = some true → q.dst ≠ some t) → eM e rs ms t = e t := fun rs => by
        induction rs with
        | nil => intro ms e _; cases ms <;> rfl
        | cons q rs ih =>
          intro ms e h
          cases ms with
          | nil => rfl
          | cons m ms =>
            simp only [eM]
            rw [ih ms _ fun k p h1 h2 => h (k + 1) p (by simpa using h1) (by simpa using h2)]
            cases m with
            | false => rfl
            | true => exact putf_ne (h 0 q rfl rfl)
      exact gen _ _ e fun k p h3 h4 => h2 k p (Nat.zero_le _) h3 h4
    rw [this]
    exact h
  | q :: rs, m :: ms, i + 1, e, e', t, hl, h, h1, h2 => by
    simp only [List.take_succ_cons, List.replicate_succ, eM, if_true]
    refine eM_same rs ms i _ _ t (by simpa using hl) ?_ (fun k p h3 h4 h5 => h1 (k + 1) p (by omega) (by simpa using h4) (by simpa using h5)) (fun k p h3 h4 h5 => h2 (k + 1) p (by omega) (by simpa using h4) (by simpa using h5))
    cases m with
    | true =>
      simp only [if_true]
      cases hd : q.dst with
      | none => exact h
      | some d => simp only [putf]; split <;> first | rfl | exact h
    | false =>
      simp only [Bool.false_eq_true, if_false]
      rw [putf_ne (h1 0 q (by omega) rfl rfl)]
      exact h

theorem oM_same : ∀ (rs : List Rc) (ms : List Bool) (i : Nat) (e e' : Nat → Option Ob) (j : Nat), ms.length = rs.length → e j = e' j → (∀ (k : Nat) (q : Rc), k < i → rs[k]? = some q → ms[k]? = some false → ∀ x, (j, x) ∉ q.up) →
    (∀ (k : Nat) (q : Rc), i ≤ k → rs[k]? = some q → ms[k]? = some true → ∀ x, (j, x) ∉ q.up) → oM e rs ms j = oM e' (rs.take i) ((List.replicate i true)) j
  | [], ms, i, e, e', t, _, h, _, _ => by cases ms <;> simp [oM, h]
  | q :: rs, [], i, e, e', t, hl, _, _, _ => by simp at hl
  | q :: rs, m :: ms, 0, e, e', t, hl, h, h1, h2 => by
    simp only [List.take_zero, List.replicate_zero]
    have : oM e (q :: rs) (m :: ms) t = e t := by
      have gen : ∀ (rs : List Rc) (ms : List Bool) (e : Nat → Option Ob), (∀ (k : Nat) (q : Rc), rs[k]? = some q → ms[k]? = some true → ∀ x, (t, x) ∉ q.up) → oM e rs ms t = e t := fun rs => by
        induction rs with
        | nil => intro ms e _; cases ms <;> rfl
        | cons q rs ih =>
          intro ms e h
          cases ms with
          | nil => rfl
          | cons m ms =>
            simp only [oM]
            rw [ih ms _ fun k p h1 h2 => h (k + 1) p (by simpa using h1) (by simpa using h2)]
            cases m with
            | false => rfl
            | true => exact upd_off (h 0 q rfl rfl)
      exact gen _ _ e fun k p h3 h4 => h2 k p (Nat.zero_le _) h3 h4
    rw [this]
    exact h
  | q :: rs, m :: ms, i + 1, e, e', t, hl, h, h1, h2 => by
    simp only [List.take_succ_cons, List.replicate_succ, oM, if_true]
    refine oM_same rs ms i _ _ t (by simpa using hl) ?_ (fun k p h3 h4 h5 => h1 (k + 1) p (by omega) (by simpa using h4) (by simpa using h5)) (fun k p h3 h4 h5 => h2 (k + 1) p (by omega) (by simpa using h4) (by simpa using h5))
    cases m with
    | true => simp only [if_true]; exact upd_ext h
    | false =>
      simp only [Bool.false_eq_true, if_false]
      rw [upd_off (h1 0 q (by omega) rfl rfl)]
      exact h
end Go.Proofs.Ytngohbpgdeiodaa.Ab
