/-
  The abstract layer: regions in the text's order.
-/
import Derived.Test.YtngohbpgdeiodaaAb7
namespace Go.Proofs.Ytngohbpgdeiodaa.Ab
set_option linter.unusedSimpArgs false
set_option linter.unusedVariables false
open Go Go.RowKit

structure AO where
  dst : Option Nat
  gd : Option (Nat × Bool)
  op : AOp
  deriving Inhabited

def St.aft (s : St) (d : Option Nat) (v : V) (up : List (Nat × Option Ob)) : St :=
  { env := match d with | some d => (d, v) :: s.env | none => s.env, obs := up ++ s.obs, nx := s.nx + 1 }

theorem lk_cons (k : Nat) (v : V) (r : List (Nat × V)) (t : Nat) : lk ((k, v) :: r) t = if k = t then v else lk r t := rfl
theorem lo_app (up obs : List (Nat × Option Ob)) : lo (up ++ obs) = upd (lo obs) up := by
  funext i
  induction up with
  | nil => rfl
  | cons p r ih => obtain ⟨k, v⟩ := p; simp only [List.cons_append, lo, upd]; split <;> first | rfl | exact ih

/-- Is the guard met? -/
def gv (g : Option (Nat × Bool)) (s : St) (run skip : Prop) : Prop :=
  match g with
  | none => run
  | some (t, true) => (match s.get t with | .b x => cnd (.b x) run skip | .un => skip | _ => False)
  | some (t, false) => (match s.get t with | .b x => cnd (.b x) skip run | .un => skip | _ => False)

section
variable (F G : Nat → List V → V → Prop)
def rgv : List AO → St → (St → Prop) → Prop
  | [], s, K => K s
  | o :: r, s, K => gv o.gd s (ev F G s.val s.ob s.nx (fun v up => rgv r (s.aft o.dst v up) K) o.op) (rgv r (s.aft o.dst .un []) K)
end

/-! ### from the model's region -/
def cG (ops : Array Oper) : Option (Nat × Bool) → Option (Option (Nat × Bool))
  | none => some none
  | some (j, want) => match (ops[j]?).bind (·.dst) with
    | some t => some (some (t, want))
    | none => none

def dOk (N : Nat) : Option Nat → Bool
  | none => true
  | some d => decide (d < N)

def cRg (P : Program) (N : Nat) (ops : Array Oper) : List Oper → Option (List AO)
  | [] => some []
  | o :: r => match cOpB P o.op, cG ops o.guard, cRg P N ops r with
    | some p, some g, some l => if dOk N o.dst then some (⟨o.dst, g, p⟩ :: l) else none
    | _, _, _ => none

section
variable {P : Program} {J : World → Prop} {w0 w : World} {H0 : Nat → Prop} {H : Nat → Prop} {ov : Nat → Option Value} {N : Nat} {a : Act} {s : St} {ops : Array Oper} {Q : Exit → Act → World → Prop}

theorem Conc.val (hc : Conc w0 H0 w H ov N a s) : ∀ p x, cX p = some x → Rep w H ov (a.eval p) (s.val x) := by
  intro p x h
  cases p with
  | tmp t => simp only [cX, Option.some.injEq] at h; subst h; exact hc.env t
  | const v =>
    simp only [cX, Option.some.injEq] at h
    subst h
    show Rep w H ov v (cV v)
    unfold cV
    split
    · exact .nl
    · rename_i cs
      have := repAll_cS (w := w) (H := H) cs.toList
      have h2 : Rep0 w H (.agg cs.toList.toArray) (.g (cs.toList.map cS)) := .g _ _ this.1 this.2
      simpa using Rep.up (ov := ov) h2
    · exact .up (rep_cS v)
  | func f => simp only [cX, Option.some.injEq] at h; subst h; exact .up (.c _)
  | global g => simp only [cX, Option.some.injEq] at h; subst h; exact .any _

theorem put_getD {a : Act} {d t : Nat} {v : Value} (hd : d < a.tmps.size) : ((a.put (some d) v).tmps.getD t undef) = if d = t then v else a.tmps.getD t undef := by
  simp only [Act.put, Array.getD_eq_getD_getElem?, Array.getElem?_setIfInBounds]
  split
  · rename_i e; subst e; simp [hd]
  · rfl

theorem Conc.aft (hc : Conc w0 H0 w H ov N a s) {d : Option Nat} (hd : dOk N d = true) {v : V} {up : List (Nat × Option Ob)} {cv : Value} {w' : World} {H' : Nat → Prop} {ov' : Nat → Option Value} (he : Ext w H ov w' H' ov')
    (hn : ∀ i, i ≠ s.nx → ov i = none → ov' i = none) (hm : Mem w0 H0 w' H' ov' (upd s.ob up)) (hr : Rep w' H' ov' cv v) : Conc w0 H0 w' H' ov' N (a.put d cv) (s.aft d v up) := by
  refine ⟨?_, ?_, ?_, ?_, fun id hid => hn id (by simp only [St.aft] at hid; omega) (hc.new id (by simp only [St.aft] at hid; omega))⟩
  · have : (s.aft d v up).ob = upd s.ob up := by funext i; simp [St.aft, St.ob, lo_app]; rfl
    rw [this]; exact hm
  · cases d with
    | none => exact hc.siz
    | some d => simp [Act.put, hc.siz]
  · cases d <;> exact hc.dfr
  · intro t
    cases d with
    | none => exact (hc.env t).mono he
    | some d =>
      have hdN : d < a.tmps.size := by rw [hc.siz]; simpa [dOk] using hd
      rw [put_getD hdN]
      simp only [St.aft, St.get, lk_cons]
      split
      · exact hr
      · exact (hc.env t).mono he

theorem Conc.noOb (hc : Conc w0 H0 w H ov N a s) : s.ob s.nx = none := by
  cases h : s.ob s.nx with
  | none => rfl
  | some o =>
    obtain ⟨v, hv, _⟩ := hc.mem.obj _ _ h
    rw [hc.new s.nx (Nat.le_refl _)] at hv; cases hv

theorem yield_of (hc : Conc w0 H0 w H ov N a s) {j t : Nat} (hj : (ops[j]?).bind (·.dst) = some t) : (∀ x, s.get t = .b x → yielded ops a.tmps j = some x) ∧ (s.get t = .un → yielded ops a.tmps j = none) := by
  have h := hc.env t
  have e : yielded ops a.tmps j = match (a.tmps[t]? : Option Value) with | some (.bool b) => some b | _ => none := by
    unfold yielded; rw [hj]; rfl
  constructor
  · intro x hx
    rw [hx] at h
    have h1 := h.inv_b
    rw [e]
    simp only [Array.getD_eq_getD_getElem?] at h1
    cases h2 : a.tmps[t]? with
    | none => rw [h2] at h1; simp [undef] at h1
    | some v => rw [h2] at h1; simp at h1; subst h1; rfl
  · intro hx
    rw [hx] at h
    have h1 := h.inv_un
    rw [e]
    simp only [Array.getD_eq_getD_getElem?] at h1
    cases h2 : a.tmps[t]? with
    | none => rfl
    | some v => rw [h2] at h1; simp at h1; subst h1; rfl

/-- what 'gv' says, at the model's guard -/
theorem gv_cases (hc : Conc w0 H0 w H ov N a s) {o : Oper} {g : Option (Nat × Bool)} (hg : cG ops o.guard = some g) {run skip : Prop} (h : gv g s run skip) :
    (Region.wanted o (yielded ops a.tmps) = true ∧ run) ∨ (Region.wanted o (yielded ops a.tmps) = false ∧ skip) := by
  unfold Region.wanted
  cases hgd : o.guard with
  | none => rw [hgd] at hg; simp only [cG, Option.some.injEq] at hg; subst hg; exact .inl ⟨rfl, h⟩
  | some jw =>
    obtain ⟨j, want⟩ := jw
    rw [hgd] at hg
    simp only [cG] at hg
    split at hg
    · rename_i t ht
      simp only [Option.some.injEq] at hg
      subst hg
      obtain ⟨y1, y2⟩ := yield_of (ops := ops) hc ht
      simp only []
      cases want <;> simp only [gv] at h
      · cases hx : s.get t <;> rw [hx] at h <;> simp only [] at h
        case b x =>
          rw [y1 x hx]
          cases x
          · exact .inl ⟨rfl, h.2 rfl⟩
          · exact .inr ⟨rfl, h.1 rfl⟩
        case un => rw [y2 hx]; exact .inr ⟨rfl, h⟩
      · cases hx : s.get t <;> rw [hx] at h <;> simp only [] at h
        case b x =>
          rw [y1 x hx]
          cases x
          · exact .inr ⟨rfl, h.2 rfl⟩
          · exact .inl ⟨rfl, h.1 rfl⟩
        case un => rw [y2 hx]; exact .inr ⟨rfl, h⟩
    · cases hg

theorem rgv_list (hJs : ∀ w', Below w0.heap.size w0 w' → J w') {K : St → Prop} (hK : ∀ s' w' H' ov' a', K s' → Conc w0 H0 w' H' ov' N a' s' → Q .normal a' w') :
    ∀ (l : List Oper) (al : List AO), cRg P N ops l = some al → ∀ {w : World} {H : Nat → Prop} {ov : Nat → Option Value} {a : Act} {s : St}, Conc w0 H0 w H ov N a s → rgv (AFun P J) (XFun P) al s K → wpList P ops Q l a w
  | [], al, h, w, H, ov, a, s, hc, hv => by
    simp only [cRg, Option.some.injEq] at h
    subst h
    exact hK s w H ov a hv hc
  | o :: r, al, h, w, H, ov, a, s, hc, hv => by
    simp only [cRg] at h
    split at h
    · rename_i p g l' hp hg hl
      split at h
      · rename_i hd
        cases h
        simp only [rgv] at hv
        unfold wpList
        rcases gv_cases (ops := ops) hc hg hv with ⟨hw, hrun⟩ | ⟨hw, hskip⟩
        · rw [if_pos hw]
          refine .inl ?_
          refine ev_soundB (J := J) (w0 := w0) hc.mem hc.val (id := s.nx) ?_ (hc.new s.nx (Nat.le_refl _)) hc.noOb (hJs w hc.mem.bel) hp hrun
          intro v up cv w' H' ov' hR he hn hm hr
          exact rgv_list hJs hK r l' hl (hc.aft hd he hn hm hr) hR
        · rw [if_neg (by rw [hw]; decide)]
          refine rgv_list hJs hK r l' hl (hc.aft hd (Ext.refl _ _ _) (fun _ _ h => h) (up := []) ?_ ?_) hskip
          · exact hc.mem
          · exact .un
      · cases h
    · cases h

end
end Go.Proofs.Ytngohbpgdeiodaa.Ab
