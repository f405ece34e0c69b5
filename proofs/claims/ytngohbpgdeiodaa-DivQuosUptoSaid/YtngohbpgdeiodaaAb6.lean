/-
  The abstract layer: soundness of operations, third part: stores, new variables, literals, make, append.
-/
import Derived.Test.YtngohbpgdeiodaaAb5
namespace Go.Proofs.Ytngohbpgdeiodaa.Ab
set_option linter.unusedSimpArgs false
set_option linter.unusedVariables false
open Go Go.RowKit

section
variable {P : Program} {w0 w w' : World} {H0 : Nat → Prop} {H : Nat → Prop} {ov : Nat → Option Value} {ob : Nat → Option Ob}

theorem rep_cS (v : Value) : Rep0 w H v (cS v) := by
  unfold cS
  split
  · exact .i _ _
  · exact .b _
  · exact .s _
  · exact .l none 0 0 1 [] (fun _ => undef) 0 0 (by decide) (by simp) (Nat.zero_le _) (Nat.le_refl _) (.inl rfl) (fun j hj => by simp at hj) (fun j x hx => by simp at hx)
  · exact .c _

theorem repAll_cS (vs : List Value) : RepAll w H vs (vs.map cS) := by
  refine ⟨by simp, fun j v x h1 h2 => ?_⟩
  rw [List.getElem?_map, h1] at h2
  simp only [Option.map_some, Option.some.injEq] at h2
  subst h2
  exact rep_cS v

theorem cell_of_all {cs : List V} (h : cs.all V.cell = true) : ∀ x, x ∈ cs → x.cell = true := fun x hx => List.all_eq_true.1 h x hx

theorem ok_of_cells {y : V} (h : y.cells.all V.cell = true) : y.okArg = true ∨ y.cell = true := by
  cases y <;> first | exact .inl rfl | (right; simpa [V.cells] using h)

theorem cells_rep {v : Value} {y : V} (h : Rep0 w H v y) (hc : y.cells.all V.cell = true) : RepAll w H v.cells.toList y.cells := by
  have one : y.cell = true → y.cells = [y] → RepAll w H v.cells.toList y.cells := fun hy e => by
    have h1 := h.oneCell hy
    have e2 : v.cells = #[v] := by cases v <;> first | rfl | (simp [Value.oneCell'] at h1)
    rw [e, e2]
    refine ⟨rfl, fun j u x h1 h2 => ?_⟩
    cases j with
    | zero => simp at h1 h2; subst h1; subst h2; exact h
    | succ j => simp at h1
  cases y with
  | g cs =>
    cases h with
    | g vs cs hn hr => exact ⟨by simpa [Value.cells, V.cells] using hn, by simpa [Value.cells, V.cells] using hr⟩
  | _ => first | exact one rfl rfl | (exact one (by simpa [V.cells] using hc) rfl)

theorem setAt_eq {α : Type} : ∀ (us xs : List α) (k : Nat), k + us.length ≤ xs.length → setAt xs k us = xs.take k ++ us ++ xs.drop (k + us.length)
  | [], xs, k, _ => by simp [setAt]
  | u :: us, xs, k, h => by
    have hk : k < xs.length := by simp at h; omega
    rw [setAt, setAt_eq us (xs.set k u) (k + 1) (by simp at h ⊢; omega)]
    have e1 : (xs.set k u).take (k + 1) = xs.take k ++ [u] := by
      rw [List.take_succ_eq_append_getElem (by simpa using hk)]
      simp [List.take_set_of_le]
    have e2 : (xs.set k u).drop (k + 1 + us.length) = xs.drop (k + (us.length + 1)) := by
      rw [List.drop_set_of_lt (by omega)]
      congr 1; omega
    rw [e1, e2]
    simp

theorem setAt_take {α : Type} : ∀ (us xs : List α) (k m : Nat), (setAt xs k us).take m = setAt (xs.take m) k us
  | [], xs, k, m => rfl
  | u :: us, xs, k, m => by rw [setAt, setAt, setAt_take us, List.take_set]

/-- A store into cells of an object. -/
theorem Mem.store (hm : Mem w0 H0 w H ov ob) {j k : Nat} {o : Ob} {u : Value} {b : Nat} (ho : ob j = some o) (hmu : o.mu = true) (hu : ov j = some u) (hb : blk u = some b) {us : List Value} {ys : List V} (hr : RepAll w H us ys) (hcl : ∀ x, x ∈ ys → x.cell = true) (hk : k + ys.length ≤ o.cs.length) :
    ∃ w', (storeCells ⟨b, k, none⟩ us).run P w = .ok () w' ∧ Ext w H ov w' H ov ∧ Mem w0 H0 w' H ov (upd ob [(j, some { o with cs := setAt o.cs k ys })]) := by
  obtain ⟨u', hu', hor⟩ := hm.obj j o ho
  rw [hu] at hu'; cases hu'
  have hnH : ¬ H b := fun h => by have := (hor.fz b hb).1 h; rw [hmu] at this; cases this
  have h1 : ∀ v ∈ us, v.oneCell' = true := fun v hv => by
    obtain ⟨i, hi, rfl⟩ := List.getElem_of_mem hv
    have hi' : i < ys.length := by rw [← hr.1]; exact hi
    exact (hr.2 i _ _ (List.getElem?_eq_getElem hi) (List.getElem?_eq_getElem hi')).oneCell (hcl _ (List.getElem_mem hi'))
  have hB := hor.lt hb
  -- the block
  have hblk : ∃ cur, w.heap[b]? = some (.cells cur o.e (0, 0)) ∧ o.cs.length ≤ cur.size ∧
      (∀ w'', (∀ h : Nat, h ≠ b → w''.heap[h]? = w.heap[h]?) → w''.heap[b]? = some (.cells (setAt cur.toList k us).toArray o.e (0, 0)) → ObRep w'' H w0.heap.size u { o with cs := setAt o.cs k ys }) := by
    rcases hor.bd with ⟨hv, b', cur, rfl, hBb, hh, hra⟩ | ⟨hv, hsz, n, xs, hown, hra, hnm⟩
    · cases hb
      refine ⟨cur, hh, by rw [← hra.1]; simp, fun w'' hw hw2 => ⟨setAt_mem _ _ _ _ hor.cl hcl, hor.fz, .inl ⟨hv, b', _, rfl, hBb, hw2, ?_⟩⟩⟩
      have e := setAt_rep us ys cur.toList o.cs k hr hra
      exact (e.mono (fun _ h => h) fun c hc => hw c (fun e => hnH (e ▸ hc)))
    · rcases hown.2 with ⟨rfl, _⟩ | ⟨g, cap, cur, rfl, hbg, hh, hnc, hcm, hcs, htake⟩
      · cases hb
      · cases hb
        refine ⟨cur, hh, ?_, fun w'' hw hw2 => ⟨setAt_mem _ _ _ _ hor.cl hcl, hor.fz, .inr ⟨hv, hsz, n, setAt xs k us, ⟨by rw [setAt_length]; exact hown.1, .inr ⟨g, cap, _, rfl, hbg, hw2, hnc, hcm, ?_, ?_⟩⟩, ?_, hnm⟩⟩⟩
        · rw [← hra.1, hown.1, hcs]; exact Nat.mul_le_mul_right _ hnc
        · simp [setAt_length, hcs]
        · show (setAt cur.toList k us).take (n * o.sz) = _
          rw [setAt_take, htake]
        · have e := setAt_rep us ys xs o.cs k hr hra
          exact (e.mono (fun _ h => h) fun c hc => hw c (fun e => hnH (e ▸ hc)))
  obtain ⟨cur, hh, hle, hfin⟩ := hblk
  have hkl : k + us.length ≤ cur.size := by have := hr.1; omega
  have hrun := run_storeCells_at P b k o.e us 0 cur w hh (by simpa using hkl) h1
  simp only [Nat.add_zero] at hrun
  have e : (cur.toList.take k ++ us ++ cur.toList.drop (k + us.length)) = setAt cur.toList k us := (setAt_eq us cur.toList k (by simpa using hkl)).symm
  rw [e] at hrun
  refine ⟨_, hrun, ?_⟩
  have hoth : ∀ h : Nat, h ≠ b → (w.setRow b (setAt cur.toList k us).toArray).heap[h]? = w.heap[h]? := fun h hne => setRow_other w b h _ hne
  have hsame := setRow_heap w b cur (setAt cur.toList k us).toArray o.e (0, 0) hh
  have hsize : (w.setRow b (setAt cur.toList k us).toArray).heap.size = w.heap.size := by simp [World.setRow]
  refine hm.step (row := some b) ?_ (Nat.le_of_eq hsize.symm) (fun h _ hne => hoth h (fun e => hne (by rw [e]))) (fun c hc e => hnH (by cases e; exact hc)) (fun _ _ h => h) fun i oi hi => ?_
  · exact hm.bel.trans ⟨rfl, rfl, rfl, Nat.le_of_eq hsize.symm, fun h hh => hoth h (by omega)⟩
  · by_cases e : i = j
    · subst e
      right
      simp only [upd, if_true, Option.some.injEq] at hi
      subst hi
      refine ⟨u, hu, hfin _ hoth hsame, fun l ol vl c hl hol hvl hbc => ?_⟩
      simp only [upd, if_neg (fun e => hl e.symm : ¬ i = l)] at hol
      exact hm.sep i l o ol u vl c (fun e => hl e.symm) ho hol hu hvl hbc
    · left
      simp only [upd, if_neg (fun e' => e e'.symm : ¬ j = i)] at hi
      refine ⟨hi, fun u' c h1 h2 e' => ?_⟩
      cases e'
      exact hm.sep i j oi o u' u _ e hi ho h1 hu h2 hb

theorem upd_upd (ob : Nat → Option Ob) (u1 u2 : List (Nat × Option Ob)) : upd (upd ob u2) u1 = upd ob (u1 ++ u2) := by
  funext i
  induction u1 with
  | nil => rfl
  | cons p r ih => obtain ⟨k, v⟩ := p; simp only [List.cons_append, upd]; split <;> first | rfl | exact ih

theorem tyOf_some {t : TypeId} {sz by_ : Nat} {z : List V} (h : tyOf P t = some (sz, by_, z)) :
    ∃ i v, P.info? t = some i ∧ i.zero = some v ∧ i.size = sz ∧ i.bytes = by_ ∧ z = v.cells.toList.map cS ∧ v.cells.size = sz ∧ 0 < sz ∧ z.all V.cell = true := by
  unfold tyOf at h
  split at h
  · rename_i i hi
    split at h
    · rename_i v hv
      split at h
      · rename_i hc
        simp only [Option.some.injEq, Prod.mk.injEq] at h
        obtain ⟨rfl, rfl, rfl⟩ := h
        exact ⟨i, v, hi, hv, rfl, rfl, rfl, hc.1, hc.2.1, hc.2.2⟩
      · cases h
    · cases h
  · cases h

/-- A new row of the call's own: as an object. -/
theorem ObRep.row {B : Nat} {v : Value} {n : Nat} {xs : List Value} {e sz : Nat} {cs : List V} (hown : w.ownsRow B e sz v n xs) (hsz : 0 < sz) (hr : RepAll w H xs cs) (hcl : ∀ x, x ∈ cs → x.cell = true) (hn : n ≤ maxLen) (hH : ∀ b, blk v = some b → ¬ H b) :
    ObRep w H B v { e, sz, cs, mu := true, isv := false } :=
  ⟨hcl, fun b hb => ⟨fun h => absurd h (hH b hb), fun h => by cases h⟩, .inr ⟨rfl, hsz, n, xs, hown, hr, hn⟩⟩

theorem rep_ow {B e sz n id : Nat} {v : Value} {xs : List Value} {ov' : Nat → Option Value} (hown : w.ownsRow B e sz v n xs) (hn : n ≤ maxLen) (ho : ov' id = some v) : Rep w H ov' v (.ow sz id n) := by
  rcases hown.2 with ⟨rfl, rfl⟩ | ⟨g, cap, cur, rfl, _, _, hnc, _⟩
  · exact .ow sz id 0 0 none hn (Nat.le_refl _) (.inl rfl) ho
  · exact .ow sz id n cap _ hn hnc (.inr ⟨g, rfl⟩) ho

theorem blk_own {B e sz n : Nat} {v : Value} {xs : List Value} (hown : w.ownsRow B e sz v n xs) {b : Nat} (hb : blk v = some b) : v.ownBlock = some b := by
  rcases hown.2 with ⟨rfl, rfl⟩ | ⟨g, cap, cur, rfl, _⟩
  · cases hb
  · exact hb
end

section ops
variable {P : Program} {w0 w : World} {H0 : Nat → Prop} {H : Nat → Prop} {ov : Nat → Option Value} {ob : Nat → Option Ob} {id : Nat} {ρ : X → V} {a : Act} {o : Oper} {K : Act → World → Prop} {Q : Exit → Act → World → Prop}
  {R : V → List (Nat × Option Ob) → Prop}
variable (hm : Mem w0 H0 w H ov ob) (hρ : ∀ p x, cX p = some x → Rep w H ov (a.eval p) (ρ x)) (hF : Fin w0 H0 w H ov ob id R a o.dst K) (hid : ov id = none) (hob : ob id = none)
include hm hρ hF hid hob

omit hid hob in
theorem s_st {t : TypeId} {p x : Operand} {p' x' : X} {ti : TypeInfo} (hop : o.op = .store t p x) (hp : cX p = some p') (hx : cX x = some x') (hi : P.info? t = some ti)
    (h : ev (fun _ _ _ => False) (fun _ _ _ => False) ρ ob id R (.st ti.size p' x')) : o.wp P a w K Q := by
  have h1 := hρ p p' hp
  have h2 := hρ x x' hx
  simp only [ev] at h
  cases hv : ρ p' <;> rw [hv] at h h1 <;> (try simp only [] at h)
  case pt j k =>
    obtain ⟨b, u, e, hu, hb⟩ := h1.inv_pt
    cases hoj : ob j with
    | none => rw [hoj] at h; exact h.elim
    | some oo =>
      rw [hoj] at h
      obtain ⟨⟨hok, hmu, hnf, hlen, hk, hall⟩, hR⟩ := h
      obtain ⟨H1, hext, hm1, hfr, _⟩ := hm.freeze (onlyFrz_frz (ob := ob) (ρ x'))
      have hrd := rd_rep hm (sz := 1) (by decide) h2 hok (ok_of_cells hall) hext.hH hfr
      have hcells := cells_rep hrd hall
      have hoj1 : upd ob (frz ob (ρ x')) j = some oo := by
        rcases upd_cases (ob := ob) (frz ob (ρ x')) j with ⟨e1, _⟩ | h'
        · rw [e1]; exact hoj
        · have := List.all_eq_true.1 hnf _ h'
          simp at this
      obtain ⟨w', hrun, hext2, hm2⟩ := hm1.store (P := P) hoj1 hmu hu hb hcells (cell_of_all hall) (by rw [hlen]; exact hk)
      rw [upd_upd] at hm2
      have hsz : (a.eval x).cells.size = ti.size := by
        have := hcells.1
        simp only [Array.length_toList] at this
        rw [this, hlen]
      unfold Oper.wp
      have : (execOp a.eval o).run P w = .ok .skip w' := by
        simp [execOp, hop, e, Instr.storeAt, Instr.sureAddr, storeVar, sizeOf, typeInfo, hi, hsz, hrun]
      rw [this]
      exact hF _ _ undef w' H1 ov hR (hext.trans hext2) (fun _ _ h => h) hm2 .un

omit hρ in
theorem s_al {t : TypeId} {sz by_ : Nat} {z : List V} (hop : o.op = .alloc t) (ht : tyOf P t = some (sz, by_, z))
    (h : ev (fun _ _ _ => False) (fun _ _ _ => False) ρ ob id R (.al t z)) : o.wp P a w K Q := by
  obtain ⟨i, v, hi, hz, hs, hb, rfl, hvs, hpos, hall⟩ := tyOf_some ht
  simp only [ev] at h
  have hBl : Below w.heap.size w (w.alloc (.cells v.cells t)) := (Below.refl _ _).alloc (Nat.le_refl _) _
  have hra : RepAll (w.alloc (.cells v.cells t)) H v.cells.toList (v.cells.toList.map cS) := repAll_cS _
  have hor : ObRep (w.alloc (.cells v.cells t)) H w0.heap.size (.pointer (some ⟨w.heap.size, 0, none⟩)) { e := t, sz := (v.cells.toList.map cS).length, cs := v.cells.toList.map cS, mu := true, isv := true } :=
    ⟨cell_of_all hall, fun b hb => ⟨fun h => by cases hb; exact absurd (hm.Hlt _ h) (Nat.lt_irrefl _), fun h => by cases h⟩, .inl ⟨rfl, w.heap.size, v.cells, rfl, hm.bel.size, heap_alloc_new w _, hra⟩⟩
  obtain ⟨hext, hm'⟩ := hm.add hid hob hBl hor (fun b hb => by cases hb; exact Nat.le_refl _)
  unfold Oper.wp
  have : (execOp a.eval o).run P w = .ok (.value (.pointer (some ⟨w.heap.size, 0, none⟩))) (w.alloc (.cells v.cells t)) := by
    simp [execOp, hop, Instr.alloc, zeroValue, typeInfo, hi, hz, newVar, newRow]
  rw [this]
  exact hF _ _ _ _ H _ h hext setOv_none hm' (.pt id 0 w.heap.size _ (setOv_same _ _) rfl)


omit hm hρ hF hid hob in
theorem cParts_some {fs : Array Field} : ∀ {ps : List (Nat × Operand)} {qs : List (Nat × Nat × X)}, cParts P fs ps = some qs →
    ps.length = qs.length ∧ ∀ (j : Nat) (p : Nat × Operand) (q : Nat × Nat × X), ps[j]? = some p → qs[j]? = some q → cX p.2 = some q.2.2 ∧ ∃ f ti, fs[p.1]? = some f ∧ P.info? f.type = some ti ∧ q.1 = f.offset ∧ q.2.1 = ti.size
  | [], qs, h => by simp [cParts] at h; subst h; exact ⟨rfl, fun j p q h => by simp at h⟩
  | (i, x) :: r, qs, h => by
    unfold cParts at h
    split at h
    · rename_i x' r' f hx hr hf
      split at h
      · rename_i ti hti
        cases h
        obtain ⟨h1, h2⟩ := cParts_some hr
        refine ⟨by simp [h1], fun j p q hp hq => ?_⟩
        cases j with
        | zero => simp at hp hq; subst hp; subst hq; exact ⟨hx, f, ti, hf, hti, rfl, rfl⟩
        | succ j => exact h2 j p q (by simpa using hp) (by simpa using hq)
      · cases h
    · cases h

omit hm hρ hF hid hob in
theorem fold_setAt : ∀ (us : List Value) (cells : Array Value) (off i : Nat), ((us.toArray.zipIdx i).foldl (fun cs (c, j) => cs.setIfInBounds (off + j) c) cells).toList = setAt cells.toList (off + i) us := by
  intro us
  induction us with
  | nil => intro cells off i; rfl
  | cons u us ih =>
    intro cells off i
    have e : ((u :: us).toArray.zipIdx i) = #[(u, i)] ++ us.toArray.zipIdx (i + 1) := by
      apply Array.ext'
      simp [List.zipIdx_cons]
    rw [e, Array.foldl_append]
    simp only [List.foldl_toArray', List.foldl_cons, List.foldl_nil]
    have := ih (cells.setIfInBounds (off + i) u) off (i + 1)
    simp only [] at this
    rw [this]
    simp [setAt, Nat.add_assoc]

omit hm hρ hF hid hob in
theorem mapM_get {α β : Type} (f : α → Option β) : ∀ (l : List α) (r : List β), l.mapM f = some r → ∀ (k : Nat) (x : α), l[k]? = some x → ∃ y, f x = some y ∧ r[k]? = some y
  | [], r, h, k, x, hx => by simp at hx
  | z :: l, r, h, k, x, hx => by
    simp only [List.mapM_cons, Option.bind_eq_bind, Option.pure_def, Option.bind_eq_some_iff] at h
    obtain ⟨y, hy, ys, hys, e⟩ := h
    cases e
    cases k with
    | zero => simp at hx; subst hx; exact ⟨y, hy, rfl⟩
    | succ k => simpa using mapM_get f l ys hys k x (by simpa using hx)

omit hm hρ hF hid hob in
/-- What 'fill' comes to. -/
theorem fill_rep (place : Nat → Option (Nat × Nat)) : ∀ (ps : List (Nat × Value)) (qs : List (Nat × List V)) (cells : Array Value) (cs : List V), ps.length = qs.length →
    (∀ (j : Nat) (p : Nat × Value) (q : Nat × List V), ps[j]? = some p → qs[j]? = some q → ∃ sz, place p.1 = some (q.1, sz) ∧ q.2.length = sz ∧ RepAll w H p.2.cells.toList q.2) → RepAll w H cells.toList cs → fitAll cs.length qs = true →
    ∃ out, Instr.fill place cells ps = some out ∧ RepAll w H out.toList (setAll cs qs)
  | [], [], cells, cs, _, _, h, _ => ⟨cells, rfl, h⟩
  | [], _ :: _, _, _, h, _, _, _ => by simp at h
  | _ :: _, [], _, _, h, _, _, _ => by simp at h
  | (i, v) :: ps, (off, vs) :: qs, cells, cs, hl, hp, hc, hf => by
    obtain ⟨sz, h1, h2, h3⟩ := hp 0 _ _ rfl rfl
    simp only [fitAll, Bool.and_eq_true, decide_eq_true_eq] at hf
    have hsz : v.cells.size = sz := by have := h3.1; simp only [Array.length_toList] at this; simp at h2; omega
    have hcl : cells.size = cs.length := by have := hc.1; simpa using this
    have hfit : ¬ (off + v.cells.size > cells.size) := by simp at h2; omega
    have e := fold_setAt v.cells.toList cells off 0
    simp only [Array.toArray_toList, Nat.add_zero] at e
    have hstep : RepAll w H (v.cells.zipIdx.foldl (fun cs (c, j) => cs.setIfInBounds (off + j) c) cells).toList (setAt cs off vs) := by
      rw [e]; exact setAt_rep _ _ _ _ _ h3 hc
    obtain ⟨out, ho, hr⟩ := fill_rep place ps qs _ _ (by simpa using hl) (fun j p q h4 h5 => hp (j + 1) p q (by simpa using h4) (by simpa using h5)) hstep (by rw [setAt_length]; exact hf.2)
    refine ⟨out, ?_, hr⟩
    simp only [] at h1
    rw [Instr.fill, h1]
    simp only [hsz, ne_eq, not_true_eq_false, decide_false, Bool.false_or, decide_eq_true_eq]
    rw [if_neg (by omega)]
    exact ho

omit hm hρ hF hid hob in
theorem okRs_get {vs : List V} (h : okRs ob vs) : ∀ v, v ∈ vs → okR ob v := by
  induction vs with
  | nil => intro v hv; cases hv
  | cons x r ih => intro v hv; exact (List.mem_cons.1 hv).elim (fun e => e ▸ h.1) (fun hv => ih h.2 v hv)

omit hm hρ hF hid hob in
theorem fitAll_cell {n : Nat} {qs : List (Nat × List V)} (h : fitAll n qs = true) : ∀ q, q ∈ qs → q.2.all V.cell = true := by
  induction qs with
  | nil => intro q hq; cases hq
  | cons p r ih =>
    obtain ⟨k, vs⟩ := p
    simp only [fitAll, Bool.and_eq_true] at h
    intro q hq
    rcases List.mem_cons.1 hq with rfl | hq
    · exact h.1.2
    · exact ih h.2 q hq

omit hid hob in
theorem s_bld {t : TypeId} {ps : Array (Nat × Operand)} {qs : List (Nat × Nat × X)} {fs : Array Field} {sz by_ : Nat} {z : List V} (hop : o.op = .build t ps) (ht : P.underlying t = some (.struct fs)) (hty : tyOf P t = some (sz, by_, z))
    (hfs : (fs.toList.mapM (fun f => (P.info? f.type).map fun i => (f.offset, i.size))).isSome = true) (hq : cParts P fs ps.toList = some qs)
    (h : ev (fun _ _ _ => False) (fun _ _ _ => False) ρ ob id R (.bld z qs)) : o.wp P a w K Q := by
  obtain ⟨i, v, hi, hz, hs, hb, rfl, hvs, hpos, hall⟩ := tyOf_some hty
  simp only [ev] at h
  obtain ⟨⟨hok, hfit, hsz⟩, hR⟩ := h
  obtain ⟨hl, hqs⟩ := cParts_some hq
  obtain ⟨H1, hext, hm1, hfr, _⟩ := hm.freeze (onlyFrz_flat (ob := ob) qs (fun p => ρ p.2.2))
  obtain ⟨places, hpl⟩ := Option.isSome_iff_exists.1 hfs
  have hplace : ∀ (k : Nat) (f : Field) (ti : TypeInfo), fs[k]? = some f → P.info? f.type = some ti → places[k]? = some (f.offset, ti.size) := fun k f ti h1 h2 => by
    rw [show fs[k]? = fs.toList[k]? from (Array.getElem?_toList).symm] at h1
    obtain ⟨y, hy, hk⟩ := mapM_get _ _ _ hpl k f h1
    simp only [h2, Option.map_some, Option.some.injEq] at hy
    rw [hk, ← hy]
  have key := fill_rep (w := w) (H := H1) (fun k => places.toArray[k]?) (ps.toList.map fun p => (p.1, a.eval p.2)) (qs.map fun p => (p.1, (rd ob 1 (ρ p.2.2)).cells)) v.cells (v.cells.toList.map cS) (by simpa using hl)
    (fun j p q hp hq' => by
      simp only [List.getElem?_map, Option.map_eq_some_iff] at hp hq'
      obtain ⟨p0, hp0, rfl⟩ := hp
      obtain ⟨q0, hq0, rfl⟩ := hq'
      obtain ⟨hx, f, ti, hf, hti, e1, e2⟩ := hqs j p0 q0 hp0 hq0
      have hmem : q0 ∈ qs := List.mem_of_getElem? hq0
      have hcell := fitAll_cell hfit (q0.1, (rd ob 1 (ρ q0.2.2)).cells) (List.mem_map.2 ⟨q0, hmem, rfl⟩)
      have hlen := List.all_eq_true.1 hsz q0 hmem
      simp only [beq_iff_eq] at hlen
      have hrd := rd_rep hm (sz := 1) (by decide) (hρ _ _ hx) (okRs_get hok _ (List.mem_map.2 ⟨q0, hmem, rfl⟩)) (ok_of_cells hcell) hext.hH (fun k y u b h1 h2 h3 => hfr k y u b (List.mem_flatMap.2 ⟨q0, hmem, h1⟩) h2 h3)
      refine ⟨ti.size, ?_, by rw [hlen, e2], cells_rep hrd hcell⟩
      have := hplace p0.1 f ti hf hti
      simp only [e1]
      simpa using this) (repAll_cS _) (by simpa using hfit)
  obtain ⟨out, hfill, hrep⟩ := key
  have hbuilt : P.built t (ps.map fun (i, x) => (i, a.eval x)).toList = some out := by
    unfold Program.built
    simp only [hi, ht, hz, hpl]
    simpa using hfill
  unfold Oper.wp
  have : (execOp a.eval o).run P w = .ok (.value (.agg out)) w := by
    simp [execOp, hop, run_build w t _ out hbuilt]
  rw [this]
  have hg : Rep0 w H1 (.agg out) (.g (setAll (v.cells.toList.map cS) (qs.map fun p => (p.1, (rd ob 1 (ρ p.2.2)).cells)))) := by
    have := Rep0.g (w := w) (H := H1) out.toList _ hrep.1 hrep.2
    simpa using this
  exact hF _ _ _ w H1 ov hR hext (fun _ _ h => h) hm1 (.up hg)

omit hm hρ hF hid hob in
theorem cPartsL_some : ∀ {ps : List (Nat × Operand)} {qs : List (Nat × X)}, cPartsL ps = some qs →
    ps.length = qs.length ∧ ∀ (j : Nat) (p : Nat × Operand) (q : Nat × X), ps[j]? = some p → qs[j]? = some q → cX p.2 = some q.2 ∧ p.1 = q.1
  | [], qs, h => by simp [cPartsL] at h; subst h; exact ⟨rfl, fun j p q h => by simp at h⟩
  | (i, x) :: r, qs, h => by
    unfold cPartsL at h
    split at h
    · rename_i x' r' hx hr
      cases h
      obtain ⟨h1, h2⟩ := cPartsL_some hr
      refine ⟨by simp [h1], fun j p q hp hq => ?_⟩
      cases j with
      | zero => simp at hp hq; subst hp; subst hq; exact ⟨hx, rfl⟩
      | succ j => exact h2 j p q (by simpa using hp) (by simpa using hq)
    · cases h

omit hm hρ hF hid hob in
theorem mod_flat {α : Type} (z : List α) (hz : 0 < z.length) : ∀ (n i : Nat), i < n * z.length → ((List.replicate n z).flatten)[i]? = z[i % z.length]?
  | 0, i, h => by simp at h
  | n + 1, i, h => by
    rw [List.replicate_succ, List.flatten_cons]
    by_cases hi : i < z.length
    · rw [List.getElem?_append_left hi, Nat.mod_eq_of_lt hi]
    · rw [List.getElem?_append_right (by omega), mod_flat z hz n (i - z.length) (by rw [Nat.add_mul, Nat.one_mul] at h; omega)]
      congr 1
      conv => rhs; rw [show i = i - z.length + z.length from by omega, Nat.add_mod_right]

omit hm hρ hF hid hob in
theorem flat_len {α : Type} (z : List α) (n : Nat) : ((List.replicate n z).flatten).length = n * z.length := by simp [List.length_flatten, List.map_replicate, List.sum_replicate_nat]

omit hm hρ hF hid hob in
/-- zero cells, again and again -/
theorem made_rep (z : Array Value) (hz : 0 < z.size) (n : Nat) : RepAll w H (madeCells z (n * z.size)).toList ((List.replicate n (z.toList.map cS)).flatten) := by
  refine ⟨by simp [size_madeCells, flat_len], fun j v x h1 h2 => ?_⟩
  have hj : j < n * z.size := by
    have := (List.getElem?_eq_some_iff.1 h1).1
    simpa [size_madeCells] using this
  rw [mod_flat _ (by simpa using hz) n j (by simpa using hj)] at h2
  simp only [List.length_map, Array.length_toList, List.getElem?_map] at h2
  have hm' : j % z.size < z.size := Nat.mod_lt _ hz
  simp only [madeCells] at h1
  rw [Array.getElem?_toList, Array.getElem?_map, Array.getElem?_range] at h1
  simp only [hj, if_true, Option.map_some, Option.some.injEq] at h1
  rw [getElem!_pos z _ hm'] at h1
  rw [Array.getElem?_toList, Array.getElem?_eq_getElem hm'] at h2
  simp only [Option.map_some, Option.some.injEq] at h2
  subst h1; subst h2
  exact rep_cS _

theorem s_mk {t e : TypeId} {l c : Operand} {l' c' : X} {sz by_ : Nat} {z : List V} (hop : o.op = .makeSlice t l c) (ht : P.underlying t = some (.slice e)) (hty : tyOf P e = some (sz, by_, z)) (hl : cX l = some l') (hc : cX c = some c')
    (h : ev (fun _ _ _ => False) (fun _ _ _ => False) ρ ob id R (.mk e sz by_ z l' c')) : o.wp P a w K Q := by
  obtain ⟨i, v, hi, hz, hs, hb, rfl, hvs, hpos, hall⟩ := tyOf_some hty
  have h1 := hρ l l' hl
  have h2 := hρ c c' hc
  simp only [ev] at h
  cases hv : ρ l' <;> rw [hv] at h h1 <;> (try simp only [] at h)
  case i k n =>
    cases hu : ρ c' <;> rw [hu] at h h2 <;> (try simp only [] at h)
    case i k' m =>
      obtain ⟨⟨h0, hnm, hbytes, hbig⟩, hR⟩ := h
      have hbytes' : (i.bytes : Int) * m ≤ 281474976710656 := by rw [hb, Int.mul_comm]; exact hbytes
      have hr := run_make (P := P) w t e i v ht hi hz k k' n m h0 hnm hbytes' (by omega)
      rw [hs] at hr
      have hBl : Below w.heap.size w (w.alloc (.cells (madeCells v.cells (m.toNat * sz)) e)) := (Below.refl _ _).alloc (Nat.le_refl _) _
      have hmx : m.toNat ≤ maxLen := by unfold maxLen; omega
      have hnle : n.toNat ≤ m.toNat := by omega
      have hown : (w.alloc (.cells (madeCells v.cells (m.toNat * sz)) e)).ownsRow w0.heap.size e sz (.slice (some ⟨w.heap.size, 0, none⟩) n.toNat m.toNat) n.toNat ((madeCells v.cells (m.toNat * sz)).toList.take (n.toNat * sz)) := by
        refine ⟨?_, .inr ⟨w.heap.size, m.toNat, _, rfl, hm.bel.size, heap_alloc_new w _, hnle, hmx, size_madeCells _ _, rfl⟩⟩
        rw [List.length_take, Array.length_toList, size_madeCells]
        exact Nat.min_eq_left (Nat.mul_le_mul_right _ hnle)
      have hra : RepAll (w.alloc (.cells (madeCells v.cells (m.toNat * sz)) e)) H ((madeCells v.cells (m.toNat * sz)).toList.take (n.toNat * sz)) ((List.replicate n.toNat (v.cells.toList.map cS)).flatten) := by
        have hfull := made_rep (w := w.alloc (.cells (madeCells v.cells (m.toNat * sz)) e)) (H := H) v.cells (by omega) n.toNat
        rw [hvs] at hfull
        have e1 : (madeCells v.cells (m.toNat * sz)).toList.take (n.toNat * sz) = (madeCells v.cells (n.toNat * sz)).toList := by
          apply List.ext_getElem?
          intro j
          have hmul := Nat.mul_le_mul_right sz hnle
          by_cases hj : j < n.toNat * sz
          · rw [List.getElem?_take, if_pos hj]
            simp [madeCells, hj, show j < m.toNat * sz by omega]
          · rw [List.getElem?_take, if_neg hj, List.getElem?_eq_none (by simp [size_madeCells]; omega)]
        rw [e1]
        exact hfull
      have hcl : ∀ x, x ∈ (List.replicate n.toNat (v.cells.toList.map cS)).flatten → x.cell = true := fun x hx => by
        obtain ⟨l, hl, hx⟩ := List.mem_flatten.1 hx
        rw [List.eq_of_mem_replicate hl] at hx
        exact cell_of_all hall x hx
      have hor := ObRep.row hown hpos hra hcl (by omega) (fun b hb h => by cases hb; exact absurd (hm.Hlt _ h) (Nat.lt_irrefl _))
      obtain ⟨hext, hm'⟩ := hm.add hid hob hBl hor (fun b hb => by cases hb; exact Nat.le_refl _)
      unfold Oper.wp
      have : (execOp a.eval o).run P w = .ok (.value (.slice (some ⟨w.heap.size, 0, none⟩) n.toNat m.toNat)) (w.alloc (.cells (madeCells v.cells (m.toNat * sz)) e)) := by
        simp [execOp, hop, h1.inv_i, h2.inv_i, hr]
      rw [this]
      exact hF _ _ _ _ H _ hR hext setOv_none hm' (rep_ow hown (by omega) (setOv_same _ _))

theorem s_bsl {t e : TypeId} {n : Nat} {ps : Array (Nat × Operand)} {qs : List (Nat × X)} {sz by_ : Nat} {z : List V} (hop : o.op = .buildSlice t n ps) (ht : P.underlying t = some (.slice e)) (hty : tyOf P e = some (sz, by_, z)) (hq : cPartsL ps.toList = some qs) (hn : n * sz ≤ 65536)
    (h : ev (fun _ _ _ => False) (fun _ _ _ => False) ρ ob id R (.bsl e sz n ((List.replicate n z).flatten) qs)) : o.wp P a w K Q := by
  obtain ⟨i, v, hi, hz, hs, hb, rfl, hvs, hpos, hall⟩ := tyOf_some hty
  simp only [ev] at h
  obtain ⟨⟨hok, hfit, hsz⟩, hR⟩ := h
  obtain ⟨hl, hqs⟩ := cPartsL_some hq
  obtain ⟨H1, hext, hm1, hfr, hfr'⟩ := hm.freeze (onlyFrz_flat (ob := ob) qs (fun p => ρ p.2))
  have hmade : RepAll w H1 (madeCells v.cells (n * sz)).toList ((List.replicate n (v.cells.toList.map cS)).flatten) := by
    have := made_rep (w := w) (H := H1) v.cells (by omega) n
    rw [hvs] at this; exact this
  have key := fill_rep (w := w) (H := H1) (fun k => some (k * sz, sz)) (ps.toList.map fun p => (p.1, a.eval p.2)) (qs.map fun p => (p.1 * sz, (rd ob 1 (ρ p.2)).cells)) (madeCells v.cells (n * sz)) _ (by simpa using hl)
    (fun j p q hp hq' => by
      simp only [List.getElem?_map, Option.map_eq_some_iff] at hp hq'
      obtain ⟨p0, hp0, rfl⟩ := hp
      obtain ⟨q0, hq0, rfl⟩ := hq'
      obtain ⟨hx, e1⟩ := hqs j p0 q0 hp0 hq0
      have hmem : q0 ∈ qs := List.mem_of_getElem? hq0
      have hcell := fitAll_cell hfit (q0.1 * sz, (rd ob 1 (ρ q0.2)).cells) (List.mem_map.2 ⟨q0, hmem, rfl⟩)
      have hlen := List.all_eq_true.1 hsz q0 hmem
      simp only [beq_iff_eq] at hlen
      have hrd := rd_rep hm (sz := 1) (by decide) (hρ _ _ hx) (okRs_get hok _ (List.mem_map.2 ⟨q0, hmem, rfl⟩)) (ok_of_cells hcell) hext.hH (fun k y u b h1 h2 h3 => hfr k y u b (List.mem_flatMap.2 ⟨q0, hmem, h1⟩) h2 h3)
      exact ⟨sz, by simp [e1], hlen, cells_rep hrd hcell⟩) hmade hfit
  obtain ⟨out, hfill, hrep⟩ := key
  have hlen : out.size = n * sz := by
    have h1 := hrep.1
    have h2 : ∀ (qs : List (Nat × List V)) (cs : List V), (setAll cs qs).length = cs.length := fun qs => by
      induction qs with
      | nil => intro cs; rfl
      | cons p r ih => intro cs; obtain ⟨k, vs⟩ := p; rw [setAll, ih, setAt_length]
    rw [h2, flat_len] at h1
    simp only [Array.length_toList, List.length_map] at h1
    rw [h1, hvs]
  have hcl : ∀ x, x ∈ setAll ((List.replicate n (v.cells.toList.map cS)).flatten) (qs.map fun p => (p.1 * sz, (rd ob 1 (ρ p.2)).cells)) → x.cell = true := by
    have gen : ∀ (qs : List (Nat × List V)) (cs : List V), (∀ x, x ∈ cs → x.cell = true) → (∀ q, q ∈ qs → q.2.all V.cell = true) → ∀ x, x ∈ setAll cs qs → x.cell = true := fun qs => by
      induction qs with
      | nil => intro cs h _ x hx; exact h x hx
      | cons p r ih =>
        intro cs h h' x hx
        obtain ⟨k, vs⟩ := p
        exact ih _ (setAt_mem _ vs cs k h (cell_of_all (h' _ List.mem_cons_self))) (fun q hq => h' q (List.mem_cons_of_mem _ hq)) x hx
    refine gen _ _ (fun x hx => ?_) (fitAll_cell hfit)
    obtain ⟨l, hl, hx⟩ := List.mem_flatten.1 hx
    rw [List.eq_of_mem_replicate hl] at hx
    exact cell_of_all hall x hx
  have hBl : Below w.heap.size w (w.alloc (.cells out e)) := (Below.refl _ _).alloc (Nat.le_refl _) _
  have hnm : n ≤ maxLen := by
    have : n ≤ n * sz := Nat.le_mul_of_pos_right n hpos
    unfold maxLen; omega
  have hown := World.ownsRow_lit (base := w0.heap.size) (e := e) (size := sz) w out n hm1.bel.size hnm hlen
  have hra : RepAll (w.alloc (.cells out e)) H1 out.toList _ := hrep.mono (fun _ h => h) (fun b hb => hBl.block b (hm1.Hlt b hb))
  have hor := ObRep.row hown hpos hra hcl hnm (fun b hb h => by cases hb; exact absurd (hm1.Hlt _ h) (Nat.lt_irrefl _))
  have hob1 : upd ob (qs.flatMap fun p => frz ob (ρ p.2)) id = none := by
    rcases upd_cases (ob := ob) (qs.flatMap fun p => frz ob (ρ p.2)) id with ⟨e1, _⟩ | h'
    · rw [e1]; exact hob
    · obtain ⟨o', h1, _⟩ := onlyFrz_flat (ob := ob) qs (fun p => ρ p.2) _ _ h'
      rw [hob] at h1; cases h1
  obtain ⟨hext2, hm'⟩ := hm1.add hid hob1 hBl hor (fun b hb => by cases hb; exact Nat.le_refl _)
  rw [upd_upd] at hm'
  unfold Oper.wp
  have : (execOp a.eval o).run P w = .ok (.value (.slice (some ⟨w.heap.size, 0, none⟩) n n)) (w.alloc (.cells out e)) := by
    have hn2 : ¬ (2 ^ 24 < n * sz) := by omega
    have hf2 : Instr.fill (fun i => some (i * sz, sz)) (madeCells v.cells (n * sz)) (ps.toList.map fun p => (p.1, a.eval p.2)) = some out := hfill
    by_cases h0 : n * sz = 0
    · have e0 : madeCells v.cells (n * sz) = #[] := by rw [h0]; simp [madeCells, Array.range_zero']
      rw [e0] at hf2
      simp [execOp, hop, Instr.buildSlice, run_underlying ht, sizeOf, typeInfo, hi, hs, newRow, hf2, h0, Array.range_zero']
    · simp only [madeCells] at hf2
      simp [execOp, hop, Instr.buildSlice, run_underlying ht, sizeOf, typeInfo, hi, hs, newRow, zeroValue, hz, h0, hn2, hf2]
  rw [this]
  exact hF _ _ _ _ H1 _ hR (hext.trans hext2) setOv_none hm' (rep_ow hown hnm (setOv_same _ _))

theorem s_bx {e : TypeId} {x : Operand} {x' : X} (hop : o.op = .box e x) (hx : cX x = some x')
    (h : ev (fun _ _ _ => False) (fun _ _ _ => False) ρ ob id R (.bx e x')) : o.wp P a w K Q := by
  have h2 := hρ x x' hx
  obtain ⟨⟨hok, hall⟩, hR⟩ := h
  obtain ⟨H1, hext, hm1, hfr, _⟩ := hm.freeze (onlyFrz_frz (ob := ob) (ρ x'))
  have hrd := rd_rep hm (sz := 1) (by decide) h2 hok (ok_of_cells hall) hext.hH hfr
  have hcells := cells_rep hrd hall
  have hob1 : upd ob (frz ob (ρ x')) id = none := by
    rcases upd_cases (ob := ob) (frz ob (ρ x')) id with ⟨e1, _⟩ | h'
    · rw [e1]; exact hob
    · obtain ⟨o', h1, _⟩ := onlyFrz_frz (ob := ob) (ρ x') _ _ h'
      rw [hob] at h1; cases h1
  have hBl : Below w.heap.size w (w.alloc (.cells (a.eval x).cells e)) := (Below.refl _ _).alloc (Nat.le_refl _) _
  have hra : RepAll (w.alloc (.cells (a.eval x).cells e)) H1 (a.eval x).cells.toList _ := hcells.mono (fun _ h => h) (fun b hb => hBl.block b (hm1.Hlt b hb))
  have hor : ObRep (w.alloc (.cells (a.eval x).cells e)) H1 w0.heap.size (.pointer (some ⟨w.heap.size, 0, none⟩)) { e := e, sz := (rd ob 1 (ρ x')).cells.length, cs := (rd ob 1 (ρ x')).cells, mu := true, isv := true } :=
    ⟨cell_of_all hall, fun b hb => ⟨fun h => by cases hb; exact absurd (hm1.Hlt _ h) (Nat.lt_irrefl _), fun h => by cases h⟩, .inl ⟨rfl, w.heap.size, (a.eval x).cells, rfl, hm.bel.size, heap_alloc_new w _, hra⟩⟩
  obtain ⟨hext2, hm'⟩ := hm1.add hid hob1 hBl hor (fun b hb => by cases hb; exact Nat.le_refl _)
  rw [upd_upd] at hm'
  unfold Oper.wp
  have : (execOp a.eval o).run P w = .ok (.value (.pointer (some ⟨w.heap.size, 0, none⟩))) (w.alloc (.cells (a.eval x).cells e)) := by
    simp [execOp, hop, Instr.box, newVar, newRow]
  rw [this]
  exact hF _ _ _ _ H1 _ hR (hext.trans hext2) setOv_none hm' (.pt id 0 w.heap.size _ (setOv_same _ _) rfl)
end ops
end Go.Proofs.Ytngohbpgdeiodaa.Ab
