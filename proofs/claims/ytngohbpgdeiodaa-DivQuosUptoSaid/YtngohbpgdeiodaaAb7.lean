/-
  The abstract layer: append, calls; all operations joined.
-/
import Derived.Test.YtngohbpgdeiodaaAb6
import Derived.Lib.ConvBytes
import Derived.Laws.StructEq
import Derived.Laws.IdiomStrings
import Derived.ChangeKeysEq
namespace Go.Proofs.Ytngohbpgdeiodaa.Ab
set_option linter.unusedSimpArgs false
set_option linter.unusedVariables false
open Go Go.RowKit

section
variable {P : Program} {w0 w : World} {H0 : Nat → Prop} {H : Nat → Prop} {ov : Nat → Option Value} {ob : Nat → Option Ob}

/-- append, with the word where its row lies. -/
theorem app_run (B : Nat) (t ty e : TypeId) (i : TypeInfo) (z : Value) (size bytes : Nat) (ht : P.underlying t = some (.slice e)) (hi : P.info? e = some i) (hz : i.zero = some z)
    (hsize : i.size = size) (hby : i.bytes = bytes) (hzs : z.cells.size = size) (hsz : 0 < size) (v : Value) (n : Nat) (xs : List Value) (hown : w.ownsRow B e size v n xs)
    (ba : Option Addr) (m c : Nat) (news : List Value) (hl : news.length = m * size) (hnews : news = [] ∨ ∃ a, ba = some a ∧ ∀ (j : Nat) (u : Value), news[j]? = some u → w.cell? (a.add j) = some u) (h1 : ∀ u ∈ news, u.oneCell' = true)
    (h63 : n + m ≤ maxLen) (hbytes : (n + m) * bytes ≤ 140737488355328) (hbase : B ≤ w.heap.size) :
    ∃ v' w', (Builtin.append_ #[t, t] ty #[v, .slice ba m c]).run P w = .ok v' w' ∧ w'.ownsRow B e size v' (n + m) (xs ++ news) ∧ w.grownBy w' v.ownBlock ∧ (∀ b, blk v' = some b → blk v = some b ∨ w.heap.size ≤ b) := by
  cases ba with
  | none =>
    have hn : news = [] := by
      rcases hnews with h | ⟨a, h, _⟩
      · exact h
      · cases h
    subst hn
    have hm : m = 0 := by
      have h0 : m * size = 0 := by rw [← hl]; rfl
      rcases Nat.mul_eq_zero.1 h0 with h | h
      · exact h
      · omega
    subst hm
    refine ⟨v, w, ?_, by simpa using hown, ⟨rfl, rfl, rfl, Nat.le_refl _, fun _ _ _ => rfl⟩, fun b hb => .inl hb⟩
    rcases hown.2 with ⟨rfl, rfl⟩ | ⟨g, cap, cur, rfl, _, _, hnc, _⟩
    · simp [Builtin.append_, run_underlying ht, sizeOf, typeInfo, hi, Builtin.lenOf, Builtin.firstCells]
    · simp [Builtin.append_, run_underlying ht, sizeOf, typeInfo, hi, Builtin.lenOf, Builtin.firstCells, hnc, storeCells]
  | some a =>
    have hnews' : ∀ (j : Nat) (u : Value), news[j]? = some u → w.cell? (a.add j) = some u := by
      rcases hnews with rfl | ⟨a', h, h'⟩
      · intro j u h; simp at h
      · cases h; exact h'
    obtain ⟨v', w', hr, h2, h3, h4⟩ := run_append_own (P := P) w B t ty e i z size bytes ht hi hz hsize hby hzs hsz v n xs hown a m c news hl hnews' h1 h63 hbytes hbase
    refine ⟨v', w', hr, h2, h3, fun b hb => ?_⟩
    rcases hown.2 with ⟨rfl, rfl⟩ | ⟨g, cap, cur, rfl, hbg, hg, hnc, hcm, hcs, htake⟩
    · have hown' : w.ownsRow w.heap.size e size (.slice none 0 0) 0 xs := ⟨hown.1, .inl ⟨rfl, rfl⟩⟩
      obtain ⟨v2, w2, hr2, k2, _, _⟩ := run_append_own (P := P) w w.heap.size t ty e i z size bytes ht hi hz hsize hby hzs hsz _ 0 xs hown' a m c news hl hnews' h1 h63 hbytes (Nat.le_refl _)
      rw [hr] at hr2
      cases hr2
      exact .inr (k2.lt b (by
        rcases k2.2 with ⟨e1, _⟩ | ⟨g', cap', cur', e1, _⟩
        · rw [e1] at hb; cases hb
        · rw [e1] at hb ⊢; exact hb)).1
    · by_cases hroom : n + m ≤ cap
      · obtain ⟨w2, hr2, _⟩ := run_append_fits (P := P) w B t ty e i size ht hi hsize g n cap xs hown a m c news hl hnews' h1 hroom
        rw [hr] at hr2
        cases hr2
        exact .inl hb
      · have holds : ∀ (j : Nat) (u : Value), xs[j]? = some u → w.cell? ((⟨g, 0, none⟩ : Addr).add j) = some u := hown.cells (g := g) rfl
        have h63' : n + m ≤ 9223372036854775807 := by unfold maxLen at h63; omega
        have hr2 := run_append_grow (P := P) w t ty e i z ht hi hz ⟨g, 0, none⟩ n cap xs (by rw [hsize]; exact hown.1) holds a m c news (by rw [hsize]; exact hl) hnews' (by omega) (by omega) (growslice_fits (by omega) (by rw [hby]; exact hbytes))
        rw [hr] at hr2
        cases hr2
        cases hb
        exact .inr (Nat.le_refl _)

/-- The cells that a slice reads as, where it lies. -/
theorem rd_cells (hm : Mem w0 H0 w H ov ob) {v : Value} {x : V} {sz s : Nat} {xs : List V} (hsz : 0 < sz) (hr : Rep w H ov v x) (hok : okR ob x) (he : rd ob sz x = .l s xs) :
    ∃ ba m c us, v = .slice ba m c ∧ 0 < s ∧ xs.length = m * s ∧ (us = [] ∨ ∃ a, ba = some a ∧ ∀ (j : Nat) (u : Value), us[j]? = some u → w.cell? (a.add j) = some u) ∧ RepAll w H us xs := by
  have row : ∀ (j off n : Nat) (o : Ob) (u : Value) (ba : Option Addr) (cap : Nat), ob j = some o → o.isv = false → ov j = some u → v = .slice ba n cap → off + n * o.sz ≤ o.cs.length → (n = 0 ∨ ∃ b, blk u = some b ∧ ba = some ⟨b, off, none⟩) →
      o.sz = s → (o.cs.drop off).take (n * o.sz) = xs →
      ∃ ba m c us, v = .slice ba m c ∧ 0 < s ∧ xs.length = m * s ∧ (us = [] ∨ ∃ a, ba = some a ∧ ∀ (j : Nat) (u : Value), us[j]? = some u → w.cell? (a.add j) = some u) ∧ RepAll w H us xs := by
    intro j off n o u ba cap ho hisv hu hv hle ha e1 e2
    obtain ⟨u', hu', hor⟩ := hm.obj j o ho
    rw [hu] at hu'; cases hu'
    have hosz : 0 < o.sz := by
      rcases hor.bd with ⟨h, _⟩ | ⟨_, h, _⟩
      · rw [hisv] at h; cases h
      · exact h
    have hlen : xs.length = n * s := by rw [← e2, ← e1]; simp; omega
    rcases ha with rfl | ⟨b, hb, rfl⟩
    · refine ⟨ba, 0, cap, [], hv, e1 ▸ hosz, hlen, .inl rfl, ?_⟩
      have : xs = [] := List.eq_nil_of_length_eq_zero (by rw [hlen]; simp)
      subst this
      exact ⟨rfl, fun j v x h => by simp at h⟩
    · obtain ⟨us, h1, h2, h3⟩ := hm.row ho hle hu hb
      rw [e2] at h3
      exact ⟨_, n, cap, us, hv, e1 ▸ hosz, hlen, .inr ⟨_, rfl, fun j u h => by rw [Addr.add_lit]; exact h2 j u h⟩, h3⟩
  cases x with
  | ow s' j n =>
    obtain ⟨ba, cap, e1, ho, hml, hcp, ha⟩ := hr.inv_ow
    simp only [rd] at he
    cases hoj : ob j with
    | none => rw [hoj] at he; cases he
    | some o =>
      rw [hoj] at he
      simp only [] at he
      cases hv : o.isv with
      | true => rw [hv] at he; simp at he
      | false =>
        rw [hv] at he
        simp only [Bool.false_eq_true, if_false, V.l.injEq] at he
        obtain ⟨rfl, rfl⟩ := he
        obtain ⟨u', hu', hor⟩ := hm.obj j o hoj
        rw [ho] at hu'; cases hu'
        have hn : o.cs.length = n * o.sz := by
          rcases hor.bd with ⟨h, _⟩ | ⟨_, _, m, xs, hown, hra, _⟩
          · rw [hv] at h; cases h
          · have e : m = n := by
              rcases hown.2 with ⟨h, h'⟩ | ⟨g, cap', cur, h, _⟩
              · rw [e1] at h; cases h; exact h'
              · rw [e1] at h; cases h; rfl
            rw [← hra.1, hown.1, e]
        exact row j 0 n o v ba cap hoj hv ho e1 (by omega) (ha.imp (fun h => h) fun ⟨b, e⟩ => ⟨b, by rw [e1, e]; rfl, e⟩) rfl (by rw [List.drop_zero, ← hn, List.take_length])
  | sl s' j off n =>
    obtain ⟨ba, cap, u, e1, hml, hcp, ho, ha⟩ := hr.inv_sl
    simp only [rd] at he
    simp only [okR] at hok
    cases hoj : ob j with
    | none => rw [hoj] at hok; exact hok.elim
    | some o =>
      rw [hoj] at he hok
      simp only [] at he
      cases hv : o.isv with
      | true => rw [hv] at he; simp at he
      | false =>
        rw [hv] at he
        simp only [Bool.false_eq_true, if_false, V.l.injEq] at he
        obtain ⟨rfl, rfl⟩ := he
        exact row j off n o u ba cap hoj hv ho e1 hok ha rfl rfl
  | nl =>
    simp only [rd, V.l.injEq] at he
    obtain ⟨rfl, rfl⟩ := he
    exact ⟨none, 0, 0, [], hr.inv_nl, hsz, by simp, .inl rfl, rfl, fun j v x h => by simp at h⟩
  | l s' cs =>
    simp only [rd, V.l.injEq] at he
    obtain ⟨rfl, rfl⟩ := he
    obtain ⟨ba, n, cap, f, b, o, e1, hsz', hn, hml, hcp, ha, hc, hr'⟩ := hr.inv_l
    refine ⟨ba, n, cap, (List.range cs.length).map f, e1, hsz', hn, ?_, by simp, fun j u x h1 h2 => ?_⟩
    · rcases ha with rfl | ⟨e2, _⟩
      · exact .inl rfl
      · refine .inr ⟨_, e2, fun j u h => ?_⟩
        rw [Addr.add_lit]
        have hj : j < cs.length := by
          have := (List.getElem?_eq_some_iff.1 h).1
          simpa using this
        simp only [List.getElem?_map, List.getElem?_range hj, Option.map_some, Option.some.injEq] at h
        rw [hc j hj, h]
    · have hj : j < cs.length := (List.getElem?_eq_some_iff.1 h2).1
      simp only [List.getElem?_map, List.getElem?_range hj, Option.map_some, Option.some.injEq] at h1
      rw [← h1]
      exact hr' j x h2
  | _ => simp only [rd] at he; cases he

/-- A function's contract on abstract values: its results are new memory or lean on what was handed in. -/
def Res (w w' : World) (H : Nat → Prop) (v : Value) (r : V) : Prop :=
  ∃ N : Nat → Prop, (∀ b, N b → w.heap.size ≤ b ∧ b < w'.heap.size) ∧
    (Rep0 w' (fun b => H b ∨ N b) v r ∨
     (∃ e sz cs n xs, r = .o e sz cs ∧ 0 < sz ∧ w'.ownsRow w.heap.size e sz v n xs ∧ RepAll w' (fun b => H b ∨ N b) xs cs ∧ (∀ x, x ∈ cs → x.cell = true) ∧ n ≤ maxLen ∧ (∀ b, blk v = some b → ¬ N b)) ∨
     ∃ r', r = .fr r' ∧ Rep0 w' N v r')

def AFun (P : Program) (J : World → Prop) (f : FuncId) (args : List V) (r : V) : Prop :=
  ∀ (w : World) (H : Nat → Prop) (vs : List Value), J w → (∀ b, H b → b < w.heap.size) → RepAll w H vs args →
    Calls P f vs.toArray w fun e w' => ∃ v, e = .returned v ∧ Below w.heap.size w w' ∧ Res w w' H v r

/-- A function without a body, of the model's own. -/
def XFun (P : Program) (f : FuncId) (args : List V) (r : V) : Prop :=
  ∀ (w : World) (H : Nat → Prop) (ov : Nat → Option Value) (vs : List Value), vs.length = args.length → (∀ (j : Nat) (v : Value) (x : V), vs[j]? = some v → args[j]? = some x → Rep w H ov v x) →
    ∃ v, (callFunc f vs.toArray).run P w = .ok (.value v) w ∧ Rep w H ov v r

theorem flat_any {x : V} (h : (match x with | .i _ _ | .b _ | .s _ => false | _ => true) = false) {w' : World} {H' : Nat → Prop} {v : Value} (hr : Rep0 w H v x) : Rep0 w' H' v x := by
  cases x <;> simp at h <;> cases hr <;> first | exact .i _ _ | exact .b _ | exact .s _

theorem flat_list {cs : List V} (h : (cs.any fun x => match x with | .i _ _ | .b _ | .s _ => false | _ => true) = false) {w' : World} {H' : Nat → Prop} {vs : List Value} (hr : RepAll w H vs cs) : RepAll w' H' vs cs :=
  ⟨hr.1, fun j v x h1 h2 => flat_any (by
    have := List.any_eq_false.1 h x (List.mem_of_getElem? h2)
    cases x <;> simp_all) (hr.2 j v x h1 h2)⟩

theorem flat_rep {x : V} (h : x.hasL = false) {w' : World} {H' : Nat → Prop} {v : Value} (hr : Rep0 w H v x) : Rep0 w' H' v x := by
  cases x with
  | g cs => cases hr with | g vs cs hn hr => have := flat_list (w' := w') (H' := H') h ⟨hn, hr⟩; exact .g vs cs this.1 this.2
  | t cs => cases hr with | t vs cs hn hr => have := flat_list (w' := w') (H' := H') h ⟨hn, hr⟩; exact .t vs cs this.1 this.2
  | o e sz cs => cases hr
  | fr x => cases hr
  | i k n => cases hr; exact .i _ _
  | b x => cases hr; exact .b _
  | s l => cases hr; exact .s _
  | c v => cases hr; exact .c _
  | un => cases hr; exact .un
  | any => exact .any _
  | nl => cases hr; exact .nl
  | _ => simp [V.hasL] at h

/-- New immutable blocks. -/
theorem Mem.grow (hm : Mem w0 H0 w H ov ob) {w' : World} (hb : Below w.heap.size w w') {N : Nat → Prop} (hN : ∀ b, N b → w.heap.size ≤ b ∧ b < w'.heap.size) :
    Ext w H ov w' (fun b => H b ∨ N b) ov ∧ Mem w0 H0 w' (fun b => H b ∨ N b) ov ob := by
  obtain ⟨e1, m1⟩ := hm.step (row := none) (hm.bel.trans (hb.mono hm.bel.size)) hb.size (fun k hk _ => hb.block k hk) (fun _ _ => by simp) (fun _ _ h => h) (ob' := ob) (ov' := ov) (fun i o h => .inl ⟨h, fun _ _ _ _ => by simp⟩)
  refine ⟨⟨fun _ h => .inl h, e1.hw, e1.ho⟩, ⟨m1.bel, fun b h => h.elim (m1.Hlt b) (fun h => (hN b h).2), fun b h hb => h.elim (fun h => m1.low b h hb) (fun h => by have := (hN b h).1; have := hm.bel.size; omega), fun i o hi => ?_, m1.sep⟩⟩
  obtain ⟨u, hu, hr⟩ := m1.obj i o hi
  refine ⟨u, hu, hr.mono (fun _ h => .inl h) (fun _ _ => rfl) (fun _ _ => rfl) (fun b hbu h => h.elim id fun h => ?_)⟩
  obtain ⟨u', hu', hr'⟩ := hm.obj i o hi
  rw [hu] at hu'; cases hu'
  have := (hr'.lt hbu).2
  have := (hN b h).1
  omega

theorem Mem.ins (hm : Mem w0 H0 w H ov ob) {id : Nat} (hid : ov id = none) {v : Value} {o : Ob} (hr : ObRep w H w0.heap.size v o) (hd : ∀ j oj vj b, ob j = some oj → ov j = some vj → blk v = some b → blk vj ≠ some b) :
    Ext w H ov w H (setOv ov id v) ∧ Mem w0 H0 w H (setOv ov id v) (upd ob [(id, some o)]) := by
  refine hm.step (row := none) hm.bel (Nat.le_refl _) (fun _ _ _ => rfl) (fun _ _ => by simp) (setOv_keep hid) fun i oi hi => ?_
  by_cases e : i = id
  · subst e
    right
    simp only [upd, if_true, Option.some.injEq] at hi
    subst hi
    refine ⟨v, setOv_same i v, hr, fun j oj vj b hj hoj hvj hbv => ?_⟩
    simp only [upd, if_neg (fun e => hj e.symm : ¬ i = j)] at hoj
    obtain ⟨u, hu, _⟩ := hm.obj j oj hoj
    have := setOv_keep (v := v) hid j u hu
    rw [hvj] at this; cases this
    exact hd j oj _ b hoj hu hbv
  · left
    simp only [upd, if_neg (fun e' => e e'.symm : ¬ id = i)] at hi
    exact ⟨hi, fun _ _ _ _ => by simp⟩
end

section ops
variable {P : Program} {J : World → Prop} {w0 w : World} {H0 : Nat → Prop} {H : Nat → Prop} {ov : Nat → Option Value} {ob : Nat → Option Ob} {id : Nat} {ρ : X → V} {a : Act} {o : Oper} {K : Act → World → Prop} {Q : Exit → Act → World → Prop}
  {R : V → List (Nat × Option Ob) → Prop}
variable (hm : Mem w0 H0 w H ov ob) (hρ : ∀ p x, cX p = some x → Rep w H ov (a.eval p) (ρ x)) (hF : Fin w0 H0 w H ov ob id R a o.dst K) (hid : ov id = none) (hob : ob id = none)
include hm hρ hF hid hob

theorem s_app {t e : TypeId} {s x : Operand} {s' x' : X} {sz by_ : Nat} {z : List V} (hop : o.op = .call { callee := .builtin .append, args := #[s, x], argTypes := #[t, t] }) (ht : P.underlying t = some (.slice e)) (hty : tyOf P e = some (sz, by_, z)) (hs : cX s = some s') (hx : cX x = some x')
    (h : ev (fun _ _ _ => False) (fun _ _ _ => False) ρ ob id R (.app e sz by_ s' x')) : o.wp P a w K Q := by
  obtain ⟨i, zv, hi, hz, hsi, hb, rfl, hvs, hpos, hall⟩ := tyOf_some hty
  have h1 := hρ s s' hs
  have h2 := hρ x x' hx
  simp only [ev] at h
  have runop : ∀ v' w', (Builtin.append_ #[t, t] o.type #[a.eval s, a.eval x]).run P w = .ok v' w' → (execOp a.eval o).run P w = .ok (.value v') w' := fun v' w' hr => by
    simp [execOp, hop, resolve, invoke, builtin, hr]
  cases hv : ρ s' <;> rw [hv] at h h1 <;> (try simp only [] at h)
  case nl =>
    cases hu : rd ob sz (ρ x') <;> rw [hu] at h <;> (try simp only [] at h)
    case l s2 xs =>
      obtain ⟨⟨hok, rfl, hcl, hbytes, hbig⟩, hR⟩ := h
      obtain ⟨ba, m, c, us, e1, hs2, hlen, hcells, hra⟩ := rd_cells hm hpos h2 hok hu
      have hm' : xs.length / s2 = m := by rw [hlen, Nat.mul_div_cancel _ hs2]
      rw [hm'] at hbytes hbig hR
      have hown : w.ownsRow w.heap.size e s2 (.slice none 0 0) 0 [] := World.ownsRow_nil _ _ _ _
      have hone : ∀ u ∈ us, u.oneCell' = true := fun u hu => by
        obtain ⟨k, hk, rfl⟩ := List.getElem_of_mem hu
        have hk' : k < xs.length := by rw [← hra.1]; exact hk
        exact (hra.2 k _ _ (List.getElem?_eq_getElem hk) (List.getElem?_eq_getElem hk')).oneCell (cell_of_all hcl _ (List.getElem_mem hk'))
      obtain ⟨v', w', hr, ho2, hg, hblk⟩ := app_run (P := P) w.heap.size t o.type e i zv s2 by_ ht hi hz hsi hb hvs hs2 _ 0 [] hown ba m c us (by rw [hra.1, hlen]) hcells hone (by unfold maxLen; omega) (by rw [Nat.zero_add]; omega) (Nat.le_refl _)
      rw [Nat.zero_add, List.nil_append] at ho2
      have hBl : Below w.heap.size w w' := ⟨hg.os, hg.tape, hg.output, hg.size, fun k hk => hg.block k hk (by simp [Value.ownBlock])⟩
      have ho3 : w'.ownsRow w0.heap.size e s2 v' m us := by
        refine ⟨ho2.1, ho2.2.imp (fun h => h) fun ⟨g, cap, cur, e1, hb1, r⟩ => ⟨g, cap, cur, e1, Nat.le_trans hm.bel.size hb1, r⟩⟩
      have hra' : RepAll w' H us xs := hra.mono (fun _ h => h) (fun b hb => hBl.block b (hm.Hlt b hb))
      have hnew : ∀ b, blk v' = some b → w.heap.size ≤ b := fun b hb => by
        rcases hblk b hb with h | h
        · cases h
        · exact h
      have hor := ObRep.row ho3 hs2 hra' (cell_of_all hcl) (by unfold maxLen; omega) (fun b hb h => by have := hnew b hb; have := hm.Hlt b h; omega)
      obtain ⟨hext, hm2⟩ := hm.add hid hob hBl hor hnew
      unfold Oper.wp
      rw [runop v' w' (by rw [h1.inv_nl, e1]; exact hr)]
      exact hF _ _ _ _ H _ hR hext setOv_none hm2 (rep_ow ho3 (by unfold maxLen; omega) (setOv_same _ _))
  case ow s1 j n =>
    cases hu : rd ob sz (ρ x') <;> rw [hu] at h <;> (try simp only [] at h)
    case l s2 xs =>
      cases hoj : ob j with
      | none => rw [hoj] at h; exact h.elim
      | some oo =>
        rw [hoj] at h
        obtain ⟨⟨hok, rfl, rfl, he, hosz, hmu, hisv, hcl, hbytes, hbig⟩, hR⟩ := h
        obtain ⟨ba0, cap0, e0, hoj2, hml, hcp, ha⟩ := h1.inv_ow
        obtain ⟨ba, m, c, us, e1, hs2, hlen, hcells, hra⟩ := rd_cells hm hpos h2 hok hu
        have hm' : xs.length / s2 = m := by rw [hlen, Nat.mul_div_cancel _ hs2]
        rw [hm'] at hbytes hbig hR
        obtain ⟨vj, hvj, hor⟩ := hm.obj j oo hoj
        rw [hoj2] at hvj; cases hvj
        have hnH : ∀ b, blk (a.eval s) = some b → ¬ H b := fun b hb h => by have := (hor.fz b hb).1 h; rw [hmu] at this; cases this
        rcases hor.bd with ⟨h', _⟩ | ⟨_, _, n', xs0, hown, hra0, hn0⟩
        · rw [hisv] at h'; cases h'
        · rw [he, hosz] at hown
          have en : n' = n := by
            rcases hown.2 with ⟨h, h'⟩ | ⟨g, cap', cur, h, _⟩
            · rw [e0] at h; cases h; exact h'
            · rw [e0] at h; cases h; rfl
          subst en
          have hone : ∀ u ∈ us, u.oneCell' = true := fun u hu => by
            obtain ⟨k, hk, rfl⟩ := List.getElem_of_mem hu
            have hk' : k < xs.length := by rw [← hra.1]; exact hk
            exact (hra.2 k _ _ (List.getElem?_eq_getElem hk) (List.getElem?_eq_getElem hk')).oneCell (cell_of_all hcl _ (List.getElem_mem hk'))
          obtain ⟨v', w', hr, ho2, hg, hblk⟩ := app_run (P := P) w0.heap.size t o.type e i zv s2 by_ ht hi hz hsi hb hvs hs2 _ n' xs0 hown ba m c us (by rw [hra.1, hlen]) hcells hone (by unfold maxLen; omega) (by omega) hm.bel.size
          have hrow : ∀ k, (a.eval s).ownBlock = some k → blk (a.eval s) = some k := fun k hk => by
            rcases hown.2 with ⟨h, _⟩ | ⟨g, cap', cur, h, _⟩
            · rw [h] at hk; cases hk
            · rw [h] at hk ⊢; exact hk
          have hbel : Below w0.heap.size w0 w' := hm.bel.grown hg hm.bel.size (fun k hk => (hor.lt (hrow k hk)).1)
          have hHrow : ∀ b, H b → some b ≠ (a.eval s).ownBlock := fun b hb e => hnH b (hrow b e.symm) hb
          have hw : ∀ b, H b → w'.heap[b]? = w.heap[b]? := fun b hb => hg.block b (hm.Hlt b hb) (hHrow b hb)
          have hra' : RepAll w' H (xs0 ++ us) (oo.cs ++ xs) := by
            have k0 := hra0.mono (w' := w') (fun _ h => h) hw
            have k1 := hra.mono (w' := w') (fun _ h => h) hw
            refine ⟨by simp [k0.1, k1.1], fun jj v x h3 h4 => ?_⟩
            by_cases hlt : jj < xs0.length
            · rw [List.getElem?_append_left hlt] at h3
              rw [List.getElem?_append_left (by rw [← k0.1]; exact hlt)] at h4
              exact k0.2 jj v x h3 h4
            · rw [List.getElem?_append_right (by omega)] at h3
              rw [List.getElem?_append_right (by have := k0.1; omega), ← k0.1] at h4
              exact k1.2 _ v x h3 h4
          have hnH' : ∀ b, blk v' = some b → ¬ H b := fun b hb h => by
            rcases hblk b hb with h' | h'
            · exact hnH b h' h
            · have := hm.Hlt b h; omega
          have hor' : ObRep w' H w0.heap.size v' { oo with cs := oo.cs ++ xs } := by
            have := ObRep.row ho2 hs2 hra' (fun x hx => (List.mem_append.1 hx).elim (hor.cl x) (cell_of_all hcl x)) (by unfold maxLen; omega) hnH'
            rw [← he, ← hosz] at this
            have e4 : ({ oo with cs := oo.cs ++ xs } : Ob) = { e := oo.e, sz := oo.sz, cs := oo.cs ++ xs, mu := true, isv := false } := by cases oo; simp_all
            rw [e4]; exact this
          obtain ⟨hext, hm2⟩ := hm.step (row := (a.eval s).ownBlock) (ob' := upd ob [(j, none), (id, some { oo with cs := oo.cs ++ xs })]) (ov' := setOv ov id v') hbel hg.size (fun k hk hne => hg.block k hk hne) hHrow (setOv_keep hid) (fun q oq hq => by
            by_cases ej : j = q
            · simp [upd, ej] at hq
            · by_cases eid : id = q
              · right
                subst eid
                simp only [upd, if_neg ej, if_true, Option.some.injEq] at hq
                subst hq
                refine ⟨v', setOv_same _ _, hor', fun l ol vl b hl hol hvl hbv hbl => ?_⟩
                by_cases ej2 : j = l
                · simp [upd, ej2] at hol
                · simp only [upd, if_neg ej2, if_neg (fun e => hl e.symm : ¬ id = l)] at hol
                  obtain ⟨u, hu3, hur⟩ := hm.obj l ol hol
                  have e5 := setOv_keep (v := v') hid l u hu3
                  rw [hvl] at e5; cases e5
                  rcases hblk b hbv with h' | h'
                  · exact hm.sep j l oo ol _ _ b ej2 hoj hol hoj2 hu3 h' hbl
                  · have := (hur.lt hbl).2; omega
              · left
                simp only [upd, if_neg ej, if_neg eid] at hq
                refine ⟨hq, fun u b h3 h4 h5 => ?_⟩
                exact hm.sep j q oo oq _ u b ej hoj hq hoj2 h3 (hrow b h5.symm) h4)
          unfold Oper.wp
          rw [runop v' w' (by rw [e1]; exact hr)]
          exact hF _ _ _ _ H _ hR hext setOv_none hm2 (rep_ow ho2 (by unfold maxLen; omega) (setOv_same _ _))

omit hm hρ hF hid hob in
theorem cArgs_some : ∀ {ps : List (Operand × TypeId)} {qs : List (Nat × X)}, cArgs P ps = some qs →
    ps.length = qs.length ∧ ∀ (j : Nat) (p : Operand × TypeId) (q : Nat × X), ps[j]? = some p → qs[j]? = some q → cX p.1 = some q.2 ∧ 0 < q.1
  | [], qs, h => by simp [cArgs] at h; subst h; exact ⟨rfl, fun j p q h => by simp at h⟩
  | (x, t) :: r, qs, h => by
    unfold cArgs at h
    split at h
    · rename_i x' r' hx hr
      obtain ⟨h1, h2⟩ := cArgs_some hr
      split at h
      · split at h
        · rename_i sz _ _ hty
          cases h
          obtain ⟨_, _, _, _, _, _, _, _, hpos, _⟩ := tyOf_some hty
          refine ⟨by simp [h1], fun j p q hp hq => ?_⟩
          cases j with
          | zero => simp at hp hq; subst hp; subst hq; exact ⟨hx, hpos⟩
          | succ j => exact h2 j p q (by simpa using hp) (by simpa using hq)
        · cases h
      · cases h
        refine ⟨by simp [h1], fun j p q hp hq => ?_⟩
        cases j with
        | zero => simp at hp hq; subst hp; subst hq; exact ⟨hx, Nat.one_pos⟩
        | succ j => exact h2 j p q (by simpa using hp) (by simpa using hq)
    · cases h

omit hm hρ hF hid hob in
theorem cXs_some : ∀ {ps : List Operand} {qs : List X}, cXs ps = some qs → ps.length = qs.length ∧ ∀ (j : Nat) (p : Operand) (q : X), ps[j]? = some p → qs[j]? = some q → cX p = some q
  | [], qs, h => by simp [cXs] at h; subst h; exact ⟨rfl, fun j p q h => by simp at h⟩
  | x :: r, qs, h => by
    unfold cXs at h
    split at h
    · rename_i x' r' hx hr
      cases h
      obtain ⟨h1, h2⟩ := cXs_some hr
      refine ⟨by simp [h1], fun j p q hp hq => ?_⟩
      cases j with
      | zero => simp at hp hq; subst hp; subst hq; exact hx
      | succ j => exact h2 j p q (by simpa using hp) (by simpa using hq)
    · cases h

theorem s_call (hJ : J w) {c : Call} {f : FuncId} {fn : Func} {qs : List (Nat × X)} (hop : o.op = .call c) (hc : c.callee = .value (.func f)) (hf : P.funcs[f]? = some fn) (hname : (fn.name == "runtime.NumGoroutine") = false) (hbody : fn.body.isSome = true)
    (hsz : c.args.size = c.argTypes.size) (hq : cArgs P (c.args.toList.zip c.argTypes.toList) = some qs)
    (h : ev (AFun P J) (XFun P) ρ ob id R (.call f qs)) : o.wp P a w K Q := by
  simp only [ev] at h
  obtain ⟨⟨hok, hargs⟩, nn, r, hfun, hr⟩ := h
  obtain ⟨hl, hqs⟩ := cArgs_some hq
  have hl2 : c.args.toList.length = qs.length := by
    rw [← hl, List.length_zip]; simp [hsz]
  obtain ⟨H1, hext1, hm1, hfr, _⟩ := hm.freeze (onlyFrz_flat (ob := ob) qs (fun p => ρ p.2))
  have hreps : RepAll w H1 (c.args.toList.map a.eval) (qs.map fun p => rdb nn ob p.1 (ρ p.2)) := by
    refine ⟨by simpa using hl2, fun j v x h1 h2 => ?_⟩
    simp only [List.getElem?_map, Option.map_eq_some_iff] at h1 h2
    obtain ⟨p, hp, rfl⟩ := h1
    obtain ⟨q, hq', rfl⟩ := h2
    have hj : j < c.argTypes.toList.length := by
      have := (List.getElem?_eq_some_iff.1 hp).1
      simp at this ⊢; omega
    obtain ⟨hx, hpos⟩ := hqs j (p, c.argTypes.toList[j]) q (List.getElem?_zip_eq_some.2 ⟨hp, List.getElem?_eq_getElem hj⟩) hq'
    have hmem : q ∈ qs := List.mem_of_getElem? hq'
    have hq2 := hρ _ _ hx
    unfold rdb
    split
    · rename_i e; rw [e] at hq2; exact hq2.inv_nl ▸ .nl
    exact rd_rep hm hpos (hρ _ _ hx) (okRs_get hok _ (List.mem_map.2 ⟨q, hmem, rfl⟩)) (.inl (List.all_eq_true.1 hargs q hmem)) hext1.hH (fun k y u b h1 h2 h3 => hfr k y u b (List.mem_flatMap.2 ⟨q, hmem, h1⟩) h2 h3)
  have hcalls := hfun w H1 _ hJ (fun b hb => hm1.Hlt b hb) hreps
  have hob1 : upd ob (qs.flatMap fun p => frz ob (ρ p.2)) id = none := by
    rcases upd_cases (ob := ob) (qs.flatMap fun p => frz ob (ρ p.2)) id with ⟨e1, _⟩ | h'
    · rw [e1]; exact hob
    · obtain ⟨o', h1, _⟩ := onlyFrz_flat (ob := ob) qs (fun p => ρ p.2) _ _ h'
      rw [hob] at h1; cases h1
  unfold Oper.wp
  have hrun : (execOp a.eval o).run P w = .ok (.enter f (c.args.map a.eval)) w := by
    have hn : fn.name ≠ "runtime.NumGoroutine" := by simpa using hname
    have hb : ¬ (fn.body = none) := by intro e; rw [e] at hbody; cases hbody
    simp [execOp, hop, resolve, hc, Act.eval, Deferred.ofValue, invoke, callFunc, hf, hn, hb]
  rw [hrun, Oper.upon_enter]
  have hargsE : (c.args.toList.map a.eval).toArray = c.args.map a.eval := by
    apply Array.ext'; simp
  rw [hargsE] at hcalls
  refine hcalls.mono ?_
  rintro e w' ⟨v, rfl, hbel, N, hN, hres⟩
  show K (a.put o.dst v) w'
  -- either the result is new memory of the call's own, or it is immutable
  rcases hres with hres | ⟨e2, sz, cs, n, xs, rfl, hsz2, hown, hra, hcl, hnm, hnN⟩ | ⟨r', rfl, hres⟩
  rotate_left 2
  · obtain ⟨e3, m3⟩ := hm.grow hbel hN
    exact hF _ _ v w' _ ov hr e3 (fun _ _ h => h) m3 (.up (hres.mono (fun _ h => .inr h) (fun _ _ => rfl)))
  · have hr' : R r (if r.hasL then qs.flatMap fun p => frz ob (ρ p.2) else []) := by
      cases r with
      | o e sz cs => cases hres
      | fr r' => cases hres
      | _ => exact hr
    by_cases hL : r.hasL = true
    · rw [if_pos hL] at hr'
      obtain ⟨e3, m3⟩ := hm1.grow hbel hN
      exact hF _ _ v w' _ ov hr' (hext1.trans e3) (fun _ _ h => h) m3 (.up hres)
    · rw [if_neg hL] at hr'
      obtain ⟨e3, m3⟩ := hm.grow hbel (N := fun _ => False) (fun b h => h.elim)
      exact hF _ _ v w' _ ov hr' e3 (fun _ _ h => h) m3 (.up (flat_rep (by simpa using hL) hres))
  · simp only [] at hr
    obtain ⟨_, hR⟩ := hr
    have hne : cs.length / sz = n := by rw [← hra.1, hown.1, Nat.mul_div_cancel _ hsz2]
    rw [hne] at hR
    have hown0 : w'.ownsRow w0.heap.size e2 sz v n xs := ⟨hown.1, hown.2.imp (fun h => h) fun ⟨g, cap, cur, e1, hb1, r⟩ => ⟨g, cap, cur, e1, Nat.le_trans hm.bel.size hb1, r⟩⟩
    have hnew : ∀ b, blk v = some b → w.heap.size ≤ b := fun b hb => (hown.lt b (blk_own hown hb)).1
    by_cases hL : (V.o e2 sz cs).hasL = true
    · rw [if_pos hL] at hR
      obtain ⟨e3, m3⟩ := hm1.grow hbel hN
      have hor := ObRep.row hown0 hsz2 hra hcl hnm (fun b hb h => h.elim (fun h => by have := hm1.Hlt b h; have := hnew b hb; omega) (hnN b hb))
      obtain ⟨e4, m4⟩ := m3.ins hid hor (fun j oj vj b hoj hvj hbv hbj => by
        obtain ⟨u, hu, hur⟩ := hm1.obj j oj hoj
        rw [hvj] at hu; cases hu
        have := (hur.lt hbj).2; have := hnew b hbv; omega)
      rw [upd_upd] at m4
      exact hF _ _ v w' _ _ hR ((hext1.trans e3).trans e4) setOv_none m4 (rep_ow hown0 hnm (setOv_same _ _))
    · rw [if_neg hL] at hR
      obtain ⟨e3, m3⟩ := hm.grow hbel (N := fun _ => False) (fun b h => h.elim)
      have hra2 : RepAll w' (fun b => H b ∨ False) xs cs := flat_list (Bool.eq_false_iff.2 hL) hra
      have hor := ObRep.row hown0 hsz2 hra2 hcl hnm (fun b hb h => h.elim (fun h => by have := hm.Hlt b h; have := hnew b hb; omega) (fun h => h))
      obtain ⟨e4, m4⟩ := m3.ins hid hor (fun j oj vj b hoj hvj hbv hbj => by
        obtain ⟨u, hu, hur⟩ := hm.obj j oj hoj
        rw [hvj] at hu; cases hu
        have := (hur.lt hbj).2; have := hnew b hbv; omega)
      exact hF _ _ v w' _ _ hR (e3.trans e4) setOv_none m4 (rep_ow hown0 hnm (setOv_same _ _))

omit hid hob in
theorem s_xcall {c : Call} {f : FuncId} {qs : List X} (hop : o.op = .call c) (hc : c.callee = .value (.func f)) (hq : cXs c.args.toList = some qs)
    (h : ev (AFun P J) (XFun P) ρ ob id R (.xcall f qs)) : o.wp P a w K Q := by
  simp only [ev] at h
  obtain ⟨r, hfun, hr⟩ := h
  obtain ⟨hl, hqs⟩ := cXs_some hq
  obtain ⟨v, hrun, hrep⟩ := hfun w H ov (c.args.toList.map a.eval) (by simpa using hl) (fun j v x h1 h2 => by
    simp only [List.getElem?_map, Option.map_eq_some_iff] at h1 h2
    obtain ⟨p, hp, rfl⟩ := h1
    obtain ⟨q, hq', rfl⟩ := h2
    exact hρ _ _ (hqs j p q hp hq'))
  have hargsE : (c.args.toList.map a.eval).toArray = c.args.map a.eval := by
    apply Array.ext'; simp
  rw [hargsE] at hrun
  refine fin_same hm hF (cv := v) ?_ hrep hr
  simp [execOp, hop, resolve, hc, Act.eval, Deferred.ofValue, invoke, hrun]

omit hm hρ hF hid hob in
theorem toArray_of {α : Type} {xs : Array α} {l : List α} (h : xs.toList = l) : xs = l.toArray := by subst h; simp

omit hm hρ hF hid hob in
theorem elOf_some {t e : TypeId} (h : elOf P t = some e) : P.underlying t = some (.slice e) := by
  unfold elOf at h
  split at h
  · cases h; assumption
  · cases h

omit hid hob in
theorem s_cpy {t t' e : TypeId} {d x : Operand} {d' x' : X} {ti : TypeInfo} (hop : o.op = .call { callee := .builtin .copy, args := #[d, x], argTypes := #[t, t'] }) (ht : P.underlying t = some (.slice e)) (hi : P.info? e = some ti) (hpos : 0 < ti.size) (hd : cX d = some d') (hx : cX x = some x')
    (h : ev (fun _ _ _ => False) (fun _ _ _ => False) ρ ob id R (.cpy ti.size d' x')) : o.wp P a w K Q := by
  have h1 := hρ d d' hd
  have h2 := hρ x x' hx
  have h1' : Rep w H ov (a.eval d) (asSl (ρ d')) := by
    cases hv : ρ d' <;> rw [hv] at h1 <;> first | exact rep_ow_sl h1 | exact h1
  simp only [ev] at h
  have runop : ∀ v' w', (Builtin.copy_ #[t, t'] o.type #[a.eval d, a.eval x]).run P w = .ok v' w' → (execOp a.eval o).run P w = .ok (.value v') w' := fun v' w' hr => by
    simp [execOp, hop, resolve, invoke, builtin, hr]
  cases hv : asSl (ρ d') <;> rw [hv] at h h1' <;> (try simp only [] at h)
  case sl s1 j off m =>
    cases hu : rd ob ti.size (ρ x') <;> rw [hu] at h <;> (try simp only [] at h)
    case l s2 xs =>
      cases hoj : ob j with
      | none => rw [hoj] at h; exact h.elim
      | some oo =>
        rw [hoj] at h
        obtain ⟨⟨hok, rfl, rfl, hmu, hfit, hcl⟩, hR⟩ := h
        obtain ⟨da, dcap, u, e0, hml, hcp, hou, ha⟩ := h1'.inv_sl
        obtain ⟨ba, k, c, us, e1, hs2, hlen, hcells, hra⟩ := rd_cells hm hpos h2 hok hu
        rw [hlen, Nat.mul_div_cancel _ hs2] at hR
        have hys : xs.take (m * ti.size) = xs.take (min k m * ti.size) := by
          rcases Nat.le_total k m with hkm | hkm
          · rw [Nat.min_eq_left hkm, List.take_of_length_le (by rw [hlen]; exact Nat.mul_le_mul_right _ hkm), List.take_of_length_le (by rw [hlen]; exact Nat.le_refl _)]
          · rw [Nat.min_eq_right hkm]
        have hral : RepAll w H (us.take (min k m * ti.size)) (xs.take (m * ti.size)) := by
          rw [hys]
          simpa using hra.drop_take 0 (min k m * ti.size)
        have husl : (us.take (min k m * ti.size)).length = min k m * ti.size := by
          rw [List.length_take, hra.1, hlen, Nat.min_eq_left (Nat.mul_le_mul_right _ (Nat.min_le_left _ _))]
        have hload : (Builtin.firstCells ti.size (min k m) (.slice ba k c)).run P w = .ok (us.take (min k m * ti.size)).toArray w := by
          cases ba with
          | none =>
            have hus : us = [] := by
              rcases hcells with h | ⟨a0, h, _⟩
              · exact h
              · cases h
            subst hus
            simp [Builtin.firstCells]
          | some a0 =>
            have hc' : ∀ j v, (us.take (min k m * ti.size))[j]? = some v → w.cell? (a0.add j) = some v := by
              intro j v hj
              rcases hcells with h | ⟨a1, h, hh⟩
              · subst h; simp at hj
              · cases h
                rw [List.getElem?_take] at hj
                split at hj
                · exact hh j v hj
                · cases hj
            have := run_loadCells_list (P := P) w a0 _ hc'
            rw [husl] at this
            exact this
        have hqe : Nat.min k m = min k m := rfl
        generalize min k m = q at *
        by_cases hz : q = 0
        · subst hz
          have hxnil : xs.take (m * ti.size) = [] := by rw [hys, Nat.zero_mul]; rfl
          rw [Nat.zero_mul, List.take_zero] at hload
          have hrun : (Builtin.copy_ #[t, t'] o.type #[a.eval d, a.eval x]).run P w = .ok (goInt 0) w := by
            rw [e0, e1]
            cases da <;> simp [Builtin.copy_, run_underlying ht, Builtin.lenOf, sizeOf, typeInfo, hi, hqe, hload, storeCells]
          unfold Oper.wp
          rw [runop _ _ hrun]
          refine hF _ _ _ w H ov hR (Ext.refl _ _ _) (fun _ _ h => h) ?_ (.i _ _)
          have : upd ob [(j, some { oo with cs := setAt oo.cs off (xs.take (m * ti.size)) })] = ob := by
            funext i
            rw [hxnil]
            simp only [upd, setAt]
            split
            · rename_i e; subst e; exact hoj.symm
            · rfl
          rw [this]; exact hm
        · rcases ha with h0 | ⟨b, hb, rfl⟩
          · exact absurd (by rw [← hqe, h0]; exact Nat.min_eq_right (Nat.zero_le _)) hz
          · obtain ⟨w', hst, hext, hm2⟩ := hm.store (P := P) hoj hmu hou hb hral (fun x hx => cell_of_all hcl _ (List.mem_of_mem_take hx)) (Nat.le_trans (Nat.add_le_add_left (by rw [List.length_take]; exact Nat.min_le_left _ _) _) hfit)
            have hrun : (Builtin.copy_ #[t, t'] o.type #[a.eval d, a.eval x]).run P w = .ok (goInt q) w' := by
              rw [e0, e1]
              simp [Builtin.copy_, run_underlying ht, Builtin.lenOf, sizeOf, typeInfo, hi, hqe, hload, hst]
            unfold Oper.wp
            rw [runop _ _ hrun]
            exact hF _ _ _ w' H ov hR hext (fun _ _ h => h) hm2 (.i _ _)

theorem s_cCall (hJ : J w) {c : Call} {ao : AOp} (hop : o.op = .call c) (hc : cCall P c = some ao) (h : ev (AFun P J) (XFun P) ρ ob id R ao) : o.wp P a w K Q := by
  unfold cCall at hc
  split at hc
  · -- len
    rename_i hcal
    split at hc
    · rename_i x t hx ht
      have e : c = { callee := .builtin .len, args := #[x], argTypes := #[t] } := by
        obtain ⟨c1, c2, c3⟩ := c; simp only at hx ht hcal; rw [toArray_of hx, toArray_of ht, hcal]
      split at hc
      · rename_i x' hu hx'
        cases hc
        have h1 := hρ x x' hx'
        simp only [ev] at h
        cases hv : ρ x' <;> rw [hv] at h h1 <;> (try simp only [] at h)
        case s l => exact s_len_s hm hρ hF (e ▸ hop) hu hx' hv h
      · rename_i el x' hu hx'
        cases hc
        have h1 := hρ x x' hx'
        simp only [ev] at h
        cases hv : ρ x' <;> rw [hv] at h h1 <;> (try simp only [] at h)
        case l s cs =>
          obtain ⟨ba, n, cap, f, b, q, e1, hsz, hn, _⟩ := h1.inv_l
          rw [hn, Nat.mul_div_cancel _ hsz] at h
          exact s_len_l hm hF (e ▸ hop) hu hx' e1 h
        case ow s j n =>
          obtain ⟨ba, cap, e1, _⟩ := h1.inv_ow
          exact s_len_l hm hF (e ▸ hop) hu hx' e1 h
        case sl s j off n =>
          obtain ⟨ba, cap, u, e1, _⟩ := h1.inv_sl
          exact s_len_l hm hF (e ▸ hop) hu hx' e1 h
        case nl => exact s_len_l hm hF (e ▸ hop) hu hx' h1.inv_nl h
      · cases hc
    · cases hc
  · -- append
    rename_i hcal
    split at hc
    · rename_i s x t t' hx ht
      split at hc
      · rename_i e0
        subst e0
        have e : c = { callee := .builtin .append, args := #[s, x], argTypes := #[t, t] } := by
          obtain ⟨c1, c2, c3⟩ := c; simp only at hx ht hcal; rw [toArray_of hx, toArray_of ht, hcal]
        split at hc
        · rename_i el s' x' hel hs' hx'
          split at hc
          · rename_i sz by_ z hty
            cases hc
            have h' : ev (fun _ _ _ => False) (fun _ _ _ => False) ρ ob id R (.app el sz by_ s' x') := by simpa only [ev] using h
            exact s_app hm hρ hF hid hob (e ▸ hop) (elOf_some hel) hty hs' hx' h'
          · cases hc
        · cases hc
      · cases hc
    · cases hc
  · -- max
    rename_i hcal
    split at hc
    · rename_i x y hx
      split at hc
      · rename_i x' y' hx' hy'
        cases hc
        have h' : ev (fun _ _ _ => False) (fun _ _ _ => False) ρ ob id R (.mm true x' y') := by simpa only [ev] using h
        exact s_mm (mx := true) hm hρ hF hop (by simpa using hcal) (toArray_of hx) hx' hy' h'
      · cases hc
    · cases hc
  · -- min
    rename_i hcal
    split at hc
    · rename_i x y hx
      split at hc
      · rename_i x' y' hx' hy'
        cases hc
        have h' : ev (fun _ _ _ => False) (fun _ _ _ => False) ρ ob id R (.mm false x' y') := by simpa only [ev] using h
        exact s_mm (mx := false) hm hρ hF hop (by simpa using hcal) (toArray_of hx) hx' hy' h'
      · cases hc
    · cases hc
  · -- copy
    rename_i hcal
    split at hc
    · rename_i x y t t' hx ht
      have e : c = { callee := .builtin .copy, args := #[x, y], argTypes := #[t, t'] } := by
        obtain ⟨c1, c2, c3⟩ := c; simp only at hx ht hcal; rw [toArray_of hx, toArray_of ht, hcal]
      split at hc
      · rename_i el x' y' hel hx' hy'
        split at hc
        · rename_i ti hti
          split at hc
          · rename_i hpos
            cases hc
            have h' : ev (fun _ _ _ => False) (fun _ _ _ => False) ρ ob id R (.cpy ti.size x' y') := by simpa only [ev] using h
            exact s_cpy hm hρ hF (e ▸ hop) (elOf_some hel) hti hpos hx' hy' h'
          · cases hc
        · cases hc
      · cases hc
    · cases hc
  · -- a function
    rename_i f hcal
    split at hc
    · rename_i fn hf
      split at hc
      · cases hc
      · rename_i hname
        split at hc
        · rename_i hbody
          split at hc
          · rename_i hsz
            split at hc
            · rename_i xs hxs
              cases hc
              exact s_call hm hρ hF hid hob hJ hop hcal hf (by simpa using hname) hbody hsz hxs h
            · cases hc
          · cases hc
        · split at hc
          · rename_i xs hxs
            cases hc
            exact s_xcall hm hρ hF hop hcal hxs h
          · cases hc
    · cases hc
  · cases hc

/-! ### values alone -/
omit hm hρ hF hid hob in
theorem eqc_run {H' : Nat → Prop} {k : Nat} {e : TypeId} (hk : kindOf P e = some k) {v u : Value} {x y : V} (hv : Rep0 w H' v x) (hu : Rep0 w H' u y) {t : Bool} (ht : eqc k x y = some t) (d : Nat) :
    (Op.equalIn (d + 1) e v u).run P w = .ok t w := by
  unfold kindOf at hk
  split at hk
  · rename_i h1
    cases hk
    cases hv <;> cases hu <;> simp only [eqc] at ht <;> (try cases ht)
    exact run_equalIn_bool w d e _ _ h1
  · rename_i h1
    cases hk
    cases hv <;> cases hu <;> simp only [eqc] at ht <;> (try cases ht)
    split at ht
    · rename_i h2; cases ht; subst h2
      rw [run_equalIn_int w d e _ _ _ _ h1]
      congr 1
    · cases ht
  · rename_i h1
    cases hk
    cases hv <;> cases hu <;> simp only [eqc] at ht <;> (try cases ht)
    rw [run_equalIn_string w d e _ _ h1]
    congr 1
    simp [ByteArray.toList_eq]
  · cases hk

omit hm hρ hF hid hob in
theorem eqcs_run {H' : Nat → Prop} {vs us : List Value} (d : Nat) : ∀ (fs : List Field) (ks : List Nat) (k : Nat) (xs ys : List V) (t : Bool), flatF P k fs = some ks → RepAll w H' (vs.drop k) xs → RepAll w H' (us.drop k) ys → eqcs ks xs ys = some t →
    (Op.eqFields (d + 1) vs.toArray us.toArray fs).run P w = .ok t w
  | [], ks, k, xs, ys, t, hf, hx, hy, he => by
    simp only [flatF, Option.some.injEq] at hf
    subst hf
    cases xs <;> cases ys <;> simp only [eqcs] at he <;> cases he
    simp [Op.eqFields]
  | f :: fs, ks, k, xs, ys, t, hf, hx, hy, he => by
    simp only [flatF] at hf
    split at hf
    · rename_i n l hn hl
      split at hf
      · rename_i hno
        cases hf
        simp only [Bool.and_eq_true, bne_iff_ne, ne_eq, beq_iff_eq] at hno
        obtain ⟨hname, hoff⟩ := hno
        match xs, ys, he with
        | x :: r, y :: q, he =>
          simp only [eqcs] at he
          cases h1 : eqc n x y with
          | none => rw [h1] at he; simp [both] at he
          | some t1 =>
            cases h2 : eqcs l r q with
            | none => rw [h1, h2] at he; simp [both] at he
            | some t2 =>
              rw [h1, h2] at he
              simp only [both, Option.some.injEq] at he
              have step : ∀ {zs : List Value} {z : V} {zr : List V}, RepAll w H' (zs.drop k) (z :: zr) → ∃ v, zs[k]? = some v ∧ Rep0 w H' v z ∧ RepAll w H' (zs.drop (k + 1)) zr := fun {zs z zr} h => by
                cases e : zs.drop k with
                | nil => have := h.1; rw [e] at this; simp at this
                | cons v rest =>
                  have hk : zs[k]? = some v := by have := congrArg (·[0]?) e; simpa using this
                  have hr : zs.drop (k + 1) = rest := by rw [← List.drop_drop, e]; rfl
                  rw [e] at h
                  refine ⟨v, hk, h.2 0 v z rfl rfl, ?_⟩
                  rw [hr]
                  exact ⟨by simpa using h.1, fun j v' x' a b => h.2 (j + 1) v' x' (by simpa using a) (by simpa using b)⟩
              obtain ⟨v, hv1, hv2, hv3⟩ := step hx
              obtain ⟨u, hu1, hu2, hu3⟩ := step hy
              have hpk : P.plainKey f.type = true := by
                unfold kindOf at hn
                unfold Program.plainKey
                split at hn <;> first | (rename_i h3; rw [h3]; done) | (rename_i h3; simp [h3]; done) | (cases hn)
              have p1 := run_part_plain (P := P) w hpk (xs := vs.toArray) (off := f.offset) (v := v) (by rw [hoff]; simpa using hv1)
              have p2 := run_part_plain (P := P) w hpk (xs := us.toArray) (off := f.offset) (v := u) (by rw [hoff]; simpa using hu1)
              have p3 := eqc_run (P := P) hn hv2 hu2 h1 d
              have ih := eqcs_run d fs l (k + 1) r q t2 hl hv3 hu3 h2
              simp only [Op.eqFields, hname, ne_eq, not_false_eq_true, if_true, Sem.run_bind, p1, p2, p3, Result.andThen_ok]
              subst he
              cases t1
              · simp
              · simpa using ih
        | [], _, he => exact absurd he (by cases ys <;> simp [eqcs])
        | _ :: _, [], he => simp [eqcs] at he
      · cases hf
    · cases hf

omit hm hρ hF hid hob in
theorem bytesOf_some : ∀ {cs : List V} {l : List UInt8}, bytesOf cs = some l → cs.length = l.length ∧ ∀ (j : Nat) (c : UInt8), l[j]? = some c → cs[j]? = some (.i .u8 (c.toNat : Int))
  | [], l, h => by simp only [bytesOf, Option.some.injEq] at h; subst h; exact ⟨rfl, fun j c h => by cases h⟩
  | x :: r, l, h => by
    unfold bytesOf at h
    split at h
    · rename_i e; cases e
    · rename_i n r' e
      cases e
      split at h
      · rename_i l' hl
        split at h
        · rename_i hn
          cases h
          obtain ⟨h1, h2⟩ := bytesOf_some hl
          refine ⟨by simp [h1], fun j c hc => ?_⟩
          cases j with
          | zero =>
            simp only [List.getElem?_cons_zero, Option.some.injEq] at hc ⊢
            subst hc
            congr 1
            simp only [UInt8.toNat_ofNat']
            omega
          | succ j => simpa using h2 j c (by simpa using hc)
        · cases h
      · cases h
    · cases h

omit hid hob in
theorem s_pur {p : PO} {qs : List X}
    (hcase : (∃ neg ks op t x y t' x' y' fs, p = .eqs neg ks ∧ o.op = .binOp op t x y t' ∧ op = (if neg = true then .neq else .eql) ∧ P.underlying t = some (.struct fs) ∧ flatS P t = some ks ∧ cX x = some x' ∧ cX y = some y' ∧ qs = [x', y']) ∨
      (∃ s d e x x', p = .s2b e ∧ o.op = .convert s d x ∧ P.underlying s = some .string ∧ P.underlying d = some (.slice e) ∧ P.underlying e = some (.int .u8) ∧ cX x = some x' ∧ qs = [x']) ∨
      (∃ s d e x x', p = .b2s ∧ o.op = .convert s d x ∧ P.underlying s = some (.slice e) ∧ P.underlying e = some (.int .u8) ∧ P.underlying d = some .string ∧ cX x = some x' ∧ qs = [x']))
    (h : ev (fun _ _ _ => False) (fun _ _ _ => False) ρ ob id R (.pur p qs)) : o.wp P a w K Q := by
  obtain ⟨hok, h⟩ := h
  rcases hcase with ⟨neg, ks, op, t, x, y, t', x', y', fs, rfl, hop, hn, hu, hfl, hx, hy, rfl⟩ | ⟨s, d, e, x, x', rfl, hop, hs, hd, he, hx, rfl⟩ | ⟨s, d, e, x, x', rfl, hop, hs, he, hd, hx, rfl⟩
  · simp only [List.map_cons, List.map_nil] at h hok
    have hxr := hρ x x' hx
    have hyr := hρ y y' hy
    cases h1 : rd ob 1 (ρ x') <;> cases h2 : rd ob 1 (ρ y') <;> rw [h1, h2] at h <;> simp only [pureV] at h <;> (try exact h.elim)
    rename_i xs ys
    obtain ⟨H1, hext, hm1, hfr, _⟩ := hm.freeze ((onlyFrz_frz (ob := ob) (ρ x')).append (onlyFrz_frz (ob := ob) (ρ y')))
    have r1 := rd_rep hm (sz := 1) (by decide) hxr hok.1 (.inl (by rw [h1]; rfl)) hext.hH (fun k y u b a => hfr k y u b (List.mem_append_left _ a))
    have r2 := rd_rep hm (sz := 1) (by decide) hyr hok.2.1 (.inl (by rw [h2]; rfl)) hext.hH (fun k y u b a => hfr k y u b (List.mem_append_right _ a))
    rw [h1] at r1
    rw [h2] at r2
    cases he : eqcs ks xs ys with
    | none => rw [he] at h; exact h.elim
    | some tt =>
      rw [he] at h
      simp only [Option.map_some] at h
      obtain ⟨vs, e1, ra1⟩ := (Rep.up (ov := ov) r1).inv_g
      obtain ⟨us, e2, ra2⟩ := (Rep.up (ov := ov) r2).inv_g
      unfold flatS at hfl
      rw [hu] at hfl
      simp only [] at hfl
      split at hfl
      · rename_i hg
        simp only [Bool.and_eq_true, Bool.not_eq_true'] at hg
        have hfo : P.fieldsOf t = fs := by simp [Program.fieldsOf, hu]
        have hrun := eqcs_run (P := P) (w := w) (vs := vs) (us := us) 9998 fs.toList ks 0 xs ys tt hfl (by simpa using ra1) (by simpa using ra2) he
        have hst := run_equalIn_struct (P := P) w 9999 t vs.toArray us.toArray (by rw [hfo]; exact hu) hg.1
        rw [hfo, hrun] at hst
        refine fin_same hm hF (cv := .bool (if neg = true then !tt else tt)) ?_ (.b _) h
        cases neg
        · simp only [Bool.false_eq_true, if_false] at hn ⊢
          subst hn
          simp only [execOp, hop, e1, e2, Sem.run_bind, run_eqGuard_agg w _ t x y _ _ hg.2, Result.andThen_ok, run_eql_struct, hst, Sem.run_pure]
        · simp only [if_true] at hn ⊢
          subst hn
          simp only [execOp, hop, e1, e2, Sem.run_bind, run_eqGuard_agg w _ t x y _ _ hg.2, Result.andThen_ok, run_neq_struct, hst, Sem.run_pure]
      · cases hfl
  · simp only [List.map_cons, List.map_nil] at h hok
    have hxr := hρ x x' hx
    cases h1 : rd ob 1 (ρ x') <;> rw [h1] at h <;> simp only [pureV] at h <;> (try exact h.elim)
    rename_i l
    split at h
    · rename_i v hv
      split at hv
      · rename_i hl
        cases hv
        obtain ⟨H1, hext, hm1, hfr, _⟩ := hm.freeze (onlyFrz_frz (ob := ob) (ρ x'))
        have r1 := rd_rep hm (sz := 1) (by decide) hxr hok.1 (.inl (by rw [h1]; rfl)) hext.hH hfr
        rw [h1] at r1
        have e1 := (Rep.up (ov := ov) r1).inv_s
        have hsz : (⟨l.toArray⟩ : ByteArray).size = l.length := size_str l
        have hrun := Go.Lib.run_convert_string_bytes (P := P) w s d e ⟨l.toArray⟩ hs hd he
        have hB : Below w.heap.size w (Go.Lib.bytesWorld w e ⟨l.toArray⟩) := ⟨rfl, rfl, rfl, by rw [Go.Lib.bytesWorld_size]; omega, fun k hk => Go.Lib.bytesWorld_at_old w e _ k hk⟩
        obtain ⟨hext2, hm2⟩ := hm.grow hB (N := fun b => b = w.heap.size) fun b hb => ⟨by omega, by rw [hb, Go.Lib.bytesWorld_size]; omega⟩
        unfold Oper.wp
        have : (execOp a.eval o).run P w = .ok (.value (.slice (some ⟨w.heap.size, 0, none⟩) (⟨l.toArray⟩ : ByteArray).size (grownCap w (⟨l.toArray⟩ : ByteArray).size 0 e))) (Go.Lib.bytesWorld w e ⟨l.toArray⟩) := by
          simp only [execOp, hop, e1, Sem.run_bind, hrun, Result.andThen_ok, Sem.run_pure]
        rw [this]
        refine hF _ [] _ _ _ ov h hext2 (fun _ _ h => h) hm2 (.up ?_)
        rw [hsz]
        refine .l _ l.length _ 1 (Bt l) (fun j => .int .u8 ((l.getD j 0).toNat : Int)) w.heap.size 0 Nat.zero_lt_one (by simp [Bt]) (by unfold maxLen; omega) (grownCap_ge w l.length 0 e) (.inr ⟨rfl, .inr rfl⟩) (fun j hj => ?_) (fun j y hy => ?_)
        · have := Go.Lib.bytesWorld_cell w e ⟨l.toArray⟩ j (by rw [hsz]; simpa [Bt] using hj)
          rw [Nat.zero_add]; exact this
        · simp only [Bt, List.getElem?_map, Option.map_eq_some_iff] at hy
          obtain ⟨c, hc, rfl⟩ := hy
          have : l.getD j 0 = c := by rw [List.getD_eq_getElem?_getD, hc]; rfl
          rw [this]; exact .i _ _
      · cases hv
    · exact h.elim
  · simp only [List.map_cons, List.map_nil] at h hok
    have hxr := hρ x x' hx
    cases h1 : rd ob 1 (ρ x') <;> rw [h1] at h <;> simp only [pureV] at h <;> (try exact h.elim)
    rename_i sz cs
    by_cases hz : sz = 1
    · subst hz
      rw [if_pos rfl] at h
      cases hb : bytesOf cs with
      | none => rw [hb] at h; exact h.elim
      | some l =>
        rw [hb] at h
        simp only [Option.map_some] at h
        obtain ⟨hlen, hget⟩ := bytesOf_some hb
        obtain ⟨H1, hext, hm1, hfr, _⟩ := hm.freeze (onlyFrz_frz (ob := ob) (ρ x'))
        have r1 := rd_rep hm (sz := 1) (by decide) hxr hok.1 (.inl (by rw [h1]; rfl)) hext.hH hfr
        rw [h1] at r1
        obtain ⟨ba, n, cap, f, b, off, e1, _, hn, hm', hcp, ha, hc, hr⟩ := r1.inv_l
        have hnl : n = l.length := by omega
        subst hnl
        refine fin_same hm hF (cv := .string ⟨l.toArray⟩) ?_ (.s _) h
        rcases ha with rfl | ⟨rfl, _⟩
        · have hl0 : l = [] := List.eq_nil_of_length_eq_zero (by simpa using hlen.symm)
          subst hl0
          cases ba with
          | none =>
            simp only [execOp, hop, e1, Sem.run_bind, run_convert_bytes_string w s d e none _ _ hs he hd, Conv.bytesToString, Sem.run_pure, Result.andThen_ok]
            rfl
          | some ad =>
            have := run_convert_bytes_back (P := P) w s d e ad cap [] hs he hd (fun j hj => by simp at hj)
            simp only [List.length_nil] at this ⊢
            simp only [execOp, hop, e1, Sem.run_bind, List.length_nil, this, Result.andThen_ok, Sem.run_pure]
        · have := run_convert_bytes_back (P := P) w s d e ⟨b, off, none⟩ cap l hs he hd (fun j hj => by
            rw [Go.WideShapes.add_plain, hc j (by omega)]
            have h3 := hget j l[j] (List.getElem?_eq_getElem hj)
            have h4 := hr j _ h3
            generalize f j = u at h4
            cases h4
            rfl)
          simp only [execOp, hop, e1, Sem.run_bind, this, Result.andThen_ok, Sem.run_pure]
    · rw [if_neg hz] at h; exact h.elim

theorem ev_sound (hJ : J w) {ao : AOp} (hc : cOp P o.op = some ao) (h : ev (AFun P J) (XFun P) ρ ob id R ao) : o.wp P a w K Q := by
  generalize hop : o.op = op at hc
  have F : ∀ ao : AOp, (∀ f xs, ao ≠ .call f xs) → (∀ f xs, ao ≠ .xcall f xs) → ev (AFun P J) (XFun P) ρ ob id R ao → ev (fun _ _ _ => False) (fun _ _ _ => False) ρ ob id R ao := fun ao h1 h2 h => by
    cases ao <;> first | exact h | exact absurd rfl (h1 _ _) | exact absurd rfl (h2 _ _)
  cases op <;> simp only [cOp] at hc
  case move x =>
    obtain ⟨y, hy, rfl⟩ := Option.map_eq_some_iff.1 hc
    exact s_mv hm hρ hF (.inl hop) hy (by simpa only [ev] using h)
  case assign x =>
    obtain ⟨y, hy, rfl⟩ := Option.map_eq_some_iff.1 hc
    exact s_mv hm hρ hF (.inr hop) hy (by simpa only [ev] using h)
  case pick c x y =>
    split at hc
    · rename_i h1 h2 h3
      cases hc
      exact s_pick hm hρ hF hop h1 h2 h3 (by simpa only [ev] using h)
    · cases hc
  case binOp bop t x y t' =>
    split at hc
    · rename_i h1 h2 h3
      cases hc
      exact s_bin hm hρ hF hop h1 h2 (F _ (by simp) (by simp) h)
    · rename_i h1 h2 h3
      cases hc
      exact s_bin hm hρ hF hop h1 h2 (F _ (by simp) (by simp) h)
    · rename_i h1 h2 h3
      split at hc
      · cases hc
        exact s_eqb hm hρ hF hop (by simp) h3 h1 h2 (F _ (by simp) (by simp) h)
      · cases hc
        exact s_eqb hm hρ hF hop (by simp) h3 h1 h2 (F _ (by simp) (by simp) h)
      · cases hc
    · rename_i h1 h2 h3
      split at hc
      · cases hc
        exact s_isn hm hρ hF hop (by simp) h3 h1 h2 (F _ (by simp) (by simp) h)
      · cases hc
        exact s_isn hm hρ hF hop (by simp) h3 h1 h2 (F _ (by simp) (by simp) h)
      · cases hc
    · rename_i h1 h2 h3
      split at hc
      · rename_i ks hks
        split at hc
        · cases hc
          exact s_pur hm hρ hF (.inl ⟨false, ks, .eql, t, x, y, t', _, _, _, rfl, hop, rfl, h3, hks, h1, h2, rfl⟩) (F _ (by simp) (by simp) h)
        · cases hc
          exact s_pur hm hρ hF (.inl ⟨true, ks, .neq, t, x, y, t', _, _, _, rfl, hop, rfl, h3, hks, h1, h2, rfl⟩) (F _ (by simp) (by simp) h)
        · cases hc
      · cases hc
    · cases hc
  case unOp uop t x =>
    obtain ⟨y, hy, rfl⟩ := Option.map_eq_some_iff.1 hc
    exact s_un hm hρ hF hop hy (F _ (by simp) (by simp) h)
  case convert s d x =>
    split at hc
    · rename_i h1 h2 h3
      cases hc
      exact s_cvt hm hρ hF hop h1 h2 h3 (F _ (by simp) (by simp) h)
    · rename_i h1 h2 h3
      split at hc
      · rename_i h4
        cases hc
        exact s_pur hm hρ hF (.inr (.inl ⟨s, d, _, x, _, rfl, hop, h1, h2, h4, h3, rfl⟩)) (F _ (by simp) (by simp) h)
      · cases hc
    · rename_i h1 h2 h3
      split at hc
      · rename_i h4
        cases hc
        exact s_pur hm hρ hF (.inr (.inr ⟨s, d, _, x, _, rfl, hop, h1, h4, h2, h3, rfl⟩)) (F _ (by simp) (by simp) h)
      · cases hc
    · cases hc
  case index t x i =>
    split at hc
    · rename_i h1 h2 h3
      cases hc
      exact s_six hm hρ hF hop h1 h2 h3 (F _ (by simp) (by simp) h)
    · cases hc
  case indexAddr t x i =>
    split at hc
    · rename_i h1 h2 h3
      split at hc
      · rename_i ti hti
        split at hc
        · cases hc
          exact s_idx hm hρ hF hop (elOf_some h1) hti h2 h3 (F _ (by simp) (by simp) h)
        · cases hc
      · cases hc
    · cases hc
  case load t p =>
    split at hc
    · rename_i h1 h2 h3
      cases hc
      exact s_ld hm hρ hF hop h1 h2 h3 (F _ (by simp) (by simp) h)
    · cases hc
  case store t p x =>
    split at hc
    · rename_i h1 h2 h3
      cases hc
      exact s_st hm hρ hF hop h1 h2 h3 (F _ (by simp) (by simp) h)
    · cases hc
  case fieldAddr t p f =>
    split at hc
    · rename_i h1 h2
      split at hc
      · rename_i h3
        split at hc
        · rename_i h4
          split at hc
          · rename_i h5
            cases hc
            exact s_fad hm hρ hF hop h1 h3 h4 h5 h2 (F _ (by simp) (by simp) h)
          · cases hc
        · cases hc
      · cases hc
    · cases hc
  case field t p f =>
    split at hc
    · rename_i h1 h2
      split at hc
      · rename_i h3
        split at hc
        · rename_i h4 h5
          cases hc
          exact s_fld hm hρ hF hop h1 h3 h4 h5 h2 (F _ (by simp) (by simp) h)
        · cases hc
      · cases hc
    · cases hc
  case build t ps =>
    split at hc
    · rename_i h1 h2
      split at hc
      · rename_i h3
        split at hc
        · rename_i h4
          cases hc
          exact s_bld hm hρ hF hop h1 h2 h3 h4 (F _ (by simp) (by simp) h)
        · cases hc
      · cases hc
    · cases hc
  case buildSlice t n ps =>
    split at hc
    · rename_i h1
      split at hc
      · rename_i h2 h3
        split at hc
        · rename_i h4
          cases hc
          exact s_bsl hm hρ hF hid hob hop (elOf_some h1) h2 h3 h4 (F _ (by simp) (by simp) h)
        · cases hc
      · cases hc
    · cases hc
  case makeSlice t l c =>
    split at hc
    · rename_i h1 h2 h3
      split at hc
      · rename_i h4
        cases hc
        exact s_mk hm hρ hF hid hob hop (elOf_some h1) h4 h2 h3 (F _ (by simp) (by simp) h)
      · cases hc
    · cases hc
  case slice t x lo hi mx =>
    cases mx with
    | some m => cases hc
    | none =>
      simp only [] at hc
      split at hc
      · rename_i h1 h2 h3 h4
        cases hc
        exact s_ssub hm hρ hF hop h1 h2 h3 h4 (F _ (by simp) (by simp) h)
      · rename_i h1 h2 h3 h4
        split at hc
        · rename_i h5
          split at hc
          · cases hc
            exact s_sub hm hρ hF hop h1 h5 h2 h3 h4 (F _ (by simp) (by simp) h)
          · cases hc
        · cases hc
      · cases hc
  case alloc t =>
    split at hc
    · rename_i h1
      cases hc
      exact s_al hm hF hid hob hop h1 (F _ (by simp) (by simp) h)
    · cases hc
  case extract x i =>
    obtain ⟨y, hy, rfl⟩ := Option.map_eq_some_iff.1 hc
    exact s_ext hm hρ hF hop hy (F _ (by simp) (by simp) h)
  case box e x =>
    obtain ⟨y, hy, rfl⟩ := Option.map_eq_some_iff.1 hc
    exact s_bx hm hρ hF hid hob hop hy (F _ (by simp) (by simp) h)
  case nilCheck x =>
    obtain ⟨y, hy, rfl⟩ := Option.map_eq_some_iff.1 hc
    exact s_nc hm hρ hF hop hy (F _ (by simp) (by simp) h)
  case call c => exact s_cCall hm hρ hF hid hob hJ hop hc h
  all_goals cases hc

theorem ev_soundB (hJ : J w) {ao : AOp} (hc : cOpB P o.op = some ao) (h : ev (AFun P J) (XFun P) ρ ob id R ao) : o.wp P a w K Q := by
  unfold cOpB at hc
  cases e : cOp P o.op with
  | none => rw [e] at hc; cases hc; exact h.elim
  | some b => rw [e] at hc; cases hc; exact ev_sound hm hρ hF hid hob hJ e h
end ops
end Go.Proofs.Ytngohbpgdeiodaa.Ab
