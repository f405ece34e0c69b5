/-
  The abstract layer: soundness of operations, second part: addresses, loads, stores, slices of slices, new memory.
-/
import Derived.Test.YtngohbpgdeiodaaAb3
namespace Go.Proofs.Ytngohbpgdeiodaa.Ab
set_option linter.unusedSimpArgs false
set_option linter.unusedVariables false
open Go Go.RowKit

section lemmas
variable {P : Program} {w0 w : World} {H0 : Nat → Prop} {H : Nat → Prop} {ov : Nat → Option Value} {ob : Nat → Option Ob}

theorem Mem.at (hm : Mem w0 H0 w H ov ob) {j k : Nat} {o : Ob} {x : V} {u : Value} {b : Nat} (ho : ob j = some o) (hx : o.cs[k]? = some x) (hu : ov j = some u) (hb : blk u = some b) :
    ∃ c, w.cell? ⟨b, k, none⟩ = some c ∧ w.frozen? ⟨b, k, none⟩ = false ∧ Rep0 w H c x ∧ w0.heap.size ≤ b := by
  obtain ⟨u', hu', hr⟩ := hm.obj j o ho
  obtain rfl : u = u' := by rw [hu] at hu'; exact Option.some.inj hu'
  obtain ⟨b', c, hb', hc, hf, hr', hB⟩ := hr.cell hx
  obtain rfl : b = b' := by rw [hb] at hb'; exact Option.some.inj hb'
  exact ⟨c, hc, hf, hr', hB⟩

/-- A row of cells that read so. -/
theorem load_run (t : TypeId) (b k n : Nat) (us : List Value) (hl : us.length = n) (hc : ∀ j u, us[j]? = some u → w.cell? ⟨b, k + j, none⟩ = some u) {ti : TypeInfo} (hi : P.info? t = some ti) (hs : ti.size = n) {d : TypeDesc} (hd : P.underlying t = some d) :
    (isAg P t = true → (Instr.loadAt t (.pointer (some ⟨b, k, none⟩))).run P w = .ok (.agg us.toArray) w) ∧
    (isAg P t = false → ∀ u, us[0]? = some u → (Instr.loadAt t (.pointer (some ⟨b, k, none⟩))).run P w = .ok u w) := by
  have hl' : (loadCells ⟨b, k, none⟩ n).run P w = .ok us.toArray w := by
    rw [← hl]
    exact run_loadCells_list w ⟨b, k, none⟩ us fun j u hu => by rw [Addr.add_lit]; exact hc j u hu
  have hag : (isAgg t).run P w = .ok (isAg P t) w := by
    simp only [isAgg, isAg, Sem.run_bind, run_underlying hd, Result.andThen_ok, hd]
    cases d <;> rfl
  constructor
  · intro h
    simp [Instr.loadAt, Instr.sureAddr, loadVar, hag, h, sizeOf, typeInfo, hi, hs, hl']
  · intro h u hu
    have := hc 0 u hu
    simp only [Nat.add_zero] at this
    simp [Instr.loadAt, Instr.sureAddr, loadVar, hag, h, this]

theorem RepAll.drop_take {xs : List Value} {cs : List V} (h : RepAll w H xs cs) (k n : Nat) : RepAll w H ((xs.drop k).take n) ((cs.drop k).take n) := by
  refine ⟨by simp [h.1], fun j v x h1 h2 => ?_⟩
  rw [List.getElem?_take] at h1 h2
  split at h1
  · rename_i hj
    rw [if_pos hj] at h2
    rw [List.getElem?_drop] at h1 h2
    exact h.2 _ v x h1 h2
  · cases h1

/-- A row of values that a slice of length n (elements) reads. -/
theorem Mem.row (hm : Mem w0 H0 w H ov ob) {j k n : Nat} {o : Ob} {u : Value} {b : Nat} (ho : ob j = some o) (hk : k + n ≤ o.cs.length) (hu : ov j = some u) (hb : blk u = some b) :
    ∃ us : List Value, us.length = n ∧ (∀ i c, us[i]? = some c → w.cell? ⟨b, k + i, none⟩ = some c) ∧ RepAll w H us ((o.cs.drop k).take n) := by
  have h1 : ∀ i, i < n → ∃ c, w.cell? ⟨b, k + i, none⟩ = some c ∧ ∀ x, o.cs[k + i]? = some x → Rep0 w H c x := fun i hi => by
    obtain ⟨c, h1, _, h3, _⟩ := hm.at (k := k + i) (x := o.cs[k + i]) ho (List.getElem?_eq_getElem (by omega)) hu hb
    exact ⟨c, h1, fun x hx => by rw [List.getElem?_eq_getElem (by omega)] at hx; cases hx; exact h3⟩
  refine ⟨(List.range n).map fun i => (w.cell? ⟨b, k + i, none⟩).getD undef, by simp, fun i c hc => ?_, by simp; omega, fun i v x h2 h3 => ?_⟩
  · simp only [List.getElem?_map, List.getElem?_range, Option.map_eq_some_iff] at hc
    obtain ⟨i', hi', rfl⟩ := hc
    have hi : i < n := by
      rcases Nat.lt_or_ge i n with h | h
      · exact h
      · simp [List.getElem?_eq_none, h] at hi'
    obtain rfl : i = i' := by simp [List.getElem?_range hi] at hi'; exact hi'
    obtain ⟨c, hc, _⟩ := h1 i hi
    rw [hc]; rfl
  · rw [List.getElem?_take] at h3
    split at h3
    · rename_i hi
      rw [List.getElem?_drop] at h3
      obtain ⟨c, hc, hr⟩ := h1 i hi
      simp only [List.getElem?_map, List.getElem?_range hi, Option.map_some, hc, Option.getD_some, Option.some.injEq] at h2
      subst h2
      exact hr x h3
    · cases h3

theorem ip_row {cs : List V} {k n b o : Nat} {f : Nat → Value} (hk : k + n ≤ cs.length) (hc : ∀ j, j < cs.length → w.cell? ⟨b, o + j, none⟩ = some (f j)) (hr : ∀ (j : Nat) (x : V), cs[j]? = some x → Rep0 w H (f j) x) :
    ∃ us : List Value, us.length = n ∧ (∀ i c, us[i]? = some c → w.cell? ⟨b, o + k + i, none⟩ = some c) ∧ RepAll w H us ((cs.drop k).take n) := by
  refine ⟨(List.range n).map fun i => f (k + i), by simp, fun i c h => ?_, by simp; omega, fun i v x h2 h3 => ?_⟩
  · have hi : i < n := by
      rcases Nat.lt_or_ge i n with h' | h'
      · exact h'
      · simp [h'] at h
    simp only [List.getElem?_map, List.getElem?_range hi, Option.map_some, Option.some.injEq] at h
    subst h
    rw [Nat.add_assoc]
    exact hc _ (by omega)
  · rw [List.getElem?_take] at h3
    split at h3
    · rename_i hi
      rw [List.getElem?_drop] at h3
      simp only [List.getElem?_map, List.getElem?_range hi, Option.map_some, Option.some.injEq] at h2
      subst h2
      exact hr _ x h3
    · cases h3
end lemmas

section ops
variable {P : Program} {w0 w : World} {H0 : Nat → Prop} {H : Nat → Prop} {ov : Nat → Option Value} {ob : Nat → Option Ob} {id : Nat} {ρ : X → V} {a : Act} {o : Oper} {K : Act → World → Prop} {Q : Exit → Act → World → Prop}
  {R : V → List (Nat × Option Ob) → Prop}
variable (hm : Mem w0 H0 w H ov ob) (hρ : ∀ p x, cX p = some x → Rep w H ov (a.eval p) (ρ x)) (hF : Fin w0 H0 w H ov ob id R a o.dst K)
include hm hρ hF

theorem s_ld {t : TypeId} {p : Operand} {p' : X} {ti : TypeInfo} {d : TypeDesc} (hop : o.op = .load t p) (hp : cX p = some p') (hi : P.info? t = some ti) (hd : P.underlying t = some d)
    (h : ev (fun _ _ _ => False) (fun _ _ _ => False) ρ ob id R (.ld (isAg P t) ti.size p')) : o.wp P a w K Q := by
  have h1 := hρ p p' hp
  simp only [ev] at h
  cases hv : ρ p' <;> rw [hv] at h h1 <;> (try simp only [] at h)
  case ip cs k =>
    obtain ⟨f, b, q, e, hb, hc, hr⟩ := h1.inv_ip
    cases hag : isAg P t <;> rw [hag] at h <;> simp only [Bool.false_eq_true, if_false, if_true] at h
    · obtain ⟨hk, hR⟩ := h
      obtain ⟨us, hl, hus, hra⟩ := ip_row (w := w) (H := H) (n := 1) hk hc hr
      obtain ⟨u, hu⟩ : ∃ u, us[0]? = some u := ⟨us[0], List.getElem?_eq_getElem (by omega)⟩
      have h0 := hus 0 u hu
      have hag' : (isAgg t).run P w = .ok false w := by
        rw [← hag]
        simp only [isAgg, isAg, Sem.run_bind, run_underlying hd, Result.andThen_ok, hd]
        cases d <;> rfl
      refine fin_same hm hF (cv := u) ?_ (.up (hra.2 0 u (cs.getD k .un) hu ?_)) hR
      · simp only [Nat.add_zero] at h0
        simp [execOp, hop, e, Instr.loadAt, Instr.sureAddr, loadVar, hag', h0]
      · simp [List.getElem?_take, List.getD, List.getElem?_eq_getElem hk]
    · obtain ⟨hk, hR⟩ := h
      obtain ⟨us, hl, hus, hra⟩ := ip_row (w := w) (H := H) hk hc hr
      refine fin_same hm hF (cv := .agg us.toArray) ?_ (.up (.g us _ hra.1 hra.2)) hR
      simp [execOp, hop, e, (load_run (P := P) t b (q + k) ti.size us hl hus hi rfl hd).1 hag]
  case pt j k =>
    obtain ⟨b, u, e, hu, hb⟩ := h1.inv_pt
    cases ho : ob j with
    | none => rw [ho] at h; exact h.elim
    | some oo =>
      rw [ho] at h
      cases hag : isAg P t <;> rw [hag] at h <;> simp only [Bool.false_eq_true, if_false, if_true] at h
      · obtain ⟨hk, hR⟩ := h
        obtain ⟨c, hc, _, hr, _⟩ := hm.at ho (List.getElem?_eq_getElem hk) hu hb
        have hag' : (isAgg t).run P w = .ok false w := by
          rw [← hag]
          simp only [isAgg, isAg, Sem.run_bind, run_underlying hd, Result.andThen_ok, hd]
          cases d <;> rfl
        refine fin_same hm hF (cv := c) ?_ (v := oo.cs.getD k .un) ?_ hR
        · simp [execOp, hop, e, Instr.loadAt, Instr.sureAddr, loadVar, hag', hc]
        · simpa [List.getD, List.getElem?_eq_getElem hk] using (Rep.up hr : Rep w H ov _ _)
      · obtain ⟨hk, hR⟩ := h
        obtain ⟨us, hl, hus, hra⟩ := hm.row ho hk hu hb
        refine fin_same hm hF (cv := .agg us.toArray) ?_ (.up (.g us _ hra.1 hra.2)) hR
        simp [execOp, hop, e, (load_run (P := P) t b k ti.size us hl hus hi rfl hd).1 hag]

theorem s_idx {t e : TypeId} {x i : Operand} {x' i' : X} {ti : TypeInfo} (hop : o.op = .indexAddr t x i) (ht : P.underlying t = some (.slice e)) (hi : P.info? e = some ti) (hx : cX x = some x') (hix : cX i = some i')
    (h : ev (fun _ _ _ => False) (fun _ _ _ => False) ρ ob id R (.idx ti.size x' i')) : o.wp P a w K Q := by
  have h1 := hρ x x' hx
  have h2 := hρ i i' hix
  simp only [ev] at h
  have run : ∀ (b k : Nat) (len cap : Nat) (kk : IntKind) (n : Int), 0 ≤ n → n < len → a.eval x = .slice (some ⟨b, k, none⟩) len cap → a.eval i = .int kk n →
      (execOp a.eval o).run P w = .ok (.value (.pointer (some ⟨b, k + n.toNat * ti.size, none⟩))) w := fun b k len cap kk n h0 hl he hn => by
    simp [execOp, hop, he, hn, Instr.indexAt, asIntOf, run_underlying ht, h0, hl, sizeOf, typeInfo, hi, Addr.add_lit]
  cases hv : ρ x' <;> rw [hv] at h h1 <;> (try simp only [] at h)
  case l s cs =>
    cases hu : ρ i' <;> rw [hu] at h h2 <;> (try simp only [] at h)
    case i k n =>
      obtain ⟨⟨hs, h0, hl⟩, hR⟩ := h
      obtain ⟨ba, m, cap, f, b, q, e1, hsz, hn, hm', hcp, ha, hc, hr⟩ := h1.inv_l
      have hlt : n.toNat < m := by
        rcases Nat.lt_or_ge n.toNat m with h' | h'
        · exact h'
        · have := Nat.mul_le_mul_right s h'
          rw [hs] at this; rw [hs] at hn; omega
      rcases ha with rfl | ⟨rfl, hb⟩
      · simp at hl
      · exact fin_same hm hF (run b q m cap k n h0 (by omega) e1 h2.inv_i) (.up (.ip cs _ f b q hb hc hr)) hR
  case ow s j m =>
    cases hu : ρ i' <;> rw [hu] at h h2 <;> (try simp only [] at h)
    case i k n =>
      obtain ⟨⟨hs, h0, hl⟩, hR⟩ := h
      obtain ⟨ba, cap, e1, ho, hm', hcp, ha⟩ := h1.inv_ow
      rcases ha with h' | ⟨b, rfl⟩
      · omega
      · have hrun := run b 0 m cap k n h0 hl e1 h2.inv_i
        rw [Nat.zero_add] at hrun
        exact fin_same hm hF hrun (.pt j _ b _ ho (by rw [e1]; rfl)) hR
  case sl s j off m =>
    cases hu : ρ i' <;> rw [hu] at h h2 <;> (try simp only [] at h)
    case i k n =>
      obtain ⟨⟨hs, h0, hl⟩, hR⟩ := h
      obtain ⟨ba, cap, u, e1, hm', hcp, ho, ha⟩ := h1.inv_sl
      rcases ha with h' | ⟨b, hb, rfl⟩
      · omega
      · exact fin_same hm hF (run b off m cap k n h0 hl e1 h2.inv_i) (.pt j _ b u ho hb) hR



theorem s_fad {t : TypeId} {p : Operand} {p' : X} {i : Nat} {fs : Array Field} {fd : Field} {ti : TypeInfo} (hop : o.op = .fieldAddr t p i) (ht : P.underlying t = some (.struct fs)) (hf : fs[i]? = some fd) (hi : P.info? fd.type = some ti) (hsz : 0 < ti.size) (hp : cX p = some p')
    (h : ev (fun _ _ _ => False) (fun _ _ _ => False) ρ ob id R (.fad fd.offset p')) : o.wp P a w K Q := by
  have h1 := hρ p p' hp
  simp only [ev] at h
  have run : ∀ b k : Nat, a.eval p = .pointer (some ⟨b, k, none⟩) → (execOp a.eval o).run P w = .ok (.value (.pointer (some ⟨b, k + fd.offset, none⟩))) w := fun b k e => by
    have hz : ¬ ti.size = 0 := by omega
    simp [execOp, hop, e, Instr.fieldAt, run_underlying ht, hf, Instr.sureAddr, fieldPlace, sizeOf, typeInfo, hi, hz, Addr.add_lit]
  cases hv : ρ p' <;> rw [hv] at h h1 <;> (try simp only [] at h)
  case ip cs k =>
    obtain ⟨f, b, q, e, hb, hc, hr⟩ := h1.inv_ip
    have hrun := run b (q + k) e
    rw [Nat.add_assoc] at hrun
    exact fin_same hm hF hrun (.up (.ip cs _ f b q hb hc hr)) h
  case pt j k =>
    obtain ⟨b, u, e, hu, hb⟩ := h1.inv_pt
    exact fin_same hm hF (run b k e) (.pt j _ b u hu hb) h

theorem s_fld {t : TypeId} {p : Operand} {p' : X} {i : Nat} {fs : Array Field} {fd : Field} {ti : TypeInfo} {d : TypeDesc} (hop : o.op = .field t p i) (ht : P.underlying t = some (.struct fs)) (hf : fs[i]? = some fd) (hi : P.info? fd.type = some ti) (hd : P.underlying fd.type = some d) (hp : cX p = some p')
    (h : ev (fun _ _ _ => False) (fun _ _ _ => False) ρ ob id R (.fld (isAg P fd.type) fd.offset ti.size p')) : o.wp P a w K Q := by
  have h1 := hρ p p' hp
  simp only [ev] at h
  have hagr : (isAgg fd.type).run P w = .ok (isAg P fd.type) w := by
    simp only [isAgg, isAg, Sem.run_bind, run_underlying hd, Result.andThen_ok, hd]
    cases d <;> rfl
  cases hv : ρ p' <;> rw [hv] at h h1 <;> (try simp only [] at h)
  case g cs =>
    obtain ⟨vs, e, hn, hr⟩ := h1.inv_g
    cases hag : isAg P fd.type <;> rw [hag] at h hagr <;> simp only [Bool.false_eq_true, if_false, if_true] at h
    · obtain ⟨hk, hR⟩ := h
      have hk' : fd.offset < vs.length := by omega
      refine fin_same hm hF (cv := vs[fd.offset]) ?_ (.up (hr fd.offset _ (cs.getD fd.offset .un) (List.getElem?_eq_getElem hk') ?_)) hR
      · simp [execOp, hop, e, Instr.field, run_underlying ht, hf, asAgg, part, hagr, hk']
      · simp [List.getD, List.getElem?_eq_getElem hk]
    · obtain ⟨hk, hR⟩ := h
      have hra : RepAll w H ((vs.drop fd.offset).take ti.size) ((cs.drop fd.offset).take ti.size) := RepAll.drop_take ⟨hn, hr⟩ _ _
      refine fin_same hm hF (cv := .agg ((vs.drop fd.offset).take ti.size).toArray) ?_ (.up (.g _ _ hra.1 hra.2)) hR
      simp [execOp, hop, e, Instr.field, run_underlying ht, hf, asAgg, part, hagr, sizeOf, typeInfo, hi]

omit hm hF hρ in
theorem opt_x {x : Option Operand} {x' : Option X} (h : cX? x = some x') : (x = none ∧ x' = none) ∨ ∃ y y', x = some y ∧ x' = some y' ∧ cX y = some y' := by
  cases x with
  | none => left; simp [cX?] at h; exact ⟨rfl, h.symm⟩
  | some y =>
    right
    simp [cX?] at h
    obtain ⟨y', h1, rfl⟩ := h
    exact ⟨y, y', rfl, rfl, h1⟩

omit hm hF hρ in
theorem sub_run {t e : TypeId} {ti : TypeInfo} (ht : P.underlying t = some (.slice e)) (hi : P.info? e = some ti) (ba : Option Addr) (n cap : Nat) (lo hi' : Option Value) (l h : Nat) (hlo : (lo = none ∧ l = 0) ∨ ∃ k, lo = some (.int k (l : Int))) (hhi : (hi' = none ∧ h = n) ∨ ∃ k, hi' = some (.int k (h : Int)))
    (h1 : l ≤ h) (h2 : h ≤ cap) : (Instr.sliceAt t (.slice ba n cap) lo hi' none).run P w = .ok (.slice (if cap = l then ba else ba.map (·.add (l * ti.size))) (h - l) (cap - l)) w := by
  have h1' : (l : Int) ≤ h := by omega
  have h2' : (h : Int) ≤ cap := by omega
  rcases hlo with ⟨rfl, rfl⟩ | ⟨k, rfl⟩ <;> rcases hhi with ⟨rfl, rfl⟩ | ⟨k', rfl⟩ <;>
    simp [Instr.sliceAt, Instr.slice, Instr.sliceBounds, Instr.sliceBound, asIntOf, run_underlying ht, sizeOf, typeInfo, hi, h1, h2]

omit hm hF hρ in
theorem rep_sub_l {sz : Nat} {cs : List V} {ba : Option Addr} {n cap l h : Nat} (hr : Rep w H ov (.slice ba n cap) (.l sz cs)) (h1 : l ≤ h) (h2 : h ≤ n) :
    Rep w H ov (.slice (if cap = l then ba else ba.map (·.add (l * sz))) (h - l) (cap - l)) (.l sz ((cs.take (h * sz)).drop (l * sz))) := by
  obtain ⟨_, _, _, f, b, o, e, hsz, hn, hm, hcp, ha, hc, hr'⟩ := hr.inv_l
  cases e
  have hle : h * sz ≤ n * sz := Nat.mul_le_mul_right _ h2
  have hlen : ((cs.take (h * sz)).drop (l * sz)).length = (h - l) * sz := by
    rw [List.length_drop, List.length_take, Nat.sub_mul, hn]
    omega
  refine .up (.l _ _ _ sz _ (fun j => f (l * sz + j)) b (o + l * sz) hsz hlen (by omega) (by omega) ?_ (fun j hj => ?_) (fun j x hx => ?_))
  · by_cases hE : (cs.take (h * sz)).drop (l * sz) = []
    · exact .inl hE
    · right
      have hpos : 0 < (h - l) * sz := by rw [← hlen]; exact List.length_pos_iff.2 hE
      have hl : l < h := by
        rcases Nat.lt_or_ge l h with h' | h'
        · exact h'
        · rw [Nat.sub_eq_zero_of_le h', Nat.zero_mul] at hpos; omega
      rcases ha with rfl | ⟨rfl, hb⟩
      · simp at hE
      · rw [if_neg (by omega)]
        exact ⟨by simp [Addr.add_lit], hb⟩
  · rw [hlen] at hj
    have hj' : l * sz + j < cs.length := by
      rw [hn]
      have : l * sz + (h - l) * sz = h * sz := by rw [← Nat.add_mul]; congr 1; omega
      omega
    rw [Nat.add_assoc]
    exact hc _ hj'
  · rw [List.getElem?_drop, List.getElem?_take] at hx
    split at hx
    · exact hr' _ x hx
    · cases hx

omit hm hF hρ in
theorem rep_sub_sl {sz j off n cap l h : Nat} {ba : Option Addr} (hr : Rep w H ov (.slice ba n cap) (.sl sz j off n)) (h1 : l ≤ h) (h2 : h ≤ n) :
    Rep w H ov (.slice (if cap = l then ba else ba.map (·.add (l * sz))) (h - l) (cap - l)) (.sl sz j (off + l * sz) (h - l)) := by
  obtain ⟨_, _, u, e, hm, hcp, ho, ha⟩ := hr.inv_sl
  cases e
  refine .sl _ _ _ _ _ _ u (by omega) (by omega) ho ?_
  by_cases hl : h - l = 0
  · exact .inl hl
  · right
    rcases ha with ha | ⟨b, hb, rfl⟩
    · omega
    · refine ⟨b, hb, ?_⟩
      rw [if_neg (by omega)]
      simp [Addr.add_lit]

omit hm hF hρ in
theorem rep_ow_sl {sz j n : Nat} {v : Value} (hr : Rep w H ov v (.ow sz j n)) : Rep w H ov v (.sl sz j 0 n) := by
  obtain ⟨a, cap, rfl, ho, hm, hcp, ha⟩ := hr.inv_ow
  exact .sl _ _ _ _ _ _ _ hm hcp ho (ha.imp id fun ⟨b, e⟩ => ⟨b, by rw [e]; rfl, e⟩)

theorem s_sub {t e : TypeId} {x : Operand} {lo hi : Option Operand} {x' : X} {lo' hi' : Option X} {ti : TypeInfo} (hop : o.op = .slice t x lo hi none) (ht : P.underlying t = some (.slice e)) (hi0 : P.info? e = some ti) (hx : cX x = some x') (hlo : cX? lo = some lo') (hhi : cX? hi = some hi')
    (h : ev (fun _ _ _ => False) (fun _ _ _ => False) ρ ob id R (.sub ti.size x' lo' hi')) : o.wp P a w K Q := by
  have h1 := hρ x x' hx
  simp only [ev] at h
  have run : ∀ (ba : Option Addr) (n cap l hh : Nat), a.eval x = .slice ba n cap → ((lo.map a.eval = none ∧ l = 0) ∨ ∃ k, lo.map a.eval = some (.int k (l : Int))) → ((hi.map a.eval = none ∧ hh = n) ∨ ∃ k, hi.map a.eval = some (.int k (hh : Int))) → l ≤ hh → hh ≤ cap →
      (execOp a.eval o).run P w = .ok (.value (.slice (if cap = l then ba else ba.map (·.add (l * ti.size))) (hh - l) (cap - l))) w := fun ba n cap l hh e hl hh' h1 h2 => by
    have := sub_run (P := P) (w := w) ht hi0 ba n cap _ _ l hh hl hh' h1 h2
    simp [execOp, hop, e, this]
  have A0 : ∀ (k : IntKind) (n : Int) (y : Operand), a.eval y = .int k n → 0 ≤ n → ∃ k', (some y).map a.eval = some (.int k' (n.toNat : Int)) := fun k n y e h0 => ⟨k, by simp [e, Int.toNat_of_nonneg h0]⟩
  have toN : ∀ (n : Int) (m : Nat), 0 ≤ n → n ≤ m → n.toNat ≤ m := fun n m _ _ => by omega
  cases hv : ρ x' <;> rw [hv] at h h1 <;> (try simp only [] at h)
  case l s cs =>
    obtain ⟨ba, n, cap, f, b, q, e1, hsz, hn, hm', hcp, ha, hc, hr⟩ := h1.inv_l
    rw [e1] at h1
    have le_of : ∀ m : Nat, m * s ≤ cs.length → m ≤ n := fun m hmm => by rw [hn] at hmm; exact Nat.le_of_mul_le_mul_right hmm hsz
    rcases opt_x hlo with ⟨rfl, rfl⟩ | ⟨y, y', rfl, rfl, hy⟩ <;> rcases opt_x hhi with ⟨rfl, rfl⟩ | ⟨z, z', rfl, rfl, hz⟩ <;> simp only [Option.map_none, Option.map_some] at h
    · obtain ⟨rfl, hR⟩ := h
      have hk := rep_sub_l (l := 0) (h := n) h1 (Nat.zero_le _) (Nat.le_refl _)
      rw [← hn, List.take_length, Nat.zero_mul, List.drop_zero] at hk
      exact fin_same hm hF (run ba n cap 0 n e1 (.inl ⟨rfl, rfl⟩) (.inl ⟨rfl, rfl⟩) (Nat.zero_le _) hcp) (by simpa using hk) hR
    · have h3 := hρ z z' hz
      cases hu : ρ z' <;> rw [hu] at h h3 <;> (try simp only [] at h)
      case i k m =>
        obtain ⟨⟨rfl, h0, hl⟩, hR⟩ := h
        have hle := le_of _ hl
        have hk := rep_sub_l (l := 0) (h := m.toNat) h1 (Nat.zero_le _) hle
        rw [Nat.zero_mul, List.drop_zero] at hk
        exact fin_same hm hF (run ba n cap 0 m.toNat e1 (.inl ⟨rfl, rfl⟩) (.inr (A0 k m z h3.inv_i h0)) (Nat.zero_le _) (by omega)) (by simpa using hk) hR
    · have h3 := hρ y y' hy
      cases hu : ρ y' <;> rw [hu] at h h3 <;> (try simp only [] at h)
      case i k m =>
        obtain ⟨⟨rfl, h0, hl⟩, hR⟩ := h
        have hle := le_of _ hl
        have hk := rep_sub_l (l := m.toNat) (h := n) h1 hle (Nat.le_refl _)
        rw [← hn, List.take_length] at hk
        exact fin_same hm hF (run ba n cap m.toNat n e1 (.inr (A0 k m y h3.inv_i h0)) (.inl ⟨rfl, rfl⟩) hle hcp) hk hR
    · have h3 := hρ y y' hy
      have h4 := hρ z z' hz
      cases hu : ρ y' <;> rw [hu] at h h3 <;> (try simp only [] at h)
      case i k m =>
        cases hu' : ρ z' <;> rw [hu'] at h h4 <;> (try simp only [] at h)
        case i k' m' =>
          obtain ⟨⟨rfl, h0, hmm, hl⟩, hR⟩ := h
          have hle := le_of _ hl
          exact fin_same hm hF (run ba n cap m.toNat m'.toNat e1 (.inr (A0 k m y h3.inv_i h0)) (.inr (A0 k' m' z h4.inv_i (by omega))) (by omega) (by omega)) (rep_sub_l h1 (by omega) hle) hR
  case ow s j n =>
    obtain ⟨ba, cap, e1, ho, hm', hcp, ha⟩ := h1.inv_ow
    have hs := rep_ow_sl h1
    rw [e1] at h1 hs
    rcases opt_x hlo with ⟨rfl, rfl⟩ | ⟨y, y', rfl, rfl, hy⟩ <;> rcases opt_x hhi with ⟨rfl, rfl⟩ | ⟨z, z', rfl, rfl, hz⟩ <;> simp only [Option.map_none, Option.map_some] at h
    · obtain ⟨rfl, hR⟩ := h
      refine fin_same hm hF (cv := .slice ba n cap) ?_ h1 hR
      have hrun := run ba n cap 0 n e1 (.inl ⟨rfl, rfl⟩) (.inl ⟨rfl, rfl⟩) (Nat.zero_le _) hcp
      rw [hrun]
      rcases ha with rfl | ⟨b, rfl⟩
      · cases ba <;> simp [Addr.add]
      · simp [Addr.add]
    · have h3 := hρ z z' hz
      cases hu : ρ z' <;> rw [hu] at h h3 <;> (try simp only [] at h)
      case i k m =>
        obtain ⟨⟨rfl, h0, hl⟩, hR⟩ := h
        have hk := rep_sub_sl (l := 0) (h := m.toNat) hs (Nat.zero_le _) (by omega)
        exact fin_same hm hF (run ba n cap 0 m.toNat e1 (.inl ⟨rfl, rfl⟩) (.inr (A0 k m z h3.inv_i h0)) (Nat.zero_le _) (by omega)) (by simpa using hk) hR
    · have h3 := hρ y y' hy
      cases hu : ρ y' <;> rw [hu] at h h3 <;> (try simp only [] at h)
      case i k m =>
        obtain ⟨⟨rfl, h0, hl⟩, hR⟩ := h
        have hk := rep_sub_sl (l := m.toNat) (h := n) hs (by omega) (Nat.le_refl _)
        rw [Nat.zero_add] at hk
        exact fin_same hm hF (run ba n cap m.toNat n e1 (.inr (A0 k m y h3.inv_i h0)) (.inl ⟨rfl, rfl⟩) (by omega) hcp) hk hR
    · have h3 := hρ y y' hy
      have h4 := hρ z z' hz
      cases hu : ρ y' <;> rw [hu] at h h3 <;> (try simp only [] at h)
      case i k m =>
        cases hu' : ρ z' <;> rw [hu'] at h h4 <;> (try simp only [] at h)
        case i k' m' =>
          obtain ⟨⟨rfl, h0, hmm, hl⟩, hR⟩ := h
          have hk := rep_sub_sl (l := m.toNat) (h := m'.toNat) hs (by omega) (by omega)
          rw [Nat.zero_add] at hk
          exact fin_same hm hF (run ba n cap m.toNat m'.toNat e1 (.inr (A0 k m y h3.inv_i h0)) (.inr (A0 k' m' z h4.inv_i (by omega))) (by omega) (by omega)) hk hR
  case sl s j off n =>
    obtain ⟨ba, cap, u, e1, hm', hcp, ho, ha⟩ := h1.inv_sl
    rw [e1] at h1
    rcases opt_x hlo with ⟨rfl, rfl⟩ | ⟨y, y', rfl, rfl, hy⟩ <;> rcases opt_x hhi with ⟨rfl, rfl⟩ | ⟨z, z', rfl, rfl, hz⟩ <;> simp only [Option.map_none, Option.map_some] at h
    · obtain ⟨rfl, hR⟩ := h
      have hk := rep_sub_sl (l := 0) (h := n) h1 (Nat.zero_le _) (Nat.le_refl _)
      exact fin_same hm hF (run ba n cap 0 n e1 (.inl ⟨rfl, rfl⟩) (.inl ⟨rfl, rfl⟩) (Nat.zero_le _) hcp) (by simpa using hk) hR
    · have h3 := hρ z z' hz
      cases hu : ρ z' <;> rw [hu] at h h3 <;> (try simp only [] at h)
      case i k m =>
        obtain ⟨⟨rfl, h0, hl⟩, hR⟩ := h
        have hk := rep_sub_sl (l := 0) (h := m.toNat) h1 (Nat.zero_le _) (by omega)
        exact fin_same hm hF (run ba n cap 0 m.toNat e1 (.inl ⟨rfl, rfl⟩) (.inr (A0 k m z h3.inv_i h0)) (Nat.zero_le _) (by omega)) (by simpa using hk) hR
    · have h3 := hρ y y' hy
      cases hu : ρ y' <;> rw [hu] at h h3 <;> (try simp only [] at h)
      case i k m =>
        obtain ⟨⟨rfl, h0, hl⟩, hR⟩ := h
        exact fin_same hm hF (run ba n cap m.toNat n e1 (.inr (A0 k m y h3.inv_i h0)) (.inl ⟨rfl, rfl⟩) (by omega) hcp) (rep_sub_sl h1 (by omega) (Nat.le_refl _)) hR
    · have h3 := hρ y y' hy
      have h4 := hρ z z' hz
      cases hu : ρ y' <;> rw [hu] at h h3 <;> (try simp only [] at h)
      case i k m =>
        cases hu' : ρ z' <;> rw [hu'] at h h4 <;> (try simp only [] at h)
        case i k' m' =>
          obtain ⟨⟨rfl, h0, hmm, hl⟩, hR⟩ := h
          exact fin_same hm hF (run ba n cap m.toNat m'.toNat e1 (.inr (A0 k m y h3.inv_i h0)) (.inr (A0 k' m' z h4.inv_i (by omega))) (by omega) (by omega)) (rep_sub_sl h1 (by omega) (by omega)) hR
  case nl =>
    have e1 := h1.inv_nl
    have nl' : ∀ l hh : Nat, l = 0 → hh = 0 → Rep w H ov (.slice (if 0 = l then none else (none : Option Addr).map (·.add (l * ti.size))) (hh - l) (0 - l)) .nl := fun l hh e e' => by subst e; subst e'; exact .nl
    rcases opt_x hlo with ⟨rfl, rfl⟩ | ⟨y, y', rfl, rfl, hy⟩ <;> rcases opt_x hhi with ⟨rfl, rfl⟩ | ⟨z, z', rfl, rfl, hz⟩ <;> simp only [Option.map_none, Option.map_some] at h
    · exact fin_same hm hF (run none 0 0 0 0 e1 (.inl ⟨rfl, rfl⟩) (.inl ⟨rfl, rfl⟩) (Nat.le_refl _) (Nat.le_refl _)) (nl' 0 0 rfl rfl) h
    · have h3 := hρ z z' hz
      cases hu : ρ z' <;> rw [hu] at h h3 <;> (try simp only [] at h)
      case i k m =>
        obtain ⟨rfl, hR⟩ := h
        exact fin_same hm hF (run none 0 0 0 0 e1 (.inl ⟨rfl, rfl⟩) (.inr (A0 k 0 z h3.inv_i (by omega))) (Nat.le_refl _) (Nat.le_refl _)) (nl' 0 0 rfl rfl) hR
    · have h3 := hρ y y' hy
      cases hu : ρ y' <;> rw [hu] at h h3 <;> (try simp only [] at h)
      case i k m =>
        obtain ⟨rfl, hR⟩ := h
        exact fin_same hm hF (run none 0 0 0 0 e1 (.inr (A0 k 0 y h3.inv_i (by omega))) (.inl ⟨rfl, rfl⟩) (Nat.le_refl _) (Nat.le_refl _)) (nl' 0 0 rfl rfl) hR
    · have h3 := hρ y y' hy
      have h4 := hρ z z' hz
      cases hu : ρ y' <;> rw [hu] at h h3 <;> (try simp only [] at h)
      case i k m =>
        cases hu' : ρ z' <;> rw [hu'] at h h4 <;> (try simp only [] at h)
        case i k' m' =>
          obtain ⟨⟨rfl, rfl⟩, hR⟩ := h
          exact fin_same hm hF (run none 0 0 0 0 e1 (.inr (A0 k 0 y h3.inv_i (by omega))) (.inr (A0 k' 0 z h4.inv_i (by omega))) (Nat.le_refl _) (Nat.le_refl _)) (nl' 0 0 rfl rfl) hR

theorem s_ssub {t : TypeId} {x : Operand} {lo hi : Option Operand} {x' : X} {lo' hi' : Option X} (hop : o.op = .slice t x lo hi none) (ht : P.underlying t = some .string) (hx : cX x = some x') (hlo : cX? lo = some lo') (hhi : cX? hi = some hi')
    (h : ev (fun _ _ _ => False) (fun _ _ _ => False) ρ ob id R (.ssub x' lo' hi')) : o.wp P a w K Q := by
  have h1 := hρ x x' hx
  simp only [ev] at h
  have ext : ∀ (l : List UInt8) (p q : Nat), (⟨l.toArray⟩ : ByteArray).extract p q = ⟨((l.take q).drop p).toArray⟩ := fun l p q => by
    apply ByteArray.ext
    simp [ByteArray.data_extract, List.extract_eq_take_drop, List.drop_take]
  cases hv : ρ x' <;> rw [hv] at h h1 <;> (try simp only [] at h)
  case s l =>
    have hsz := size_str l
    rcases opt_x hlo with ⟨rfl, rfl⟩ | ⟨y, y', rfl, rfl, hy⟩ <;> rcases opt_x hhi with ⟨rfl, rfl⟩ | ⟨z, z', rfl, rfl, hz⟩ <;> simp only [Option.map_none, Option.map_some] at h
    · refine fin_same hm hF (cv := .string ⟨l.toArray⟩) ?_ (.s _) h
      have e := ext l 0 l.length
      simp [execOp, hop, h1.inv_s, Instr.sliceAt, Instr.slice, Instr.sliceBounds, run_underlying ht, hsz, e]
    · have h2 := hρ z z' hz
      cases hu : ρ z' <;> rw [hu] at h h2 <;> (try simp only [] at h)
      case i k n =>
        obtain ⟨⟨h0, hl⟩, hR⟩ := h
        refine fin_same hm hF (cv := .string ⟨(l.take n.toNat).toArray⟩) ?_ (.s _) hR
        have e := ext l 0 n.toNat
        have hl' : n.toNat ≤ l.length := by omega
        simp [execOp, hop, h1.inv_s, h2.inv_i, Instr.sliceAt, Instr.slice, Instr.sliceBounds, Instr.sliceBound, asIntOf, run_underlying ht, hsz, h0, hl, e]
    · have h2 := hρ y y' hy
      cases hu : ρ y' <;> rw [hu] at h h2 <;> (try simp only [] at h)
      case i k n =>
        obtain ⟨⟨h0, hl⟩, hR⟩ := h
        refine fin_same hm hF (cv := .string ⟨(l.drop n.toNat).toArray⟩) ?_ (.s _) hR
        have e := ext l n.toNat l.length
        simp [execOp, hop, h1.inv_s, h2.inv_i, Instr.sliceAt, Instr.slice, Instr.sliceBounds, Instr.sliceBound, asIntOf, run_underlying ht, hsz, h0, hl, e]
    · have h2 := hρ y y' hy
      have h3 := hρ z z' hz
      cases hu : ρ y' <;> rw [hu] at h h2 <;> (try simp only [] at h)
      case i k n =>
        cases hu' : ρ z' <;> rw [hu'] at h h3 <;> (try simp only [] at h)
        case i k' m =>
          obtain ⟨⟨h0, hl, hl2⟩, hR⟩ := h
          refine fin_same hm hF (cv := .string ⟨((l.take m.toNat).drop n.toNat).toArray⟩) ?_ (.s _) hR
          have e := ext l n.toNat m.toNat
          have h00 : 0 ≤ m := by omega
          have h01 : n ≤ max m 0 := by omega
          simp [execOp, hop, h1.inv_s, h2.inv_i, h3.inv_i, Instr.sliceAt, Instr.slice, Instr.sliceBounds, Instr.sliceBound, asIntOf, run_underlying ht, hsz, h0, h00, hl, hl2, e, h01]
end ops
end Go.Proofs.Ytngohbpgdeiodaa.Ab
