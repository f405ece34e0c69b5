/-
  The abstract layer: regions whose order is open: any order serves.
-/
import Derived.Test.YtngohbpgdeiodaaAb11
namespace Go.Proofs.Ytngohbpgdeiodaa.Ab
set_option linter.unusedSimpArgs false
set_option linter.unusedVariables false
open Go Go.RowKit

theorem looks_xs {o : AO} {n : Nat} (h : X.t n ∈ o.op.xs) : n ∈ o.looks := by
  have : ∀ xs : List X, X.t n ∈ xs → n ∈ slotsX xs := fun xs => by
    induction xs with
    | nil => intro h; cases h
    | cons x r ih =>
      intro h
      rcases List.mem_cons.1 h with e | h'
      · subst e; exact List.mem_cons_self
      · cases x <;> simp only [slotsX]
        · exact List.mem_cons_of_mem _ (ih h')
        · exact ih h'
  exact List.mem_append.2 (.inr (this _ h))

theorem noRef_of {xs : List X} (h : noRefX xs = true) {v : V} (hx : X.k v ∈ xs) : v.ref = none := by
  induction xs with
  | nil => cases hx
  | cons x r ih =>
    rcases List.mem_cons.1 hx with e | hx'
    · subst e
      simp only [noRefX, Bool.and_eq_true] at h
      simpa using h.1
    · cases x <;> simp only [noRefX, Bool.and_eq_true] at h
      · exact ih h hx'
      · exact ih h.2 hx'

theorem compat_spec {o p : AO} (h : compat o p = true) :
    (∀ d, o.dst = some d → d ∉ p.looks ∧ p.dst ≠ some d) ∧ (∀ d, p.dst = some d → d ∉ o.looks) ∧ (o.op.mut = true → p.op.tou = false) ∧ (p.op.mut = true → o.op.tou = false) := by
  unfold compat at h
  simp only [Bool.and_eq_true] at h
  obtain ⟨⟨⟨h1, h2⟩, h3⟩, h4⟩ := h
  refine ⟨fun d hd => ?_, fun d hd => ?_, fun hm => ?_, fun hm => ?_⟩
  · rw [hd] at h1; simp at h1; exact h1
  · rw [hd] at h2; simp at h2; exact h2
  · rw [hm] at h3; simpa using h3
  · rw [hm] at h4; simpa using h4

section
variable {P : Program} {J : World → Prop} {w0 : World} {H0 : Nat → Prop} {N : Nat} {ops : Array Oper} {al : List AO} {Q : Exit → Act → World → Prop} {s : St} {rs : List Rc}

structure Inv (P : Program) (w0 : World) (H0 : Nat → Prop) (N : Nat) (ops : Array Oper) (s : St) (rs : List Rc) (listed : Array Bool) (a : Act) (w : World) (H : Nat → Prop) (ov : Nat → Option Value) : Prop where
  len : listed.size = ops.size
  down : ∀ (k : Nat) (o : Oper), listed[k]? = some true → ops[k]? = some o → ∀ e, e ∈ o.after.toList → Region.binds .any e = true → listed[e.on]? = some true
  mem : Mem w0 H0 w H ov (oM s.ob rs listed.toList)
  env : ∀ t, Rep w H ov (a.tmps.getD t undef) (eM s.get rs listed.toList t)
  siz : a.tmps.size = N
  dfr : a.defers = []
  new1 : ∀ i, i < ops.size → listed[i]? = some false → ov (s.nx + i) = none
  new2 : ∀ id, s.nx + ops.size ≤ id → ov id = none

theorem yield_of2 {w : World} {H : Nat → Prop} {ov : Nat → Option Value} {a : Act} {j t : Nat} {v : V} (hj : (ops[j]?).bind (·.dst) = some t) (h : Rep w H ov (a.tmps.getD t undef) v) : (∀ x, v = .b x → yielded ops a.tmps j = some x) ∧ (v = .un → yielded ops a.tmps j = none) := by
  have e : yielded ops a.tmps j = match (a.tmps[t]? : Option Value) with | some (.bool b) => some b | _ => none := by
    unfold yielded; rw [hj]; rfl
  constructor
  · intro x hx
    rw [hx] at h
    have h1 := h.inv_b
    rw [e]
    simp only [Array.getD_eq_getD_getElem?] at h1
    cases h2 : a.tmps[t]? with
    | none => rw [h2] at h1; simp [undef] at h1
    | some v => rw [h2] at h1; simp at h1; subst h1; rfl
  · intro hx
    rw [hx] at h
    have h1 := h.inv_un
    rw [e]
    simp only [Array.getD_eq_getD_getElem?] at h1
    cases h2 : a.tmps[t]? with
    | none => rfl
    | some v => rw [h2] at h1; simp at h1; subst h1; rfl

theorem gv_cases2 {w : World} {H : Nat → Prop} {ov : Nat → Option Value} {a : Act} {s' : St} {o : Oper} {g : Option (Nat × Bool)} (hg : cG ops o.guard = some g) (hr : ∀ t b, g = some (t, b) → Rep w H ov (a.tmps.getD t undef) (s'.get t)) {run skip : Prop} (h : gv g s' run skip) :
    (Region.wanted o (yielded ops a.tmps) = true ∧ run) ∨ (Region.wanted o (yielded ops a.tmps) = false ∧ skip) := by
  unfold Region.wanted
  cases hgd : o.guard with
  | none => rw [hgd] at hg; simp only [cG, Option.some.injEq] at hg; subst hg; exact .inl ⟨rfl, h⟩
  | some jw =>
    obtain ⟨j, want⟩ := jw
    rw [hgd] at hg
    simp only [cG] at hg
    split at hg
    · rename_i t ht
      simp only [Option.some.injEq] at hg
      subst hg
      obtain ⟨y1, y2⟩ := yield_of2 (ops := ops) ht (hr t want rfl)
      simp only []
      cases want <;> simp only [gv] at h
      · cases hx : s'.get t <;> rw [hx] at h <;> simp only [] at h
        case b x =>
          rw [y1 x hx]
          cases x
          · exact .inl ⟨rfl, h.2 rfl⟩
          · exact .inr ⟨rfl, h.1 rfl⟩
        case un => rw [y2 hx]; exact .inr ⟨rfl, h⟩
      · cases hx : s'.get t <;> rw [hx] at h <;> simp only [] at h
        case b x =>
          rw [y1 x hx]
          cases x
          · exact .inr ⟨rfl, h.2 rfl⟩
          · exact .inl ⟨rfl, h.1 rfl⟩
        case un => rw [y2 hx]; exact .inr ⟨rfl, h⟩
    · cases hg

theorem befs_fix (hed : ∀ (k : Nat) (o : Oper), ops.toList[k]? = some o → ∀ e, e ∈ o.after.toList → Region.binds .any e = true → e.on < k) {k : Nat} {o : Oper} (hk : ops.toList[k]? = some o) : (befs ops.toList []).getD k 0 = bef1 (befs ops.toList []) o.after.toList := by
  have := befs_get ops.toList [] k o hk (fun e h1 h2 => by have := hed k o hk e h1 h2; simp; exact this)
  simpa using this

/-- What lies before a listed operation is listed. -/
theorem down_closed (hed : ∀ (k : Nat) (o : Oper), ops.toList[k]? = some o → ∀ e, e ∈ o.after.toList → Region.binds .any e = true → e.on < k) {listed : Array Bool}
    (down : ∀ (k : Nat) (o : Oper), listed[k]? = some true → ops[k]? = some o → ∀ e, e ∈ o.after.toList → Region.binds .any e = true → listed[e.on]? = some true) (hlen : listed.size = ops.size) :
    ∀ k i, listed[k]? = some true → ((befs ops.toList []).getD k 0).testBit i = true → listed[i]? = some true := by
  intro k
  induction k using Nat.strongRecOn with
  | _ k ih =>
    intro i hk hb
    have hlt : k < ops.size := by rw [← hlen]; exact (Array.getElem?_eq_some_iff.1 hk).1
    have ho : ops.toList[k]? = some ops[k] := by simp [hlt]
    rw [befs_fix hed ho] at hb
    obtain ⟨e, h1, h2, h3⟩ := bef1_spec hb
    have hon := down k ops[k] hk (by simp [hlt]) e h1 h2
    rcases h3 with h3 | h3
    · rw [h3]; exact hon
    · exact ih e.on (hed k _ ho e h1 h2) i hon h3

theorem any_order (hJs : ∀ w', Below w0.heap.size w0 w' → J w') (hcR : cRg P N ops ops.toList = some al) (hdr : drawOk ops.toList al = true) (hT : Trc (AFun P J) (XFun P) al s rs) (h0ref : ∀ t j, (s.get t).ref = some j → j < s.nx)
    (hQ : ∀ w' H' ov' a', Conc w0 H0 w' H' ov' N a' (endSt s rs) → Q .normal a' w') :
    ∀ (fuel : Nat) (listed : Array Bool) (a : Act) (w : World) (H : Nat → Prop) (ov : Nat → Option Value), (listed.toList.filter (· == false)).length ≤ fuel → Inv P w0 H0 N ops s rs listed a w H ov → wpAny P .any ops Q fuel listed a w := by
  obtain ⟨hlen, hget⟩ := cRg_get hcR
  obtain ⟨hrl, hrs⟩ := trc_get hT
  have hrs_len : rs.length = ops.size := by rw [hrl, ← hlen]; simp
  unfold drawOk at hdr
  simp only [Bool.and_eq_true, List.all_eq_true, List.mem_range, Array.length_toList] at hdr
  obtain ⟨hnr0, hdr⟩ := hdr
  have hnr := fun x hx => (hnr0 x hx).1
  have hed : ∀ (k : Nat) (o : Oper), ops.toList[k]? = some o → ∀ e, e ∈ o.after.toList → Region.binds .any e = true → e.on < k := fun k o hk e h1 h2 => by
    have hlt : k < ops.size := by simpa using (List.getElem?_eq_some_iff.1 hk).1
    have := (hdr k hlt).1
    rw [hk] at this
    have := List.all_eq_true.1 this e h1
    simpa [h2] using this
  have hpair : ∀ k i, k < ops.size → i < k → ((befs ops.toList []).getD k 0).testBit i = false → ∃ o p, al[i]? = some o ∧ al[k]? = some p ∧ compat o p = true := fun k i hk hi hb => by
    have := (hdr k hk).2 i hi
    rw [hb] at this
    simp only [Bool.false_or] at this
    split at this
    · rename_i o p h1 h2; exact ⟨o, p, h1, h2, this⟩
    · cases this
  have hdid : ∀ (k : Nat), k < ops.size → ∃ o p g r, ops[k]? = some o ∧ al[k]? = some ⟨o.dst, g, p⟩ ∧ cOpB P o.op = some p ∧ cG ops o.guard = some g ∧ dOk N o.dst = true ∧ rs[k]? = some r ∧ Did (AFun P J) (XFun P) ⟨o.dst, g, p⟩ (endSt s (rs.take k)) r := fun k hk => by
    have ho : ops.toList[k]? = some ops[k] := by simp [hk]
    obtain ⟨p, g, h1, h2, h3, h4⟩ := hget k _ ho
    obtain ⟨r, h5, h6⟩ := hrs k _ h1
    exact ⟨ops[k], p, g, r, by simp [hk], h1, h2, h3, h4, h5, h6⟩
  have hnx : ∀ k, k ≤ ops.size → (endSt s (rs.take k)).nx = s.nx + k := fun k hk => by
    rw [(endSt_get (rs.take k) s).2.2, List.length_take, hrs_len]; omega
  have takelen : ∀ k, k ≤ ops.size → (rs.take k).length = k := fun k hk => by rw [List.length_take, hrs_len]; omega
  -- all is listed: the end
  have fin : ∀ (listed : Array Bool) (a : Act) (w : World) (H : Nat → Prop) (ov : Nat → Option Value), Inv P w0 H0 N ops s rs listed a w H ov → (∀ i, i < ops.size → listed[i]? = some true) → Q .normal a w := fun listed a w H ov inv hall => by
    have e : listed.toList = List.replicate rs.length true := by
      apply List.ext_getElem?
      intro i
      by_cases hi : i < ops.size
      · have := hall i hi
        rw [Array.getElem?_toList, this, List.getElem?_replicate, if_pos (by omega)]
      · rw [List.getElem?_eq_none (by simp [inv.len]; omega), List.getElem?_eq_none (by simp [hrs_len]; omega)]
    obtain ⟨e1, e2, e3⟩ := endSt_get rs s
    refine hQ w H ov a ⟨?_, inv.siz, inv.dfr, fun t => ?_, fun id hid => inv.new2 id (by rw [e3, hrs_len] at hid; exact hid)⟩
    · rw [e2, ← e]; exact inv.mem
    · rw [e1, ← e]; exact inv.env t
  -- whatever is not listed: the first of it is ready
  have ready_of : ∀ (listed : Array Bool), listed.size = ops.size → ∀ i, i < ops.size → listed[i]? = some false → (∀ j, j < i → listed[j]? = some true) → i ∈ Region.ready .any ops listed := fun listed hl i hi hf hb => by
    unfold Region.ready
    refine List.mem_filter.2 ⟨List.mem_range.2 hi, ?_⟩
    have h1 : listed.getD i true = false := by simp [Array.getD_eq_getD_getElem?, hf]
    rw [h1]
    simp only [Bool.not_false, Bool.true_and]
    rw [Array.getElem?_eq_getElem hi]
    simp only [Option.map_some, Option.getD_some]
    rw [Array.all_eq_true]
    intro q hq
    have hm : ops[i].after[q] ∈ ops[i].after.toList := by simp
    cases hbd : Region.binds .any ops[i].after[q] with
    | false => simp
    | true =>
      have := hed i ops[i] (by simp [hi]) _ hm hbd
      simp [Array.getD_eq_getD_getElem?, hb _ this]
  have none_ready : ∀ (listed : Array Bool), listed.size = ops.size → Region.ready .any ops listed = [] → ∀ i, i < ops.size → listed[i]? = some true := fun listed hl hr => by
    intro i
    induction i using Nat.strongRecOn with
    | _ i ih =>
      intro hi
      have hlt : i < listed.size := by omega
      cases hv : listed[i]
      · have := ready_of listed hl i hi (by rw [Array.getElem?_eq_getElem hlt, hv]) (fun j hj => ih j hj (by omega))
        rw [hr] at this; cases this
      · rw [Array.getElem?_eq_getElem hlt, hv]
  intro fuel
  induction fuel with
  | zero =>
    intro listed a w H ov hf inv
    have hall : ∀ i, i < ops.size → listed[i]? = some true := fun i hi => by
      have hlt : i < listed.size := by rw [inv.len]; exact hi
      cases hv : listed[i]
      · exfalso
        have : false ∈ listed.toList.filter (· == false) := List.mem_filter.2 ⟨by rw [← hv]; simp, rfl⟩
        have h0 : (listed.toList.filter (· == false)).length = 0 := by omega
        rw [List.length_eq_zero_iff] at h0
        rw [h0] at this; cases this
      · rw [Array.getElem?_eq_getElem hlt, hv]
    refine ⟨?_, fin listed a w H ov inv hall⟩
    unfold Region.ready
    rw [List.filter_eq_nil_iff]
    intro i hi
    have := hall i (List.mem_range.1 hi)
    simp [Array.getD_eq_getD_getElem?, this]
  | succ fuel ih =>
    intro listed a w H ov hf inv
    refine ⟨fun hr => fin listed a w H ov inv (none_ready listed inv.len hr), fun i hi => ?_⟩
    unfold Region.ready at hi
    obtain ⟨hi1, hi2⟩ := List.mem_filter.1 hi
    have hilt : i < ops.size := List.mem_range.1 hi1
    simp only [Bool.and_eq_true] at hi2
    obtain ⟨hnl, hpre⟩ := hi2
    have hlt' : i < listed.size := by rw [inv.len]; exact hilt
    have hif : listed[i]? = some false := by
      rw [Array.getElem?_eq_getElem hlt']
      simp only [Array.getD_eq_getD_getElem?, Array.getElem?_eq_getElem hlt', Option.getD_some] at hnl
      simpa using hnl
    obtain ⟨o, p, g, r, ho, hal, hcp, hcg, hdd, hri, hdi⟩ := hdid i hilt
    rw [ho] at hpre
    simp only [Option.map_some, Option.getD_some] at hpre
    have hpre' : ∀ e, e ∈ o.after.toList → Region.binds .any e = true → listed[e.on]? = some true := fun e h1 h2 => by
      obtain ⟨q, hq, rfl⟩ := List.getElem_of_mem h1
      have := Array.all_eq_true.1 hpre q (by simpa using hq)
      simp only [Array.getElem_toList] at h2 ⊢
      rw [h2] at this
      simp only [Bool.not_true, Bool.false_or] at this
      rw [Array.getD_eq_getD_getElem?] at this
      cases hx : listed[o.after[q].on]? with
      | none => rw [hx] at this; simp at this
      | some x => rw [hx] at this; simp at this; rw [this]
    have closed := down_closed hed inv.down inv.len
    have closed_i : ∀ k, ((befs ops.toList []).getD i 0).testBit k = true → listed[k]? = some true := fun k hb => by
      rw [befs_fix hed (by rw [Array.getElem?_toList]; exact ho)] at hb
      obtain ⟨e, h1, h2, h3⟩ := bef1_spec hb
      rcases h3 with h3 | h3
      · rw [h3]; exact hpre' e h1 h2
      · exact closed e.on k (hpre' e h1 h2) h3
    -- what stands apart from i
    have apartLo : ∀ k q, k < i → rs[k]? = some q → listed[k]? = some false → ∃ o' p' g', al[k]? = some ⟨o', g', p'⟩ ∧ q.dst = o' ∧ compat ⟨o', g', p'⟩ ⟨o.dst, g, p⟩ = true ∧ Did (AFun P J) (XFun P) ⟨o', g', p'⟩ (endSt s (rs.take k)) q := fun k q hk hq hkf => by
      obtain ⟨o', p', g', r', _, hal', _, _, _, hr', hd'⟩ := hdid k (by omega)
      have hb : ((befs ops.toList []).getD i 0).testBit k = false := by
        cases hx : ((befs ops.toList []).getD i 0).testBit k
        · rfl
        · have := closed_i k hx; rw [hkf] at this; cases this
      obtain ⟨x, y, h1, h2, h3⟩ := hpair i k hilt hk hb
      rw [hal'] at h1; rw [hal] at h2
      cases h1; cases h2
      rw [hq] at hr'; cases hr'
      exact ⟨o'.dst, p', g', hal', hd'.1, h3, hd'⟩
    have apartHi : ∀ k q, i < k → rs[k]? = some q → listed[k]? = some true → ∃ o' p' g', al[k]? = some ⟨o', g', p'⟩ ∧ q.dst = o' ∧ compat ⟨o.dst, g, p⟩ ⟨o', g', p'⟩ = true ∧ Did (AFun P J) (XFun P) ⟨o', g', p'⟩ (endSt s (rs.take k)) q := fun k q hk hq hkt => by
      have hklt : k < ops.size := by rw [← inv.len]; exact (Array.getElem?_eq_some_iff.1 hkt).1
      obtain ⟨o', p', g', r', _, hal', _, _, _, hr', hd'⟩ := hdid k hklt
      have hb : ((befs ops.toList []).getD k 0).testBit i = false := by
        cases hx : ((befs ops.toList []).getD k 0).testBit i
        · rfl
        · have := closed k i hkt hx; rw [hif] at this; cases this
      obtain ⟨x, y, h1, h2, h3⟩ := hpair k i hklt hk hb
      rw [hal] at h1; rw [hal'] at h2
      cases h1; cases h2
      rw [hq] at hr'; cases hr'
      exact ⟨o'.dst, p', g', hal', hd'.1, h3, hd'⟩
    obtain ⟨hdst, hgv, href, hupd⟩ := hdi
    simp only at hdst hgv hupd
    have hilist : listed.toList[i]? = some false := by rw [Array.getElem?_toList]; exact hif
    have hll : listed.toList.length = rs.length := by simp [inv.len, hrs_len]
    obtain ⟨e1, e2, e3⟩ := endSt_get (rs.take i) s
    rw [takelen i (by omega)] at e1 e2
    -- the slots that it looks at read as in the text's order
    have slot : ∀ t, t ∈ (⟨o.dst, g, p⟩ : AO).looks → eM s.get rs listed.toList t = (endSt s (rs.take i)).get t := fun t ht => by
      rw [e1]
      refine eM_same rs listed.toList i _ _ t hll rfl (fun k q hk hq hm he => ?_) (fun k q hk hq hm he => ?_)
      · rw [Array.getElem?_toList] at hm
        obtain ⟨o', p', g', _, hqd, hcm, _⟩ := apartLo k q hk hq hm
        have := (compat_spec hcm).1 t (by rw [← hqd]; exact he)
        exact this.1 ht
      · rw [Array.getElem?_toList] at hm
        rcases Nat.lt_or_ge i k with hik | hik
        · obtain ⟨o', p', g', _, hqd, hcm, _⟩ := apartHi k q hik hq hm
          exact (compat_spec hcm).2.1 t (by rw [← hqd]; exact he) ht
        · have : k = i := by omega
          subst this
          rw [hif] at hm; cases hm
    have hnxi := hnx i (by omega)
    have hob_none : oM s.ob rs listed.toList (s.nx + i) = none := by
      cases hx : oM s.ob rs listed.toList (s.nx + i) with
      | none => rfl
      | some ob =>
        obtain ⟨v, hv, _⟩ := inv.mem.obj _ _ hx
        rw [inv.new1 i hilt hif] at hv; cases hv
    have ρdef : ∃ ρ : X → V, (∀ n, ρ (.t n) = eM s.get rs listed.toList n) ∧ ∀ v, ρ (.k v) = v := ⟨fun x => match x with | .t n => eM s.get rs listed.toList n | .k v => v, fun _ => rfl, fun _ => rfl⟩
    obtain ⟨ρ, hρt, hρk⟩ := ρdef
    have hρ : ∀ q x, cX q = some x → Rep w H ov (a.eval q) (ρ x) := fun q x hx => by
      have hc0 : Conc w0 H0 w H ov N a { env := [], obs := [], nx := s.nx + ops.size } := ⟨⟨inv.mem.bel, inv.mem.Hlt, inv.mem.low, fun id o h => (by cases h), fun i j oi oj vi vj b hij h => (by cases h)⟩, inv.siz, inv.dfr, fun t => .any _, inv.new2⟩
      cases q with
      | tmp t => simp only [cX, Option.some.injEq] at hx; subst hx; rw [hρt]; exact inv.env t
      | const v => have := hc0.val (.const v) x hx; simp only [cX, Option.some.injEq] at hx; subst hx; rw [hρk]; exact this
      | func f => have := hc0.val (.func f) x hx; simp only [cX, Option.some.injEq] at hx; subst hx; rw [hρk]; exact this
      | global g => have := hc0.val (.global g) x hx; simp only [cX, Option.some.injEq] at hx; subst hx; rw [hρk]; exact this
    have vals : ∀ x, x ∈ p.xs → (endSt s (rs.take i)).val x = ρ x := fun x hx => by
      cases x with
      | t n => rw [hρt, slot n (looks_xs (o := ⟨o.dst, g, p⟩) hx)]; rfl
      | k v => rw [hρk]; rfl
    -- how the mask goes on
    have invNext : ∀ (cv : Value) (w' : World) (H' : Nat → Prop) (ov' : Nat → Option Value), Ext w H ov w' H' ov' → (∀ j, j ≠ s.nx + i → ov j = none → ov' j = none) → Mem w0 H0 w' H' ov' (upd (oM s.ob rs listed.toList) r.up) → Rep w' H' ov' cv r.v →
        Inv P w0 H0 N ops s rs (listed.setIfInBounds i true) (a.put o.dst cv) w' H' ov' := fun cv w' H' ov' hext hn hmem hrep => by
      have et : (listed.setIfInBounds i true).toList = listed.toList.set i true := by simp
      refine ⟨by simp [inv.len], fun k o' hk ho' e h1 h2 => ?_, ?_, fun t => ?_, ?_, ?_, fun j hj hjf => ?_, fun id hid => hn id (by omega) (inv.new2 id hid)⟩
      · rw [Array.getElem?_setIfInBounds] at hk ⊢
        have keep : listed[e.on]? = some true → (if i = e.on then if i < listed.size then some true else none else listed[e.on]?) = some true := fun h => by
          by_cases h1 : i = e.on
          · rw [if_pos h1, if_pos hlt']
          · rw [if_neg h1]; exact h
        by_cases hik : i = k
        · subst hik
          rw [ho] at ho'; cases ho'
          exact keep (hpre' e h1 h2)
        · rw [if_neg hik] at hk
          exact keep (inv.down k o' hk ho' e h1 h2)
      · rw [et, oM_set rs listed.toList i s.ob r hri hilist]
        · exact hmem
        · intro k q hk hq hm j x y hx hy
          rw [Array.getElem?_toList] at hm
          obtain ⟨o', p', g', hal', _, hcm, hd'⟩ := apartHi k q hk hq hm
          have hklt : k < ops.size := by rw [← inv.len]; exact (Array.getElem?_eq_some_iff.1 hm).1
          have notou_nil : ∀ (k : Nat) (o1 : Option Nat) (g1 : Option (Nat × Bool)) (p1 : AOp) (q1 : Rc), p1.tou = false → Did (AFun P J) (XFun P) ⟨o1, g1, p1⟩ (endSt s (rs.take k)) q1 → q1.up = [] := fun k o1 g1 p1 q1 ht hd => by
            have hgv1 := hd.2.1
            simp only at hgv1
            cases g1 with
            | none => exact notou_up ht hgv1
            | some tw =>
              obtain ⟨t, want⟩ := tw
              cases want <;> simp only [gv] at hgv1
              all_goals
                cases hx1 : (endSt s (rs.take k)).get t <;> rw [hx1] at hgv1 <;> (try exact hgv1.elim)
              case false.b x1 => exact Bool.casesOn (motive := fun b => (cnd (.b b) (q1.v = .un ∧ q1.up = []) (ev (AFun P J) (XFun P) (endSt s (rs.take k)).val (endSt s (rs.take k)).ob (endSt s (rs.take k)).nx (fun v up => v = q1.v ∧ up = q1.up) p1)) → q1.up = []) x1 (fun h => notou_up ht (h.2 rfl)) (fun h => (h.1 rfl).2) hgv1
              case true.b x1 => exact Bool.casesOn (motive := fun b => (cnd (.b b) (ev (AFun P J) (XFun P) (endSt s (rs.take k)).val (endSt s (rs.take k)).ob (endSt s (rs.take k)).nx (fun v up => v = q1.v ∧ up = q1.up) p1) (q1.v = .un ∧ q1.up = [])) → q1.up = []) x1 (fun h => (h.2 rfl).2) (fun h => notou_up ht (h.1 rfl)) hgv1
              case false.un => exact hgv1.2
              case true.un => exact hgv1.2
          obtain ⟨_, _, hcm3, hcm4⟩ := compat_spec hcm
          simp only at hcm3 hcm4
          cases hmi : p.mut with
          | true =>
            have := notou_nil k o' g' p' q (hcm3 hmi) hd'
            rw [this] at hy; cases hy
          | false =>
            cases hmk : p'.mut with
            | true =>
              have := notou_nil i o.dst g p r (hcm4 hmk) ⟨hdst, hgv, href, hupd⟩
              rw [this] at hx; cases hx
            | false =>
              rw [hmi] at hupd
              have hd4 := hd'.2.2.2
              simp only [hmk, Bool.false_or] at hd4 hupd
              have a1 := List.all_eq_true.1 hupd _ hx
              have a2 := List.all_eq_true.1 hd4 _ hy
              simp only [beq_iff_eq] at a1 a2
              rw [hnxi] at a1
              rw [hnx k (by omega)] at a2
              omega
      · have hbase : Rep w' H' ov' (a.tmps.getD t undef) (eM s.get rs listed.toList t) := (inv.env t).mono hext
        rw [et, eM_set rs listed.toList i s.get r hri hilist]
        · rw [hdst]
          cases hod : o.dst with
          | none => exact hbase
          | some d =>
            have hdN : d < a.tmps.size := by rw [inv.siz]; rw [hod] at hdd; simpa [dOk] using hdd
            rw [put_getD hdN]
            simp only [putf]
            split
            · exact hrep
            · exact hbase
        · intro k q hk hq hm t' ht' he
          rw [Array.getElem?_toList] at hm
          obtain ⟨o', p', g', _, hqd, hcm, _⟩ := apartHi k q hk hq hm
          rw [hdst] at he
          have := (compat_spec hcm).1 t' he
          exact this.2 (by rw [← hqd]; exact ht')
      · cases hod : o.dst with
        | none => exact inv.siz
        | some d => simp [Act.put, inv.siz]
      · cases hod : o.dst <;> exact inv.dfr
      · rw [Array.getElem?_setIfInBounds] at hjf
        by_cases hij : i = j
        · rw [if_pos hij, if_pos hlt'] at hjf; cases hjf
        · rw [if_neg hij] at hjf
          exact hn _ (by omega) (inv.new1 j hj hjf)
    have count : ((listed.setIfInBounds i true).toList.filter (· == false)).length ≤ fuel := by
      have et : (listed.setIfInBounds i true).toList = listed.toList.set i true := by simp
      have gen : ∀ (l : List Bool) (i : Nat), l[i]? = some false → ((l.set i true).filter (· == false)).length + 1 = (l.filter (· == false)).length := fun l => by
        induction l with
        | nil => intro i h; simp at h
        | cons b l ihl =>
          intro i h
          cases i with
          | zero => simp at h; subst h; simp
          | succ i =>
            have := ihl i (by simpa using h)
            cases b <;> simp [List.set_cons_succ, List.filter_cons] at this ⊢ <;> omega
      have := gen listed.toList i hilist
      rw [et]; omega
    -- the operation itself
    unfold wpOp
    rw [ho]
    simp only []
    rcases gv_cases2 (ops := ops) (a := a) (w := w) (H := H) (ov := ov) hcg (fun t b hgt => by
        have : t ∈ (⟨o.dst, g, p⟩ : AO).looks := by unfold AO.looks; rw [hgt]; exact List.mem_append.2 (.inl (List.mem_singleton.2 rfl))
        rw [← slot t this]; exact inv.env t) hgv with ⟨hw, hrun⟩ | ⟨hw, hsk⟩
    · rw [if_pos hw]
      refine .inl ?_
      have hev : ev (AFun P J) (XFun P) ρ (oM s.ob rs listed.toList) (s.nx + i) (fun v up => v = r.v ∧ up = r.up) p := by
        rw [hnxi] at hrun
        refine ev_congr vals (fun htou x hx j hj => ?_) hrun
        rw [e2]
        symm
        refine oM_same rs listed.toList i _ _ j hll rfl (fun k q hk hq hm x' hx' => ?_) (fun k q hk hq hm x' hx' => ?_)
        · rw [Array.getElem?_toList] at hm
          obtain ⟨o', p', g', hal', _, hcm, hd'⟩ := apartLo k q hk hq hm
          obtain ⟨_, _, hcm3, hcm4⟩ := compat_spec hcm
          simp only at hcm3 hcm4
          cases hmk : p'.mut with
          | true => rw [hcm3 hmk] at htou; cases htou
          | false =>
            have hd4 := hd'.2.2.2
            simp only [hmk, Bool.false_or] at hd4
            have a2 := List.all_eq_true.1 hd4 _ hx'
            simp only [beq_iff_eq] at a2
            rw [hnx k (by omega)] at a2
            -- the object is not there yet
            cases x with
            | t n =>
              have hrn := inv.env n
              rw [slot n (looks_xs (o := ⟨o.dst, g, p⟩) hx)] at hrn
              have hj' : ((endSt s (rs.take i)).get n).ref = some j := hj
              have : ov j ≠ none := by
                cases hgn : (endSt s (rs.take i)).get n <;> rw [hgn] at hj' hrn <;> simp [V.ref] at hj'
                · obtain ⟨_, _, _, h4, _⟩ := hrn.inv_ow; subst hj'; rw [h4]; simp
                · obtain ⟨_, _, _, _, _, _, h4, _⟩ := hrn.inv_sl; subst hj'; rw [h4]; simp
                · obtain ⟨_, _, _, h4, _⟩ := hrn.inv_pt; subst hj'; rw [h4]; simp
              apply this
              rw [a2]
              exact inv.new1 k (by omega) hm
            | k v =>
              have := noRef_of (hnr ⟨o.dst, g, p⟩ (List.mem_of_getElem? hal)) hx
              have hj' : v.ref = some j := hj
              rw [this] at hj'; cases hj'
        · rw [Array.getElem?_toList] at hm
          have hik : i < k := by
            rcases Nat.lt_or_ge i k with h | h
            · exact h
            · have : k = i := by omega
              subst this; rw [hif] at hm; cases hm
          obtain ⟨o', p', g', hal', _, hcm, hd'⟩ := apartHi k q hik hq hm
          obtain ⟨_, _, hcm3, hcm4⟩ := compat_spec hcm
          simp only at hcm3 hcm4
          have hklt : k < ops.size := by rw [← inv.len]; exact (Array.getElem?_eq_some_iff.1 hm).1
          cases hmk : p'.mut with
          | true => rw [hcm4 hmk] at htou; cases htou
          | false =>
            have hd4 := hd'.2.2.2
            simp only [hmk, Bool.false_or] at hd4
            have a2 := List.all_eq_true.1 hd4 _ hx'
            simp only [beq_iff_eq] at a2
            rw [hnx k (by omega)] at a2
            cases x with
            | t n =>
              have hj' : (eM s.get (rs.take i) (List.replicate i true) n).ref = some j := by rw [← e1]; exact hj
              have := ref_lt (rs.take i) s.get s.nx h0ref (fun k' r' hr' => by
                have hk' : k' < i := by
                  have := (List.getElem?_eq_some_iff.1 hr').1
                  rw [takelen i (by omega)] at this; exact this
                rw [List.getElem?_take, if_pos hk'] at hr'
                obtain ⟨_, _, _, r2, _, _, _, _, _, h5, h6⟩ := hdid k' (by omega)
                rw [hr'] at h5; cases h5
                have := h6.2.2.1
                rw [hnx k' (by omega)] at this
                exact this) n j (by rw [takelen i (by omega)]; exact hj')
              rw [takelen i (by omega)] at this
              omega
            | k v =>
              have := noRef_of (hnr ⟨o.dst, g, p⟩ (List.mem_of_getElem? hal)) hx
              have hj' : v.ref = some j := hj
              rw [this] at hj'; cases hj'
      refine ev_soundB (J := J) (w0 := w0) inv.mem hρ (id := s.nx + i) ?_ (inv.new1 i hilt hif) hob_none (hJs w inv.mem.bel) hcp hev
      rintro v up cv w' H' ov' ⟨rfl, rfl⟩ hext hn hmem hrep
      exact ih _ _ w' H' ov' count (invNext cv w' H' ov' hext hn hmem hrep)
    · rw [if_neg (by rw [hw]; decide)]
      refine ih _ _ w H ov count (invNext undef w H ov (Ext.refl _ _ _) (fun _ _ h => h) ?_ ?_)
      · rw [hsk.2]; exact inv.mem
      · rw [hsk.1]; exact .un

/-- A region whose order is open. -/
theorem wp_draw (hfol : P.follows .mixedOrders = true) (hJs : ∀ w', Below w0.heap.size w0 w' → J w') {rid : Nat} {a : Act} {w : World} {H : Nat → Prop} {ov : Nat → Option Value} (hc : Conc w0 H0 w H ov N a s) (hcR : cRg P N ops ops.toList = some al) (hdr : drawOk ops.toList al = true)
    {K : St → Prop} (hv : rgd (AFun P J) (XFun P) al s K) (hK : ∀ s' w' H' ov' a', K s' → Conc w0 H0 w' H' ov' N a' s' → Q .normal a' w') : (Code.region rid ops true).wp P Q a w := by
  obtain ⟨rs, hT, hend⟩ := rgd_trace al s (by unfold drawOk at hdr; simp only [Bool.and_eq_true, List.all_eq_true] at hdr; exact List.all_eq_true.2 fun o ho => (hdr.1 o ho).2) hv
  obtain ⟨hrl, _⟩ := trc_get hT
  obtain ⟨hlen, _⟩ := cRg_get hcR
  have hn : rs.length = ops.size := by rw [hrl, ← hlen]; simp
  refine wp_region_any hfol ?_
  have h0ref : ∀ t j, (s.get t).ref = some j → j < s.nx := fun t j hj => by
    have hr := hc.env t
    have : ov j ≠ none := by
      cases hgn : s.get t <;> rw [hgn] at hj hr <;> simp [V.ref] at hj
      · obtain ⟨_, _, _, h4, _⟩ := hr.inv_ow; subst hj; rw [h4]; simp
      · obtain ⟨_, _, _, _, _, _, h4, _⟩ := hr.inv_sl; subst hj; rw [h4]; simp
      · obtain ⟨_, _, _, h4, _⟩ := hr.inv_pt; subst hj; rw [h4]; simp
    rcases Nat.lt_or_ge j s.nx with h | h
    · exact h
    · exact absurd (hc.new j h) this
  have eM0 : ∀ (rs : List Rc) (n : Nat) (e : Nat → V), eM e rs (List.replicate n false) = e := fun rs => by
    induction rs with
    | nil => intro n e; cases n <;> rfl
    | cons r rs ih => intro n e; cases n with
      | zero => rfl
      | succ n => simp only [List.replicate_succ, eM, Bool.false_eq_true, if_false]; exact ih n e
  have oM0 : ∀ (rs : List Rc) (n : Nat) (e : Nat → Option Ob), oM e rs (List.replicate n false) = e := fun rs => by
    induction rs with
    | nil => intro n e; cases n <;> rfl
    | cons r rs ih => intro n e; cases n with
      | zero => rfl
      | succ n => simp only [List.replicate_succ, oM, Bool.false_eq_true, if_false]; exact ih n e
  have hmd : Mem w0 H0 { w with drawn := w.drawn + 1 } H ov s.ob := by
    have := hc.mem.step (w' := { w with drawn := w.drawn + 1 }) (row := none) hc.mem.bel.drew (Nat.le_refl _) (fun _ _ _ => rfl) (fun _ _ => by simp) (fun _ _ h => h) (ob' := s.ob) (ov' := ov) (fun i o h => .inl ⟨h, fun _ _ _ _ => by simp⟩)
    exact this.2
  have hext : Ext w H ov { w with drawn := w.drawn + 1 } H ov := ⟨fun _ h => h, fun _ _ => rfl, fun _ _ h => h⟩
  have erep : (Array.replicate ops.size false).toList = List.replicate ops.size false := by simp
  refine any_order hJs hcR hdr hT h0ref (fun w' H' ov' a' hc' => hK _ w' H' ov' a' hend hc') ops.size _ a _ H ov ?_ ⟨by simp, fun k o hk => ?_, ?_, fun t => ?_, hc.siz, hc.dfr, fun i _ _ => hc.new _ (by omega), fun id hid => hc.new _ (by omega)⟩
  · rw [erep]; simp
  · rw [Array.getElem?_replicate] at hk; split at hk <;> cases hk
  · rw [erep, oM0]; exact hmd
  · rw [erep, eM0]; exact (hc.env t).mono hext
end
end Go.Proofs.Ytngohbpgdeiodaa.Ab
