/-
  The abstract layer: regions whose order is open: the theorem.
-/
import Derived.Test.YtngohbpgdeiodaaAb10
namespace Go.Proofs.Ytngohbpgdeiodaa.Ab
set_option linter.unusedSimpArgs false
set_option linter.unusedVariables false
open Go Go.RowKit

/-- The slots that an operation looks at. -/
def slotsX : List X → List Nat
  | [] => []
  | .t n :: r => n :: slotsX r
  | .k _ :: r => slotsX r
def AO.looks (o : AO) : List Nat := (match o.gd with | some (t, _) => [t] | none => []) ++ slotsX o.op.xs

def compat (o p : AO) : Bool :=
  (match o.dst with | none => true | some d => !(p.looks.contains d) && p.dst != some d) &&
  (match p.dst with | none => true | some d => !(o.looks.contains d)) && !(o.op.mut && p.op.tou) && !(p.op.mut && o.op.tou)

def bef1 (acc : List Nat) : List Edge → Nat
  | [] => 0
  | e :: r => if Region.binds .any e then bef1 acc r ||| (2 ^ e.on ||| acc.getD e.on 0) else bef1 acc r
def befs : List Oper → List Nat → List Nat
  | [], acc => acc
  | o :: r, acc => befs r (acc ++ [bef1 acc o.after.toList])

def noRefX : List X → Bool
  | [] => true
  | .t _ :: r => noRefX r
  | .k v :: r => v.ref.isNone && noRefX r

def drawOk (ops : List Oper) (al : List AO) : Bool :=
  al.all (fun o => noRefX o.op.xs && o.op.det) &&
  (List.range ops.length).all fun k => (match ops[k]? with | some o => o.after.toList.all fun e => !Region.binds .any e || decide (e.on < k) | none => true) &&
    (List.range k).all fun i => ((befs ops []).getD k 0).testBit i || (match al[i]?, al[k]? with | some o, some p => compat o p | _, _ => false)

theorem bef1_spec {acc : List Nat} {i : Nat} : ∀ {es : List Edge}, (bef1 acc es).testBit i = true → ∃ e, e ∈ es ∧ Region.binds .any e = true ∧ (i = e.on ∨ (acc.getD e.on 0).testBit i = true)
  | [], h => by simp [bef1] at h
  | e :: r, h => by
    simp only [bef1] at h
    split at h
    · rename_i hb
      rw [Nat.testBit_or, Nat.testBit_or] at h
      simp only [Bool.or_eq_true] at h
      rcases h with h | h | h
      · obtain ⟨e', h1, h2⟩ := bef1_spec h
        exact ⟨e', List.mem_cons_of_mem _ h1, h2⟩
      · refine ⟨e, List.mem_cons_self, hb, .inl ?_⟩
        rw [Nat.testBit_two_pow] at h
        have h' : e.on = i := by simpa using h
        exact h'.symm
      · exact ⟨e, List.mem_cons_self, hb, .inr h⟩
    · obtain ⟨e', h1, h2⟩ := bef1_spec h
      exact ⟨e', List.mem_cons_of_mem _ h1, h2⟩

theorem befs_take : ∀ (l : List Oper) (acc : List Nat) (k : Nat), k < acc.length → (befs l acc).getD k 0 = acc.getD k 0
  | [], acc, k, _ => rfl
  | o :: r, acc, k, h => by
    rw [befs, befs_take r _ k (by simp; omega)]
    simp [List.getD, List.getElem?_append_left h]

theorem bef1_ext {acc acc' : List Nat} : ∀ {es : List Edge}, (∀ e, e ∈ es → Region.binds .any e = true → acc.getD e.on 0 = acc'.getD e.on 0) → bef1 acc es = bef1 acc' es
  | [], _ => rfl
  | e :: r, h => by
    simp only [bef1]
    split
    · rename_i hb; rw [bef1_ext fun e' h' hb' => h e' (List.mem_cons_of_mem _ h') hb', h e List.mem_cons_self hb]
    · exact bef1_ext fun e' h' hb' => h e' (List.mem_cons_of_mem _ h') hb'

theorem befs_get : ∀ (l : List Oper) (acc : List Nat) (k : Nat) (o : Oper), l[k]? = some o → (∀ e, e ∈ o.after.toList → Region.binds .any e = true → e.on < acc.length + k) → (befs l acc).getD (acc.length + k) 0 = bef1 (befs l acc) o.after.toList
  | [], acc, k, o, h, _ => by simp at h
  | p :: r, acc, 0, o, h, he => by
    simp at h
    subst h
    rw [befs, Nat.add_zero, befs_take r _ acc.length (by simp)]
    simp only [List.getD, List.getElem?_append_right (Nat.le_refl _), Nat.sub_self, List.getElem?_cons_zero, Option.getD_some]
    refine bef1_ext fun e h1 h2 => ?_
    have hlt := he e h1 h2
    have := befs_take r (acc ++ [bef1 acc p.after.toList]) e.on (by simp; omega)
    rw [this]
    simp [List.getD, List.getElem?_append_left (show e.on < acc.length by omega)]
  | p :: r, acc, k + 1, o, h, he => by
    have := befs_get r (acc ++ [bef1 acc p.after.toList]) k o (by simpa using h) (fun e h1 h2 => by have := he e h1 h2; simp; omega)
    simp only [List.length_append, List.length_cons, List.length_nil] at this
    rw [befs, show acc.length + (k + 1) = acc.length + (0 + 1) + k from by omega]
    exact this

section
variable {P : Program} {J : World → Prop} {w0 : World} {H0 : Nat → Prop} {N : Nat} {ops : Array Oper} {al : List AO} {Q : Exit → Act → World → Prop}

theorem cRg_get : ∀ {l : List Oper} {al : List AO}, cRg P N ops l = some al → l.length = al.length ∧ ∀ (k : Nat) (o : Oper), l[k]? = some o → ∃ p g, al[k]? = some ⟨o.dst, g, p⟩ ∧ cOpB P o.op = some p ∧ cG ops o.guard = some g ∧ dOk N o.dst = true
  | [], al, h => by simp [cRg] at h; subst h; exact ⟨rfl, fun k o h => by simp at h⟩
  | o :: r, al, h => by
    simp only [cRg] at h
    split at h
    · rename_i p g l' hp hg hl
      split at h
      · rename_i hd
        cases h
        obtain ⟨h1, h2⟩ := cRg_get hl
        refine ⟨by simp [h1], fun k q hq => ?_⟩
        cases k with
        | zero => simp at hq; subst hq; exact ⟨p, g, rfl, hp, hg, hd⟩
        | succ k => exact h2 k q (by simpa using hq)
      · cases h
    · cases h

theorem endSt_get : ∀ (rs : List Rc) (s : St), (endSt s rs).get = eM s.get rs (List.replicate rs.length true) ∧ (endSt s rs).ob = oM s.ob rs (List.replicate rs.length true) ∧ (endSt s rs).nx = s.nx + rs.length
  | [], s => ⟨rfl, rfl, rfl⟩
  | r :: rs, s => by
    obtain ⟨h1, h2, h3⟩ := endSt_get rs (s.aft r.dst r.v r.up)
    have e1 : (s.aft r.dst r.v r.up).get = putf s.get r.dst r.v := by
      funext t
      cases hd : r.dst with
      | none => rfl
      | some d => simp [St.aft, St.get, lk_cons, putf]
    have e2 : (s.aft r.dst r.v r.up).ob = upd s.ob r.up := by funext i; simp [St.aft, St.ob, lo_app]; rfl
    refine ⟨?_, ?_, ?_⟩
    · simp only [endSt, List.length_cons, List.replicate_succ, eM, if_true]; rw [h1, e1]
    · simp only [endSt, List.length_cons, List.replicate_succ, oM, if_true]; rw [h2, e2]
    · simp only [endSt, List.length_cons]; rw [h3]; simp [St.aft]; omega

theorem trc_get {F G : Nat → List V → V → Prop} : ∀ {al : List AO} {s : St} {rs : List Rc}, Trc F G al s rs → rs.length = al.length ∧ ∀ (k : Nat) (o : AO), al[k]? = some o → ∃ r, rs[k]? = some r ∧ Did F G o (endSt s (rs.take k)) r
  | [], s, rs, h => by cases h; exact ⟨rfl, fun k o h => by simp at h⟩
  | o :: l, s, rs, h => by
    obtain ⟨r, rs', rfl, hd, ht⟩ := h
    obtain ⟨h1, h2⟩ := trc_get ht
    refine ⟨by simp [h1], fun k q hq => ?_⟩
    cases k with
    | zero => simp at hq; subst hq; exact ⟨r, rfl, hd⟩
    | succ k =>
      obtain ⟨r', h3, h4⟩ := h2 k q (by simpa using hq)
      exact ⟨r', by simpa using h3, h4⟩

theorem notou_gen {F G : Nat → List V → V → Prop} {ρ : X → V} {ob : Nat → Option Ob} {id : Nat} {o : AOp} (ht : o.tou = false) {K K' : V → List (Nat × Option Ob) → Prop} (hK : ∀ v, K v [] → K' v []) (h : ev F G ρ ob id K o) : ev F G ρ ob id K' o := by
  have c : ∀ {p : Prop} {v : V}, chk p (K v []) → chk p (K' v []) := fun h => ⟨h.1, hK _ h.2⟩
  cases o <;> simp [AOp.tou] at ht
  case mv x => exact hK _ h
  case xcall f a => obtain ⟨r, k1, k2⟩ := h; exact ⟨r, k1, hK _ k2⟩
  case pick c' a b =>
    simp only [ev] at h ⊢
    cases hc : ρ c' <;> rw [hc] at h <;> (try exact h.elim)
    exact cnd_mk (fun e => hK _ (h.1 e)) (fun e => hK _ (h.2 e))
  case bin op x y =>
    simp only [ev] at h ⊢
    cases hx : ρ x <;> rw [hx] at h <;> (try exact h.elim)
    all_goals
      cases hy : ρ y <;> rw [hy] at h <;> (try exact h.elim)
    · cases op <;> simp only [bi] at h ⊢ <;> exact c h
    · cases op <;> simp only [bs] at h ⊢ <;> first | exact c h | exact hK _ h | exact h.elim
  case eqb n x y =>
    simp only [ev] at h ⊢
    cases hx : ρ x <;> rw [hx] at h <;> (try exact h.elim)
    cases hy : ρ y <;> rw [hy] at h <;> (try exact h.elim)
    exact hK _ h
  case un op x => simp only [ev] at h ⊢; cases op <;> cases hx : ρ x <;> rw [hx] at h <;> first | exact h.elim | exact hK _ h
  case cvt k x => simp only [ev] at h ⊢; cases hx : ρ x <;> rw [hx] at h <;> first | exact h.elim | exact hK _ h
  case six x y =>
    simp only [ev] at h ⊢
    cases hx : ρ x <;> rw [hx] at h <;> (try exact h.elim)
    cases hy : ρ y <;> rw [hy] at h <;> (try exact h.elim)
    exact c h
  case idx sz x y =>
    simp only [ev] at h ⊢
    cases hx : ρ x <;> rw [hx] at h <;> (try exact h.elim)
    all_goals
      cases hy : ρ y <;> rw [hy] at h <;> (try exact h.elim)
      exact c h
  case fad off p => simp only [ev] at h ⊢; cases hx : ρ p <;> rw [hx] at h <;> first | exact h.elim | exact hK _ h
  case fld ag off n x =>
    simp only [ev] at h ⊢
    cases hx : ρ x <;> rw [hx] at h <;> (try exact h.elim)
    cases ag <;> exact c h
  case sub sz x lo hi =>
    simp only [ev] at h ⊢
    cases hx : ρ x <;> rw [hx] at h <;> (try exact h.elim)
    all_goals
      simp only [] at h ⊢
      cases hl : lo.map ρ <;> cases hh : hi.map ρ <;> rw [hl, hh] at h <;> (try simp only [] at h ⊢)
      all_goals first
        | exact c h
        | exact hK _ h
        | (rename_i v; cases v <;> first | exact h.elim | exact c h)
        | (rename_i v v'; cases v <;> cases v' <;> first | exact h.elim | exact c h)
  case ssub x lo hi =>
    simp only [ev] at h ⊢
    cases hx : ρ x <;> rw [hx] at h <;> (try exact h.elim)
    all_goals
      simp only [] at h ⊢
      cases hl : lo.map ρ <;> cases hh : hi.map ρ <;> rw [hl, hh] at h <;> (try simp only [] at h ⊢)
      all_goals first
        | exact c h
        | exact hK _ h
        | (rename_i v; cases v <;> first | exact h.elim | exact c h)
        | (rename_i v v'; cases v <;> cases v' <;> first | exact h.elim | exact c h)
  case len x => simp only [ev] at h ⊢; cases hx : ρ x <;> rw [hx] at h <;> first | exact h.elim | exact hK _ h
  case slen x => simp only [ev] at h ⊢; cases hx : ρ x <;> rw [hx] at h <;> first | exact h.elim | exact hK _ h
  case nc x => simp only [ev] at h ⊢; cases hx : ρ x <;> rw [hx] at h <;> first | exact h.elim | exact hK _ h
  case ext x i => simp only [ev] at h ⊢; cases hx : ρ x <;> rw [hx] at h <;> first | exact h.elim | exact c h
  case mm m x y =>
    simp only [ev] at h ⊢
    cases hx : ρ x <;> rw [hx] at h <;> (try exact h.elim)
    cases hy : ρ y <;> rw [hy] at h <;> (try exact h.elim)
    exact c h

theorem notou_up {F G : Nat → List V → V → Prop} {ρ : X → V} {ob : Nat → Option Ob} {id : Nat} {v : V} {up : List (Nat × Option Ob)} {o : AOp} (ht : o.tou = false) (h : ev F G ρ ob id (fun v' up' => v' = v ∧ up' = up) o) : up = [] := by
  obtain ⟨v', up', h1, h2⟩ := ev_split (by cases o <;> first | rfl | cases ht) (K := fun v' up' => up' = up ∧ up' = []) (notou_gen ht (fun v' e => ⟨e.2, rfl⟩) h)
  rw [← h1.1, h1.2]

theorem ref_lt : ∀ (rs : List Rc) (e : Nat → V) (nx : Nat), (∀ t j, (e t).ref = some j → j < nx) → (∀ (k : Nat) (r : Rc), rs[k]? = some r → r.v.refLe (nx + k) = true) → ∀ t j, (eM e rs (List.replicate rs.length true) t).ref = some j → j < nx + rs.length
  | [], e, nx, h, _, t, j, hj => h t j hj
  | r :: rs, e, nx, h, h', t, j, hj => by
    simp only [List.length_cons, List.replicate_succ, eM, if_true] at hj
    have := ref_lt rs (putf e r.dst r.v) (nx + 1) (fun t j hj => ?_) (fun k q hq => by have := h' (k + 1) q (by simpa using hq); rw [show nx + 1 + k = nx + (k + 1) from by omega]; exact this) t j hj
    · simp; omega
    · have h0 := h' 0 r rfl
      have e0 : ∀ v : V, v.refLe (nx + 0) = true → v.ref = some j → j < nx + 1 := fun v h1 h2 => by
        cases v <;> simp [V.ref] at h2 <;> (subst h2; simp [V.refLe] at h1; omega)
      cases hd : r.dst with
      | none => rw [hd] at hj; have := h t j hj; omega
      | some d =>
        rw [hd] at hj
        simp only [putf] at hj
        split at hj
        · exact e0 _ h0 hj
        · have := h t j hj; omega
end
end Go.Proofs.Ytngohbpgdeiodaa.Ab
