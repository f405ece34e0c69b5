/-
  The abstract layer: code, functions.
-/
import Derived.Test.YtngohbpgdeiodaaAb12
import Derived.Deep.LoopGhost
namespace Go.Proofs.Ytngohbpgdeiodaa.Ab
set_option linter.unusedSimpArgs false
set_option linter.unusedVariables false
open Go Go.RowKit

inductive AC where
  | skip
  | reg (ops : List AO)
  | dreg (ops : List AO)
  | seq (a b : AC)
  | cond (c : X) (a b : AC)
  | blk (id : Nat) (c : AC)
  | loop (c : AC)
  | exit (id : Nat)
  | ret
  deriving Inhabited

inductive Ex where
  | normal
  | exit (id : Nat)
  | ret

def cCode (P : Program) (N : Nat) : Code → Option AC
  | .skip => some .skip
  | .label _ => some .skip
  | .region _ ops draw => match cRg P N ops ops.toList with
    | some al => if draw then (if drawOk ops.toList al then some (.dreg al) else none) else some (.reg al)
    | none => none
  | .seq a b => match cCode P N a, cCode P N b with
    | some a, some b => some (.seq a b)
    | _, _ => none
  | .cond c a b => match cX c, cCode P N a, cCode P N b with
    | some c, some a, some b => some (.cond c a b)
    | _, _, _ => none
  | .block id c => match cCode P N c with | some c => some (.blk id c) | none => none
  | .loop c => match cCode P N c with | some c => some (.loop c) | none => none
  | .scope c => cCode P N c
  | .exit id => some (.exit id)
  | .ret => some .ret
  | _ => none

/-! ### a state that says less, its objects by other numbers -/
def rn : List (Nat × Nat) → Nat → Nat
  | [], i => i
  | (k, v) :: r, i => if k = i then v else rn r i

def leV (s : St) (r : List (Nat × Nat)) (nx t : Nat) : V → Prop
  | .any => True
  | .ow sz i n => i < nx ∧ s.get t = .ow sz (rn r i) n
  | .sl sz i off n => i < nx ∧ asSl (s.get t) = .sl sz (rn r i) off n
  | .pt i off => i < nx ∧ s.get t = .pt (rn r i) off
  | v => s.get t = v

def leE (s : St) (r : List (Nat × Nat)) (nx : Nat) : List (Nat × V) → Prop
  | [] => True
  | (t, v) :: l => leV s r nx t v ∧ leE s r nx l

def leO (s : St) (r : List (Nat × Nat)) (nx : Nat) : List (Nat × Option Ob) → Prop
  | [] => True
  | (i, o) :: l => i < nx ∧ s.ob (rn r i) = o ∧ leO s r nx l

def leN (r : List (Nat × Nat)) : List (Nat × Option Ob) → Prop
  | [] => True
  | (i, _) :: l => (l.all fun p => rn r p.1 != rn r i) = true ∧ leN r l

def St.le (s : St) (r : List (Nat × Nat)) (s' : St) : Prop := leE s r s'.nx s'.env ∧ leO s r s'.nx s'.obs ∧ leN r s'.obs

/-- A nil slice is taken for a row of the call's own, of no element. -/
def St.mat (s : St) (t e sz : Nat) : St := { env := (t, .ow sz s.nx 0) :: s.env, obs := (s.nx, some { e, sz, cs := [], mu := true, isv := false }) :: s.obs, nx := s.nx + 1 }
def St.mats : List (Nat × Nat × Nat) → St → St
  | [], s => s
  | (t, e, sz) :: l, s => St.mats l (s.mat t e sz)
def St.matOk : List (Nat × Nat × Nat) → St → Prop
  | [], _ => True
  | (t, e, sz) :: l, s => s.get t = .nl ∧ 0 < sz ∧ St.matOk l (s.mat t e sz)

section
variable (F G : Nat → List V → V → Prop)
def avc : AC → (Ex → St → Prop) → St → Prop
  | .skip, Q, s => Q .normal s
  | .reg ops, Q, s => rgv F G ops s (Q .normal)
  | .dreg ops, Q, s => rgd F G ops s (Q .normal)
  | .seq a b, Q, s => avc a (fun e s' => match e with | .normal => avc b Q s' | .exit i => Q (.exit i) s' | .ret => Q .ret s') s
  | .cond c a b, Q, s => cnd (s.val c) (avc a Q s) (avc b Q s)
  | .blk id c, Q, s => avc c (fun e s' => match e with | .normal => Q .normal s' | .exit j => if j = id then Q .normal s' else Q (.exit j) s' | .ret => Q .ret s') s
  | .loop c, Q, s => ∃ (X : Type) (mk : X → St) (I : X → Prop) (μ : X → Nat), (∃ ms x r, I x ∧ St.matOk ms s ∧ (St.mats ms s).le r (mk x)) ∧
      ∀ x, I x → avc c (fun e s' => match e with | .normal => ∃ ms x' r, I x' ∧ μ x' < μ x ∧ St.matOk ms s' ∧ (St.mats ms s').le r (mk x') | .exit i => Q (.exit i) s' | .ret => Q .ret s') (mk x)
  | .exit id, Q, s => Q (.exit id) s
  | .ret, Q, s => Q .ret s
end

section
variable {P : Program} {J : World → Prop} {w0 : World} {H0 : Nat → Prop} {N : Nat}

theorem leV_rep {w : World} {H : Nat → Prop} {ov ov' : Nat → Option Value} {s : St} {r : List (Nat × Nat)} {nx t : Nat} {v : V} {cv : Value} (h : leV s r nx t v) (hr : Rep w H ov cv (s.get t)) (ho : ∀ i, i < nx → ov' i = ov (rn r i)) : Rep w H ov' cv v := by
  cases v with
  | any => exact .any _
  | ow sz i n =>
    obtain ⟨h1, h2⟩ := h
    rw [h2] at hr
    obtain ⟨a, cap, rfl, h3, h4, h5, h6⟩ := hr.inv_ow
    exact .ow sz i n cap a h4 h5 h6 (by rw [ho i h1]; exact h3)
  | sl sz i off n =>
    obtain ⟨h1, h2⟩ := h
    replace hr : Rep w H ov cv (asSl (s.get t)) := by
      cases hv : s.get t with
      | ow z j m => rw [hv] at hr; exact rep_ow_sl hr
      | _ => rw [hv] at hr; exact hr
    rw [h2] at hr
    obtain ⟨a, cap, u, rfl, h3, h4, h5, h6⟩ := hr.inv_sl
    exact .sl a sz i off n cap u h3 h4 (by rw [ho i h1]; exact h5) h6
  | pt i off =>
    obtain ⟨h1, h2⟩ := h
    rw [h2] at hr
    obtain ⟨b, u, rfl, h3, h4⟩ := hr.inv_pt
    exact .pt i off b u (by rw [ho i h1]; exact h3) h4
  | _ =>
    simp only [leV] at h
    rw [h] at hr
    cases hr with
    | base h => exact .base h

theorem leE_get {s : St} {r : List (Nat × Nat)} {nx : Nat} : ∀ {l : List (Nat × V)}, leE s r nx l → ∀ t, lk l t = .any ∨ leV s r nx t (lk l t)
  | [], _, t => .inl rfl
  | (k, v) :: l, h, t => by
    simp only [lk]
    split
    · rename_i e; subst e; exact .inr h.1
    · exact leE_get h.2 t

theorem leO_get {s : St} {r : List (Nat × Nat)} {nx : Nat} : ∀ {l : List (Nat × Option Ob)}, leO s r nx l → ∀ i o, lo l i = some o → i < nx ∧ s.ob (rn r i) = some o
  | [], _, i, o, h => by cases h
  | (k, v) :: l, h, i, o, hi => by
    simp only [lo] at hi
    split at hi
    · rename_i e; subst e; exact ⟨h.1, by rw [h.2.1, hi]⟩
    · exact leO_get h.2.2 i o hi

theorem lo_mem : ∀ {l : List (Nat × Option Ob)} {i : Nat} {o : Ob}, lo l i = some o → (i, some o) ∈ l
  | [], i, o, h => by cases h
  | (k, v) :: l, i, o, h => by
    simp only [lo] at h
    split at h
    · rename_i e; subst e; subst h; exact List.mem_cons_self
    · exact List.mem_cons_of_mem _ (lo_mem h)

theorem leN_ne {r : List (Nat × Nat)} : ∀ {l : List (Nat × Option Ob)}, leN r l → ∀ {i j : Nat} {o p : Option Ob}, (i, o) ∈ l → (j, p) ∈ l → i ≠ j → rn r i ≠ rn r j
  | [], _, i, j, o, p, h, _, _ => by cases h
  | (k, v) :: l, h, i, j, o, p, hi, hj, hne => by
    rcases List.mem_cons.1 hi with e | hi
    · cases e
      rcases List.mem_cons.1 hj with e | hj
      · cases e; exact absurd rfl hne
      · have := List.all_eq_true.1 h.1 _ hj
        simp only [bne_iff_ne, ne_eq] at this
        exact fun e => this e.symm
    · rcases List.mem_cons.1 hj with e | hj
      · cases e
        have := List.all_eq_true.1 h.1 _ hi
        simpa using this
      · exact leN_ne h.2 hi hj hne

theorem Conc.weaken {w : World} {H : Nat → Prop} {ov : Nat → Option Value} {a : Act} {s s' : St} {r : List (Nat × Nat)} (hc : Conc w0 H0 w H ov N a s) (h : s.le r s') : ∃ ov', Conc w0 H0 w H ov' N a s' := by
  obtain ⟨hE, hO, hN⟩ := h
  refine ⟨fun i => if i < s'.nx then ov (rn r i) else none, ⟨hc.mem.bel, hc.mem.Hlt, hc.mem.low, fun i o hi => ?_, fun i j oi oj vi vj b hij hi hj hvi hvj hb => ?_⟩, hc.siz, hc.dfr, fun t => ?_, fun id hid => by simp; omega⟩
  · obtain ⟨h1, h2⟩ := leO_get hO i o hi
    obtain ⟨v, hv, hr⟩ := hc.mem.obj _ _ h2
    exact ⟨v, by simp [h1, hv], hr⟩
  · obtain ⟨h1, h2⟩ := leO_get hO i oi hi
    obtain ⟨h3, h4⟩ := leO_get hO j oj hj
    simp only [h1, h3, if_true] at hvi hvj
    exact hc.mem.sep _ _ oi oj vi vj b (leN_ne hN (lo_mem hi) (lo_mem hj) hij) h2 h4 hvi hvj hb
  · have hr := hc.env t
    rcases leE_get hE t with h1 | h1
    · show Rep w H _ _ (lk s'.env t)
      rw [h1]; exact .any _
    · exact leV_rep h1 hr fun i hi => by simp [hi]

theorem Conc.mat {w : World} {H : Nat → Prop} {ov : Nat → Option Value} {a : Act} {s : St} (hc : Conc w0 H0 w H ov N a s) {t e sz : Nat} (ht : s.get t = .nl) (hsz : 0 < sz) : ∃ ov', Conc w0 H0 w H ov' N a (s.mat t e sz) := by
  have hnew := hc.new s.nx (Nat.le_refl _)
  have hno := hc.noOb
  have hob : ∀ i, (s.mat t e sz).ob i = if s.nx = i then some { e, sz, cs := [], mu := true, isv := false } else s.ob i := fun i => rfl
  have hE : Ext w H ov w H (fun i => if s.nx = i then some (.slice none 0 0) else ov i) := ⟨fun _ h => h, fun _ _ => rfl, fun i v h => by
    try simp only []
    split
    · rename_i e; subst e; rw [hnew] at h; cases h
    · exact h⟩
  refine ⟨fun i => if s.nx = i then some (.slice none 0 0) else ov i, ⟨hc.mem.bel, hc.mem.Hlt, hc.mem.low, fun i o hi => ?_, fun i j oi oj vi vj b hij hi hj hvi hvj hb => ?_⟩, hc.siz, hc.dfr, fun u => ?_, fun id hid => ?_⟩
  · rw [hob] at hi
    try simp only []
    split at hi
    · rename_i e1
      cases hi
      refine ⟨_, by rw [if_pos e1], ⟨fun x hx => (by cases hx), fun b hb => (by cases hb), .inr ⟨rfl, hsz, 0, [], ⟨by simp, .inl ⟨rfl, rfl⟩⟩, ⟨rfl, fun j v x h1 h2 => (by cases h1)⟩, Nat.zero_le _⟩⟩⟩
    · rename_i e1
      obtain ⟨v, hv, hr⟩ := hc.mem.obj i o hi
      exact ⟨v, by rw [if_neg e1]; exact hv, hr⟩
  · rw [hob] at hi hj
    try simp only [] at hvi hvj
    split at hi
    · rename_i e1
      rw [if_pos e1] at hvi
      cases hvi; cases hb
    · rename_i e1
      rw [if_neg e1] at hvi
      split at hj
      · rename_i e2
        rw [if_pos e2] at hvj
        cases hvj; intro h; cases h
      · rename_i e2
        rw [if_neg e2] at hvj
        exact hc.mem.sep i j oi oj vi vj b hij hi hj hvi hvj hb
  · show Rep w H _ _ (lk ((t, .ow sz s.nx 0) :: s.env) u)
    simp only [lk]
    split
    · rename_i e1
      subst e1
      have := hc.env t
      rw [ht] at this
      rw [this.inv_nl]
      exact .ow sz s.nx 0 0 none (Nat.zero_le _) (Nat.le_refl _) (.inl rfl) (by simp)
    · exact (hc.env u).mono hE
  · have h1 : s.nx ≤ id := Nat.le_of_succ_le hid
    have h2 : s.nx ≠ id := Nat.ne_of_lt hid
    simp only [if_neg h2]
    exact hc.new id h1

theorem Conc.mats {w : World} {H : Nat → Prop} {a : Act} : ∀ {ms : List (Nat × Nat × Nat)} {ov : Nat → Option Value} {s : St}, Conc w0 H0 w H ov N a s → St.matOk ms s → ∃ ov', Conc w0 H0 w H ov' N a (St.mats ms s)
  | [], ov, s, hc, _ => ⟨ov, hc⟩
  | (t, e, sz) :: l, ov, s, hc, h => by
    obtain ⟨h1, h2, h3⟩ := h
    obtain ⟨ov1, hc1⟩ := hc.mat (e := e) h1 h2
    exact Conc.mats (ms := l) (s := s.mat t e sz) hc1 h3

def exOf : Ex → Exit
  | .normal => .normal
  | .exit i => .exit i
  | .ret => .ret

/-- What the model's exits say, at abstract exits. -/
def Post (w0 : World) (H0 : Nat → Prop) (N : Nat) (Q : Ex → St → Prop) : Exit → Act → World → Prop
  | .normal, a, w => ∃ s H ov, Q .normal s ∧ Conc w0 H0 w H ov N a s
  | .exit i, a, w => ∃ s H ov, Q (.exit i) s ∧ Conc w0 H0 w H ov N a s
  | .ret, a, w => ∃ s H ov, Q .ret s ∧ Conc w0 H0 w H ov N a s
  | _, _, _ => False

theorem avc_sound (hfol : P.follows .mixedOrders = true) (hJs : ∀ w', Below w0.heap.size w0 w' → J w') : ∀ (c : Code) (ac : AC), cCode P N c = some ac → ∀ (Q : Ex → St → Prop) (s : St) (a : Act) (w : World) (H : Nat → Prop) (ov : Nat → Option Value),
    Conc w0 H0 w H ov N a s → avc (AFun P J) (XFun P) ac Q s → c.wp P (Post w0 H0 N Q) a w := by
  intro c
  induction c with
  | skip => intro ac h Q s a w H ov hc hv; simp only [cCode, Option.some.injEq] at h; subst h; exact wp_skip ⟨s, H, ov, hv, hc⟩
  | label l => intro ac h Q s a w H ov hc hv; simp only [cCode, Option.some.injEq] at h; subst h; exact wp_label ⟨s, H, ov, hv, hc⟩
  | region rid ops draw =>
    intro ac h Q s a w H ov hc hv
    simp only [cCode] at h
    split at h
    · rename_i al hal
      cases draw with
      | true =>
        simp only [if_true] at h
        split at h
        · rename_i hd
          cases h
          exact wp_draw hfol hJs hc hal hd hv fun s' w' H' ov' a' hK hc' => ⟨s', H', ov', hK, hc'⟩
        · cases h
      | false =>
        simp only [Bool.false_eq_true, if_false, Option.some.injEq] at h
        subst h
        exact wp_region_list (rgv_list hJs (K := Q .normal) (fun s' w' H' ov' a' hK hc' => ⟨s', H', ov', hK, hc'⟩) ops.toList al hal hc hv)
    · cases h
  | seq c d ihc ihd =>
    intro ac h Q s a w H ov hc hv
    simp only [cCode] at h
    split at h
    · rename_i c' d' h1 h2
      cases h
      refine wp_seq (wp_mono (ihc c' h1 _ s a w H ov hc hv) fun e a' w' hq => ?_)
      cases e with
      | normal => obtain ⟨s', H', ov', hq, hc'⟩ := hq; exact ihd d' h2 Q s' a' w' H' ov' hc' hq
      | exit i => exact hq
      | ret => exact hq
      | goto l => exact hq
      | panic ch => exact hq
      | outgrown => exact hq
    · cases h
  | cond x c d ihc ihd =>
    intro ac h Q s a w H ov hc hv
    simp only [cCode] at h
    split at h
    · rename_i x' c' d' h0 h1 h2
      cases h
      simp only [avc] at hv
      have hx := hc.val x x' h0
      cases hb : s.val x' <;> rw [hb] at hv hx <;> simp only [cnd] at hv
      case b t =>
        refine wp_cond_split hx.inv_b (fun ht => ihc c' h1 Q s a w H ov hc (hv.1 ht)) (fun ht => ihd d' h2 Q s a w H ov hc (hv.2 ht))
    · cases h
  | block id c ih =>
    intro ac h Q s a w H ov hc hv
    simp only [cCode] at h
    split at h
    · rename_i c' h1
      cases h
      refine wp_block (wp_mono (ih c' h1 _ s a w H ov hc hv) fun e a' w' hq => ?_)
      cases e with
      | normal => exact hq
      | exit i =>
        obtain ⟨s', H', ov', hq, hc'⟩ := hq
        simp only [Exit.inBlock]
        simp only [] at hq
        split
        · rename_i e; rw [if_pos e] at hq; exact ⟨s', H', ov', hq, hc'⟩
        · rename_i e; rw [if_neg e] at hq; exact ⟨s', H', ov', hq, hc'⟩
      | ret => exact hq
      | goto l => exact hq
      | panic ch => exact hq
      | outgrown => exact hq
    · cases h
  | loop c ih =>
    intro ac h Q s a w H ov hc hv
    simp only [cCode] at h
    split at h
    · rename_i c' h1
      cases h
      simp only [avc] at hv
      obtain ⟨X, mk, I, μ, ⟨ms, x0, r0, hI0, hms, hle0⟩, hround⟩ := hv
      obtain ⟨ov00, hc00⟩ := hc.mats hms
      obtain ⟨ov0, hc0⟩ := hc00.weaken hle0
      refine wp_loop_ghost (fun n a w => ∃ x H ov, μ x = n ∧ I x ∧ Conc w0 H0 w H ov N a (mk x)) (μ x0) ⟨x0, H, ov0, rfl, hI0, hc0⟩ ?_
      rintro n a1 w1 ⟨x, H1, ov1, rfl, hI, hc1⟩
      refine wp_mono (ih c' h1 _ (mk x) a1 w1 H1 ov1 hc1 (hround x hI)) fun e a' w' hq => ?_
      cases e with
      | normal =>
        obtain ⟨s', H', ov', ⟨ms', x', r', hI', hlt, hms', hle⟩, hc'⟩ := hq
        obtain ⟨ov3, hc3⟩ := hc'.mats hms'
        obtain ⟨ov2, hc2⟩ := hc3.weaken hle
        exact ⟨μ x', hlt, x', H', ov2, rfl, hI', hc2⟩
      | exit i => exact hq
      | ret => exact hq
      | goto l => exact hq
      | panic ch => exact hq
      | outgrown => exact hq
    · cases h
  | scope c ih =>
    intro ac h Q s a w H ov hc hv
    simp only [cCode] at h
    refine wp_scope_straight (wp_mono (ih ac h Q s a w H ov hc hv) fun e a' w' hq => ?_)
    cases e <;> exact hq
  | exit id => intro ac h Q s a w H ov hc hv; simp only [cCode, Option.some.injEq] at h; subst h; exact wp_exit ⟨s, H, ov, hv, hc⟩
  | ret => intro ac h Q s a w H ov hc hv; simp only [cCode, Option.some.injEq] at h; subst h; exact wp_ret ⟨s, H, ov, hv, hc⟩
  | rangeFunc f ps c d ihc ihd => intro ac h; simp [cCode] at h
  | goto l => intro ac h; simp [cCode] at h
  | refuse y => intro ac h; simp [cCode] at h

/-! ### functions -/
/-- The slots of the results. -/
def resSlots : List ResultVar → Option (List Nat)
  | [] => some []
  | .tmp t :: r => match resSlots r with | some l => some (t :: l) | none => none
  | .cell _ _ :: _ => none

/-- One result. -/
def ret1 (s : St) (v r : V) : Prop :=
  match r with
  | .o e sz cs => (match v with | .ow _ i _ => s.ob i = some { e, sz, cs, mu := true, isv := false } | .nl => cs = [] ∧ 0 < sz | _ => False)
  | .l sz cs => 0 < sz ∧ okR s.ob v ∧ rd s.ob sz v = .l sz cs
  | .any => True
  | r => v = r ∧ r.okArg = true

def retN (s : St) : List Nat → List V → Prop
  | [], [] => True
  | t :: ts, r :: rs => (match r with | .o _ _ _ => False | r => ret1 s (s.get t) r) ∧ retN s ts rs
  | _, _ => False

/-- Several results, of new memory alone: rows of the call's own, of plain values; plain values. -/
def ret1F (s : St) (v r : V) : Prop :=
  match r with
  | .l sz cs => 0 < sz ∧ V.hasL (.t cs) = false ∧
      (match v with | .ow z i n => rd s.ob sz (.ow z i n) = .l sz cs | .nl => cs = [] | _ => False)
  | .i k n => v = .i k n
  | .b x => v = .b x
  | _ => False
def retF (s : St) : List Nat → List V → Prop
  | [], [] => True
  | t :: ts, r :: rs => ret1F s (s.get t) r ∧ retF s ts rs
  | _, _ => False

def retOk (s : St) (ts : List Nat) (r : V) : Prop :=
  match ts with
  | [] => r = .t []
  | [t] => ret1 s (s.get t) r
  | ts => match r with | .t rs => retN s ts rs | .fr (.t rs) => retF s ts rs | _ => False

def initE : Nat → List V → List (Nat × V)
  | _, [] => []
  | k, v :: r => (k, v) :: initE (k + 1) r

theorem initE_get : ∀ (vs : List V) (k t : Nat), lk (initE k vs) t = if k ≤ t then vs.getD (t - k) .any else .any
  | [], k, t => by simp [initE, lk]
  | v :: r, k, t => by
    simp only [initE, lk]
    split
    · rename_i e; subst e; simp
    · rename_i e
      rw [initE_get r (k + 1) t]
      by_cases h : k ≤ t
      · rw [if_pos (by omega), if_pos h]
        obtain ⟨d, rfl⟩ : ∃ d, t = k + 1 + d := ⟨t - (k + 1), by omega⟩
        rw [show k + 1 + d - (k + 1) = d from by omega, show k + 1 + d - k = d + 1 from by omega]
        rfl
      · rw [if_neg (by omega), if_neg h]

def initS (vs : List V) : St := { env := initE 0 vs, obs := [], nx := 0 }

def resVal (tmps : Array Value) : List Nat → Value
  | [] => .tuple #[]
  | [t] => tmps.getD t undef
  | ts => .tuple (ts.map fun t => tmps.getD t undef).toArray

theorem resSlots_run {fn : Func} {ts : List Nat} (h : resSlots fn.results.toList = some ts) (tmps : Array Value) (w : World) : (results fn tmps).run P w = .ok (resVal tmps ts) w := by
  have hr : fn.results.toList = ts.map ResultVar.tmp := by
    have gen : ∀ (l : List ResultVar) (ts : List Nat), resSlots l = some ts → l = ts.map ResultVar.tmp := fun l => by
      induction l with
      | nil => intro ts h; simp [resSlots] at h; subst h; rfl
      | cons x r ih =>
        intro ts h
        cases x with
        | tmp t =>
          simp only [resSlots] at h
          split at h
          · rename_i l hl; cases h; rw [ih l hl]; rfl
          · cases h
        | cell a t => simp [resSlots] at h
    exact gen _ _ h
  have hra : fn.results = (ts.map ResultVar.tmp).toArray := toArray_of hr
  have hrun : ∀ ts : List Nat, ((ts.map ResultVar.tmp).mapM (fun x => match x with
      | ResultVar.tmp t => (pure (tmps.getD t undef) : Sem Value)
      | ResultVar.cell a t => do loadVar t (← asAddr (tmps.getD a undef)))).run P w = .ok (ts.map fun t => tmps.getD t undef) w := fun ts => by
    induction ts with
    | nil => rfl
    | cons t ts ih => simp only [List.map_cons, List.mapM_cons, Sem.run_bind, Sem.run_pure, Result.andThen_ok, ih]
  unfold results
  rw [hra]
  simp only [Array.mapM_eq_mapM_toList, List.toList_toArray, Sem.run_bind, Sem.run_map]
  erw [hrun ts]
  simp only [Result.andThen_ok, Sem.run_pure]
  match ts with
  | [] => rfl
  | [t] => simp [resVal]
  | t :: t' :: ts => simp [resVal]

theorem ret1_rep {w : World} {H : Nat → Prop} {ov : Nat → Option Value} {a : Act} {s : St} (hc : Conc w0 H0 w H ov N a s) {cv : Value} {v r : V} (hr : Rep w H ov cv v) (h : ret1 s v r) : Res w0 w H0 cv r := by
  -- the immutable blocks, those that were handed in and new ones, and those of the objects that are handed back
  have base : ∀ {cv : Value} {r : V}, (∃ H' : Nat → Prop, (∀ b, H' b → b < w.heap.size) ∧ (∀ b, H' b → b < w0.heap.size → H0 b) ∧ Rep0 w H' cv r) → Res w0 w H0 cv r := fun ⟨H', h1, h2, h3⟩ =>
    ⟨fun b => H' b ∧ w0.heap.size ≤ b, fun b hb => ⟨hb.2, h1 b hb.1⟩, .inl (h3.mono (fun b hb => by
      rcases Nat.lt_or_ge b w0.heap.size with h | h
      · exact .inl (h2 b hb h)
      · exact .inr ⟨hb, h⟩) (fun _ _ => rfl))⟩
  have plain : Rep0 w H cv r → Res w0 w H0 cv r := fun h => base ⟨H, hc.mem.Hlt, hc.mem.low, h⟩
  cases r with
  | o e sz cs =>
    simp only [ret1] at h
    cases v <;> simp only [] at h
    case ow sz' i n =>
      obtain ⟨ba, cap, e1, ho, hm, hcp, ha⟩ := hr.inv_ow
      obtain ⟨u, hu, hor⟩ := hc.mem.obj i _ h
      rw [ho] at hu; cases hu
      rcases hor.bd with ⟨h', _⟩ | ⟨_, hsz, n', xs, hown, hra, hnm⟩
      · cases h'
      · refine ⟨fun b => H b ∧ w0.heap.size ≤ b, fun b hb => ⟨hb.2, hc.mem.Hlt b hb.1⟩, .inr (.inl ⟨e, sz, cs, n', xs, rfl, hsz, hown, hra.mono (fun b hb => ?_) (fun _ _ => rfl), hor.cl, hnm, fun b hb hN => ?_⟩)⟩
        · rcases Nat.lt_or_ge b w0.heap.size with h | h
          · exact .inl (hc.mem.low b hb h)
          · exact .inr ⟨hb, h⟩
        · have := (hor.fz b hb).1 hN.1; cases this
    case nl =>
      obtain ⟨rfl, hsz⟩ := h
      have e1 := hr.inv_nl
      subst e1
      refine ⟨fun _ => False, fun b hb => hb.elim, .inr (.inl ⟨e, sz, [], 0, [], rfl, hsz, World.ownsRow_nil _ _ _ _, ⟨rfl, fun j v x h => by simp at h⟩, fun x hx => by (cases hx), Nat.zero_le _, fun b hb => ?_⟩)⟩
      cases hb
  | l sz cs =>
    obtain ⟨hsz, hok, he⟩ := h
    obtain ⟨H1, hext, hm1, hfr, _⟩ := hc.mem.freeze (onlyFrz_frz (ob := s.ob) v)
    have := rd_rep hc.mem hsz hr hok (.inl (by rw [he]; rfl)) hext.hH hfr
    rw [he] at this
    exact base ⟨H1, hm1.Hlt, hm1.low, this⟩
  | any => exact plain (.any _)
  | i k n => obtain ⟨rfl, _⟩ := h; exact plain (by cases hr with | base h => exact h)
  | b x => obtain ⟨rfl, _⟩ := h; exact plain (by cases hr with | base h => exact h)
  | s x => obtain ⟨rfl, _⟩ := h; exact plain (by cases hr with | base h => exact h)
  | g x => obtain ⟨rfl, _⟩ := h; exact plain (by cases hr with | base h => exact h)
  | ip x k => obtain ⟨rfl, _⟩ := h; exact plain (by cases hr with | base h => exact h)
  | c x => obtain ⟨rfl, _⟩ := h; exact plain (by cases hr with | base h => exact h)
  | t vs => obtain ⟨rfl, h⟩ := h; simp [V.okArg] at h
  | ow sz i n => obtain ⟨rfl, h⟩ := h; simp [V.okArg] at h
  | sl sz i off n => obtain ⟨rfl, h⟩ := h; simp [V.okArg] at h
  | pt i n => obtain ⟨rfl, h⟩ := h; simp [V.okArg] at h
  | nl => obtain ⟨rfl, h⟩ := h; simp [V.okArg] at h
  | un => obtain ⟨rfl, h⟩ := h; simp [V.okArg] at h
  | fr x => obtain ⟨rfl, h⟩ := h; simp [V.okArg] at h

theorem ret1F_rep {w : World} {H : Nat → Prop} {ov : Nat → Option Value} {a : Act} {s : St} (hc : Conc w0 H0 w H ov N a s) {cv : Value} {v r : V} (hr : Rep w H ov cv v) (h : ret1F s v r) :
    Rep0 w (fun b => w0.heap.size ≤ b ∧ b < w.heap.size) cv r := by
  unfold ret1F at h
  split at h
  · rename_i sz cs
    obtain ⟨hsz, hfl, h⟩ := h
    split at h
    · rename_i z i n
      have hrr := rd_rep hc.mem hsz hr (by trivial) (.inl (by rw [h]; rfl)) (H' := fun _ => True) (fun _ _ => trivial) (fun _ _ _ _ _ _ _ => trivial)
      rw [h] at hrr
      obtain ⟨a', m, cap, f, b, o, e1, h1, h2, h3, h4, h5, h6, h7⟩ := hrr.inv_l
      subst e1
      have hb : ∀ b', blk (.slice a' m cap) = some b' → w0.heap.size ≤ b' ∧ b' < w.heap.size := fun b' hb' => by
        obtain ⟨_, _, _, ho, _⟩ := hr.inv_ow
        simp only [rd] at h
        cases hob : s.ob i with
        | none => rw [hob] at h; cases h
        | some oo =>
          obtain ⟨u, hu, hor⟩ := hc.mem.obj i oo hob
          rw [ho] at hu; cases hu
          exact hor.lt hb'
      refine .l a' m cap sz cs f b o h1 h2 h3 h4 (h5.imp id fun h => ⟨h.1, hb b (by rw [h.1]; rfl)⟩) h6 fun j x hx => flat_any ?_ (h7 j x hx)
      have := List.any_eq_false.1 (show (cs.any fun x => match x with | .i _ _ | .b _ | .s _ => false | _ => true) = false from hfl) x (List.mem_of_getElem? hx)
      cases x <;> simp_all
    · subst h
      have e1 := hr.inv_nl
      subst e1
      exact .l none 0 0 sz [] (fun _ => undef) 0 0 hsz (by simp) (Nat.zero_le _) (Nat.le_refl _) (.inl rfl) (fun j hj => by simp at hj) (fun j x hx => by simp at hx)
    · exact h.elim
  · rw [h] at hr; rw [hr.inv_i]; exact .i _ _
  · rw [h] at hr; rw [hr.inv_b]; exact .b _
  · exact h.elim

theorem retF_rep {w : World} {H : Nat → Prop} {ov : Nat → Option Value} {a : Act} {s : St} (hc : Conc w0 H0 w H ov N a s) : ∀ (ts : List Nat) (rs : List V), retF s ts rs →
    RepAll w (fun b => w0.heap.size ≤ b ∧ b < w.heap.size) (ts.map fun t => a.tmps.getD t undef) rs
  | [], [], _ => ⟨rfl, fun j v x h => by simp at h⟩
  | [], _ :: _, h => h.elim
  | _ :: _, [], h => h.elim
  | t :: ts, r :: rs, h => by
    obtain ⟨h1, h2⟩ := h
    have ih := retF_rep hc ts rs h2
    refine ⟨by simpa using ih.1, fun j v x hv hx => ?_⟩
    cases j with
    | zero =>
      simp only [List.map_cons, List.getElem?_cons_zero, Option.some.injEq] at hv hx
      subst hv; subst hx; exact ret1F_rep hc (hc.env t) h1
    | succ j => exact ih.2 j v x (by simpa using hv) (by simpa using hx)

/-- Several results: all immutable, in one reading. -/
theorem retN_rep {w : World} {H : Nat → Prop} {ov : Nat → Option Value} {a : Act} {s : St} (hc : Conc w0 H0 w H ov N a s) : ∀ (ts : List Nat) (rs : List V), retN s ts rs →
    ts.length = rs.length ∧ ∃ up, OnlyFrz s.ob up ∧ ∀ H' : Nat → Prop, (∀ b, H b → H' b) → (∀ k y u b, (k, y) ∈ up → ov k = some u → blk u = some b → H' b) → ∀ (j : Nat) (t : Nat) (r : V), ts[j]? = some t → rs[j]? = some r → Rep0 w H' (a.tmps.getD t undef) r
  | [], [], _ => ⟨rfl, [], OnlyFrz.nil, fun H' _ _ j t r h => by simp at h⟩
  | [], _ :: _, h => by simp [retN] at h
  | _ :: _, [], h => by simp [retN] at h
  | t :: ts, r :: rs, h => by
    obtain ⟨h1, h2⟩ := h
    obtain ⟨hl, up, hup, hreps⟩ := retN_rep hc ts rs h2
    have one : ∃ up1, OnlyFrz s.ob up1 ∧ ∀ H' : Nat → Prop, (∀ b, H b → H' b) → (∀ k y u b, (k, y) ∈ up1 → ov k = some u → blk u = some b → H' b) → Rep0 w H' (a.tmps.getD t undef) r := by
      have hr := hc.env t
      have same : s.get t = r → r.okArg = true → ∃ up1, OnlyFrz s.ob up1 ∧ ∀ H' : Nat → Prop, (∀ b, H b → H' b) → (∀ k y u b, (k, y) ∈ up1 → ov k = some u → blk u = some b → H' b) → Rep0 w H' (a.tmps.getD t undef) r := fun e hok => by
        rw [e] at hr
        generalize a.tmps.getD t undef = cv at hr
        refine ⟨[], OnlyFrz.nil, fun H' hH _ => ?_⟩
        cases hr with
        | base h => exact h.mono hH (fun _ _ => rfl)
        | ow => simp [V.okArg] at hok
        | sl => simp [V.okArg] at hok
        | pt => simp [V.okArg] at hok
      cases r with
      | o e sz cs => exact h1.elim
      | l sz cs =>
        obtain ⟨hsz, hok, he⟩ := h1
        refine ⟨frz s.ob (s.get t), onlyFrz_frz _, fun H' hH hfr => ?_⟩
        have := rd_rep hc.mem hsz hr hok (.inl (by rw [he]; rfl)) hH hfr
        rw [he] at this; exact this
      | any => exact ⟨[], OnlyFrz.nil, fun H' _ _ => .any _⟩
      | _ => exact same h1.1 h1.2
    obtain ⟨up1, hup1, hrep1⟩ := one
    refine ⟨by simp [hl], up1 ++ up, hup1.append hup, fun H' hH hfr j t' r' ht hr => ?_⟩
    cases j with
    | zero => simp at ht hr; subst ht; subst hr; exact hrep1 H' hH fun k y u b hk => hfr k y u b (List.mem_append.2 (.inl hk))
    | succ j => exact hreps H' hH (fun k y u b hk => hfr k y u b (List.mem_append.2 (.inr hk))) j t' r' (by simpa using ht) (by simpa using hr)

theorem retOk_res {w : World} {H : Nat → Prop} {ov : Nat → Option Value} {a : Act} {s : St} (hc : Conc w0 H0 w H ov N a s) {ts : List Nat} {r : V} (h : retOk s ts r) : Res w0 w H0 (resVal a.tmps ts) r := by
  match ts with
  | [] =>
    simp only [retOk] at h
    subst h
    exact ⟨fun _ => False, fun b hb => hb.elim, .inl (.t [] [] rfl fun j v x h => by simp at h)⟩
  | [t] => exact ret1_rep hc (hc.env t) h
  | t :: t' :: ts =>
    simp only [retOk] at h
    cases r <;> (try simp only [] at h)
    case fr r' =>
      cases r' <;> (try exact h.elim)
      case t rs =>
        have := retF_rep hc _ _ h
        exact ⟨fun b => w0.heap.size ≤ b ∧ b < w.heap.size, fun b hb => hb, .inr (.inr ⟨_, rfl, .t _ _ this.1 this.2⟩)⟩
    case t rs =>
      obtain ⟨hl, up, hup, hreps⟩ := retN_rep hc _ _ h
      obtain ⟨H1, hext, hm1, hfr, _⟩ := hc.mem.freeze hup
      refine ⟨fun b => H1 b ∧ w0.heap.size ≤ b, fun b hb => ⟨hb.2, hm1.Hlt b hb.1⟩, .inl ?_⟩
      have : Rep0 w H1 (.tuple ((t :: t' :: ts).map fun t => a.tmps.getD t undef).toArray) (.t rs) := by
        refine .t _ _ (by simpa using hl) fun j v x h1 h2 => ?_
        simp only [List.getElem?_map, Option.map_eq_some_iff] at h1
        obtain ⟨q, hq, rfl⟩ := h1
        exact hreps H1 hext.hH hfr j q x hq h2
      exact this.mono (fun b hb => by
        rcases Nat.lt_or_ge b w0.heap.size with h | h
        · exact .inl (hm1.low b hb h)
        · exact .inr ⟨hb, h⟩) (fun _ _ => rfl)

/-- Of new memory alone: an immutable result all the same. -/
theorem AFun.plain {f : FuncId} {args : List V} {r : V} (h : AFun P J f args (.fr r)) : AFun P J f args r := fun w H vs hJ hH hr => by
  refine (h w H vs hJ hH hr).mono ?_
  rintro e w' ⟨v, rfl, hb, N, hN, hres⟩
  refine ⟨v, rfl, hb, N, hN, .inl ?_⟩
  rcases hres with hres | ⟨_, _, _, _, _, h, _⟩ | ⟨r', h, hres⟩
  · cases hres
  · cases h
  · cases h; exact hres.mono (fun _ h => .inr h) (fun _ _ => rfl)

/-- A function's contract, out of its code. -/
theorem AFun.mk (hfol : P.follows .mixedOrders = true) (hJs : ∀ w w', J w → Below w.heap.size w w' → J w') {f : FuncId} {fn : Func} {c : Code} {ac : AC} {ts : List Nat} {args : List V} {r : V} (hf : P.funcs[f]? = some fn) (hb : fn.body = some c) (hc : cCode P fn.ntmps c = some ac) (hts : resSlots fn.results.toList = some ts) (hn' : Nat.ble args.length fn.ntmps = true)
    (hv : avc (AFun P J) (XFun P) ac (fun e s => match e with | .normal => retOk s ts r | .ret => retOk s ts r | .exit _ => False) (initS args)) : AFun P J f args r := by
  have hn : args.length ≤ fn.ntmps := Nat.le_of_ble_eq_true hn'
  intro w H vs hJ hH hreps
  refine calls_of_wp hf hb ?_
  have hlen : vs.length = args.length := hreps.1
  have hsz : (vs.toArray ++ Array.replicate (fn.ntmps - vs.toArray.size) undef).size = fn.ntmps := by simp; omega
  have hconc : Conc w H w H (fun _ => none) fn.ntmps { tmps := vs.toArray ++ Array.replicate (fn.ntmps - vs.toArray.size) undef, defers := [] } (initS args) := by
    refine ⟨⟨Below.refl _ _, hH, fun b hb _ => hb, fun id o h => (by cases h), fun i j oi oj vi vj b hij h => (by cases h)⟩, hsz, rfl, fun t => ?_, fun _ _ => rfl⟩
    show Rep w H (fun _ => none) _ (lk (initE 0 args) t)
    rw [initE_get]
    simp only [Nat.zero_le, if_true, Nat.sub_zero]
    by_cases ht : t < args.length
    · have htv : t < vs.length := by omega
      have := hreps.2 t vs[t] args[t] (List.getElem?_eq_getElem htv) (List.getElem?_eq_getElem ht)
      simp only [Array.getD_eq_getD_getElem?, List.getD, List.getElem?_eq_getElem ht, Option.getD_some]
      rw [Array.getElem?_append_left (by simpa using htv)]
      simp only [List.getElem?_toArray, List.getElem?_eq_getElem htv, Option.getD_some]
      exact .up this
    · have : args.getD t V.any = .any := by simp [List.getD, List.getElem?_eq_none (Nat.le_of_not_lt ht)]
      rw [this]; exact .any _
  refine wp_mono (avc_sound (J := J) hfol (fun w' hb => hJs w w' hJ hb) c ac hc _ _ _ w H (fun _ => none) hconc hv) fun e a' w' hq => ?_
  cases e with
  | normal =>
    obtain ⟨s', H', ov', hr, hc'⟩ := hq
    exact ⟨hc'.dfr, _, resSlots_run hts _ _, _, rfl, hc'.mem.bel, retOk_res hc' hr⟩
  | ret =>
    obtain ⟨s', H', ov', hr, hc'⟩ := hq
    exact ⟨hc'.dfr, _, resSlots_run hts _ _, _, rfl, hc'.mem.bel, retOk_res hc' hr⟩
  | exit i => obtain ⟨s', H', ov', hr, _⟩ := hq; exact hr.elim
  | goto l => exact hq.elim
  | panic ch => exact hq.elim
  | outgrown => exact hq.elim
end
end Go.Proofs.Ytngohbpgdeiodaa.Ab
