/-
  The texts Ab13, Ab14, Ab15, Frz, Ab16.
-/
import Derived.Test.YtdaedplbhpiacaaGB
import Derived.Deep.LoopGhost
namespace Go.Proofs.Ytdaedplbhpiacaa.Ab
set_option linter.unusedSimpArgs false
set_option linter.unusedVariables false
open Go Go.RowKit
inductive AC where
  | skip
  | reg (ops : List AO)
  | dreg (ops : List AO)
  | dregx (cf : List (Nat × Nat)) (ops : List AO)
  | seq (a b : AC)
  | cond (c : X) (a b : AC)
  | blk (id : Nat) (c : AC)
  | loop (c : AC)
  | exit (id : Nat)
  | ret
  deriving Inhabited
inductive Ex where
  | normal
  | exit (id : Nat)
  | ret
def cCode (P : Program) (N : Nat) : Code → Option AC
  | .skip => some .skip
  | .label _ => some .skip
  | .region _ ops draw => match cRg P N ops ops.toList with
    | some al => if draw then (if drawOk [] ops.toList al then some (.dreg al) else if drawOk (confs ops.toList al) ops.toList al then some (.dregx (confs ops.toList al) al) else none) else some (.reg al)
    | none => none
  | .seq a b => match cCode P N a, cCode P N b with
    | some a, some b => some (.seq a b)
    | _, _ => none
  | .cond c a b => match cX c, cCode P N a, cCode P N b with
    | some c, some a, some b => some (.cond c a b)
    | _, _, _ => none
  | .block id c => match cCode P N c with | some c => some (.blk id c) | none => none
  | .loop c => match cCode P N c with | some c => some (.loop c) | none => none
  | .scope c => cCode P N c
  | .exit id => some (.exit id)
  | .ret => some .ret
  | _ => none
def rn : List (Nat × Nat) → Nat → Nat
  | [], i => i
  | (k, v) :: r, i => if k = i then v else rn r i
def leV (s : St) (r : List (Nat × Nat)) (nx t : Nat) : V → Prop
  | .any => True
  | .ow sz i n => i < nx ∧ s.get t = .ow sz (rn r i) n
  | .sl sz i off n => i < nx ∧ asSl (s.get t) = .sl sz (rn r i) off n
  | .pt i off => i < nx ∧ s.get t = .pt (rn r i) off
  | .tw _ _ _ _ => False
  | v => s.get t = v
def leE (s : St) (r : List (Nat × Nat)) (nx : Nat) : List (Nat × V) → Prop
  | [] => True
  | (t, v) :: l => leV s r nx t v ∧ leE s r nx l
def leO (s : St) (r : List (Nat × Nat)) (nx : Nat) : List (Nat × Option Ob) → Prop
  | [] => True
  | (i, o) :: l => i < nx ∧ s.ob (rn r i) = o ∧ refN o ∧ leO s r nx l
def leN (r : List (Nat × Nat)) : List (Nat × Option Ob) → Prop
  | [] => True
  | (i, _) :: l => (l.all fun p => rn r p.1 != rn r i) = true ∧ leN r l
def St.le (s : St) (r : List (Nat × Nat)) (s' : St) : Prop := leE s r s'.nx s'.env ∧ leO s r s'.nx s'.obs ∧ leN r s'.obs
def St.mat (s : St) (t e sz : Nat) : St := { env := (t, .ow sz s.nx 0) :: s.env, obs := (s.nx, some { e, sz, cs := [], mu := true, isv := false }) :: s.obs, nx := s.nx + 1 }
def St.mats : List (Nat × Nat × Nat) → St → St
  | [], s => s
  | (t, e, sz) :: l, s => St.mats l (s.mat t e sz)
def St.matOk : List (Nat × Nat × Nat) → St → Prop
  | [], _ => True
  | (t, e, sz) :: l, s => s.get t = .nl ∧ 0 < sz ∧ St.matOk l (s.mat t e sz)
section
variable (F G : Nat → List V → V → Prop)
def avc : AC → (Ex → St → Prop) → St → Prop
  | .skip, Q, s => Q .normal s
  | .reg ops, Q, s => rgv F G ops s (Q .normal)
  | .dreg ops, Q, s => rgd F G ops s (Q .normal)
  | .dregx cf ops, Q, s => rgd F G ops s (fun s' => chk (aparts s' cf) (Q .normal s'))
  | .seq a b, Q, s => avc a (fun e s' => match e with | .normal => avc b Q s' | .exit i => Q (.exit i) s' | .ret => Q .ret s') s
  | .cond c a b, Q, s => cnd (s.val c) (avc a Q s) (avc b Q s)
  | .blk id c, Q, s => avc c (fun e s' => match e with | .normal => Q .normal s' | .exit j => if j = id then Q .normal s' else Q (.exit j) s' | .ret => Q .ret s') s
  | .loop c, Q, s => ∃ (X : Type) (mk : X → St) (I : X → Prop) (μ : X → Nat), (∃ ms x r, I x ∧ St.matOk ms s ∧ (St.mats ms s).le r (mk x)) ∧
      ∀ x, I x → avc c (fun e s' => match e with | .normal => ∃ ms x' r, I x' ∧ μ x' < μ x ∧ St.matOk ms s' ∧ (St.mats ms s').le r (mk x') | .exit i => Q (.exit i) s' | .ret => Q .ret s') (mk x)
  | .exit id, Q, s => Q (.exit id) s
  | .ret, Q, s => Q .ret s
end
section
variable {P : Program} {J : World → Prop} {w0 : World} {H0 : HS} {N : Nat}
theorem leV_rep {w : World} {H : Nat → Prop} {ov ov' : Nat → Option Value} {s : St} {r : List (Nat × Nat)} {nx t : Nat} {v : V} {cv : Value} (h : leV s r nx t v) (hr : Rep w H ov cv (s.get t)) (ho : ∀ i, i < nx → ov' i = ov (rn r i)) : Rep w H ov' cv v := by
  cases v with
  | any => exact .any _
  | ow sz i n =>
    obtain ⟨h1, h2⟩ := h
    rw [h2] at hr
    obtain ⟨a, cap, rfl, h3, h4, h5, h6⟩ := hr.inv_ow
    exact .ow sz i n cap a h4 h5 h6 (by rw [ho i h1]; exact h3)
  | sl sz i off n =>
    obtain ⟨h1, h2⟩ := h
    replace hr : Rep w H ov cv (asSl (s.get t)) := by
      cases hv : s.get t with
      | ow z j m => rw [hv] at hr; exact rep_ow_sl hr
      | _ => rw [hv] at hr; exact hr
    rw [h2] at hr
    have hz0 := fun (h0 : off = 0) (hs : 0 < sz) => Rep.inv_sl0 hs (h0 ▸ hr)
    obtain ⟨a, cap, u, rfl, h3, h4, h5, h6⟩ := hr.inv_sl
    exact .sl a sz i off n cap u h3 h4 (by rw [ho i h1]; exact h5) h6 (fun h0 hs => by
      obtain ⟨_, _, m, e, _, _, ho2⟩ := hz0 h0 hs
      cases e
      rw [h5] at ho2
      exact ⟨m, Option.some.inj ho2⟩)
  | pt i off =>
    obtain ⟨h1, h2⟩ := h
    rw [h2] at hr
    obtain ⟨b, u, rfl, h3, h4⟩ := hr.inv_pt
    exact .pt i off b u (by rw [ho i h1]; exact h3) h4
  | tw sz i n rs => exact h.elim
  | _ =>
    simp only [leV] at h
    rw [h] at hr
    cases hr with
    | base h => exact .base h
theorem leE_get {s : St} {r : List (Nat × Nat)} {nx : Nat} : ∀ {l : List (Nat × V)}, leE s r nx l → ∀ t, lk l t = .any ∨ leV s r nx t (lk l t)
  | [], _, t => .inl rfl
  | (k, v) :: l, h, t => by
    simp only [lk]
    split
    · rename_i e; subst e; exact .inr h.1
    · exact leE_get h.2 t
theorem leO_get {s : St} {r : List (Nat × Nat)} {nx : Nat} : ∀ {l : List (Nat × Option Ob)}, leO s r nx l → ∀ i o, lo l i = some o → i < nx ∧ s.ob (rn r i) = some o ∧ rfo o = false
  | [], _, i, o, h => by cases h
  | (k, v) :: l, h, i, o, hi => by
    simp only [lo] at hi
    split at hi
    · rename_i e; subst e; exact ⟨h.1, by rw [h.2.1, hi], by have := h.2.2.1; rw [hi] at this; exact this⟩
    · exact leO_get h.2.2.2 i o hi
theorem lo_mem : ∀ {l : List (Nat × Option Ob)} {i : Nat} {o : Ob}, lo l i = some o → (i, some o) ∈ l
  | [], i, o, h => by cases h
  | (k, v) :: l, i, o, h => by
    simp only [lo] at h
    split at h
    · rename_i e; subst e; subst h; exact List.mem_cons_self
    · exact List.mem_cons_of_mem _ (lo_mem h)
theorem leN_ne {r : List (Nat × Nat)} : ∀ {l : List (Nat × Option Ob)}, leN r l → ∀ {i j : Nat} {o p : Option Ob}, (i, o) ∈ l → (j, p) ∈ l → i ≠ j → rn r i ≠ rn r j
  | [], _, i, j, o, p, h, _, _ => by cases h
  | (k, v) :: l, h, i, j, o, p, hi, hj, hne => by
    rcases List.mem_cons.1 hi with e | hi
    · cases e
      rcases List.mem_cons.1 hj with e | hj
      · cases e; exact absurd rfl hne
      · have := List.all_eq_true.1 h.1 _ hj
        simp only [bne_iff_ne, ne_eq] at this
        exact fun e => this e.symm
    · rcases List.mem_cons.1 hj with e | hj
      · cases e
        have := List.all_eq_true.1 h.1 _ hi
        simpa using this
      · exact leN_ne h.2 hi hj hne
theorem Conc.weaken {w : World} {H : Nat → Prop} {ov : Nat → Option Value} {a : Act} {s s' : St} {r : List (Nat × Nat)} (hc : Conc w0 H0 w H ov N a s) (h : s.le r s') : ∃ ov', Conc w0 H0 w H ov' N a s' := by
  obtain ⟨hE, hO, hN⟩ := h
  refine ⟨fun i => if i < s'.nx then ov (rn r i) else none, ⟨hc.mem.bel, hc.mem.tj, hc.mem.Hlt, hc.mem.low, fun i o hi => ?_, fun i j oi oj vi vj b hij hi hj hvi hvj hb => ?_⟩, hc.siz, hc.dfr, hc.kp, fun t => ?_, fun id hid => by simp; omega⟩
  · obtain ⟨h1, h2, h3⟩ := leO_get hO i o hi
    obtain ⟨v, hv, hr⟩ := hc.mem.obj _ _ h2
    exact ⟨v, by simp [h1, hv], hr.any h3 _⟩
  · obtain ⟨h1, h2, _⟩ := leO_get hO i oi hi
    obtain ⟨h3, h4, _⟩ := leO_get hO j oj hj
    simp only [h1, h3, if_true] at hvi hvj
    exact hc.mem.sep _ _ oi oj vi vj b (leN_ne hN (lo_mem hi) (lo_mem hj) hij) h2 h4 hvi hvj hb
  · have hr := hc.env t
    rcases leE_get hE t with h1 | h1
    · show Rep w H _ _ (lk s'.env t)
      rw [h1]; exact .any _
    · exact leV_rep h1 hr fun i hi => by simp [hi]
theorem Conc.mat {w : World} {H : Nat → Prop} {ov : Nat → Option Value} {a : Act} {s : St} (hc : Conc w0 H0 w H ov N a s) {t e sz : Nat} (ht : s.get t = .nl) (hsz : 0 < sz) : ∃ ov', Conc w0 H0 w H ov' N a (s.mat t e sz) := by
  have hnew := hc.new s.nx (Nat.le_refl _)
  have hno := hc.noOb
  have hob : ∀ i, (s.mat t e sz).ob i = if s.nx = i then some { e, sz, cs := [], mu := true, isv := false } else s.ob i := fun i => rfl
  have hE : Ext w H ov w H (fun i => if s.nx = i then some (.slice none 0 0) else ov i) := ⟨fun _ h => h, fun _ _ => rfl, fun i v h => by
    try simp only []
    split
    · rename_i e; subst e; rw [hnew] at h; cases h
    · exact h⟩
  refine ⟨fun i => if s.nx = i then some (.slice none 0 0) else ov i, ⟨hc.mem.bel, hc.mem.tj, hc.mem.Hlt, hc.mem.low, fun i o hi => ?_, fun i j oi oj vi vj b hij hi hj hvi hvj hb => ?_⟩, hc.siz, hc.dfr, hc.kp, fun u => ?_, fun id hid => ?_⟩
  · rw [hob] at hi
    try simp only []
    split at hi
    · rename_i e1
      cases hi
      refine ⟨_, by rw [if_pos e1], ⟨fun x hx => (by cases hx), fun b hb => (by cases hb), fun b hb => (by cases hb), .inr ⟨rfl, hsz, 0, [], ⟨by simp, .inl ⟨rfl, rfl⟩⟩, ⟨rfl, fun j v x h1 h2 => (by cases h1)⟩, Nat.zero_le _⟩⟩⟩
    · rename_i e1
      obtain ⟨v, hv, hr⟩ := hc.mem.obj i o hi
      exact ⟨v, by rw [if_neg e1]; exact hv, hr.mono hE.ho (fun _ h => h) (fun _ _ => rfl) (fun _ _ => rfl) (fun _ _ h => h)⟩
  · rw [hob] at hi hj
    try simp only [] at hvi hvj
    split at hi
    · rename_i e1
      rw [if_pos e1] at hvi
      cases hvi; cases hb
    · rename_i e1
      rw [if_neg e1] at hvi
      split at hj
      · rename_i e2
        rw [if_pos e2] at hvj
        cases hvj; intro h; cases h
      · rename_i e2
        rw [if_neg e2] at hvj
        exact hc.mem.sep i j oi oj vi vj b hij hi hj hvi hvj hb
  · show Rep w H _ _ (lk ((t, .ow sz s.nx 0) :: s.env) u)
    simp only [lk]
    split
    · rename_i e1
      subst e1
      have := hc.env t
      rw [ht] at this
      rw [this.inv_nl]
      exact .ow sz s.nx 0 0 none (Nat.zero_le _) (Nat.le_refl _) (.inl rfl) (by simp)
    · exact (hc.env u).mono hE
  · have h1 : s.nx ≤ id := Nat.le_of_succ_le hid
    have h2 : s.nx ≠ id := Nat.ne_of_lt hid
    simp only [if_neg h2]
    exact hc.new id h1
theorem Conc.mats {w : World} {H : Nat → Prop} {a : Act} : ∀ {ms : List (Nat × Nat × Nat)} {ov : Nat → Option Value} {s : St}, Conc w0 H0 w H ov N a s → St.matOk ms s → ∃ ov', Conc w0 H0 w H ov' N a (St.mats ms s)
  | [], ov, s, hc, _ => ⟨ov, hc⟩
  | (t, e, sz) :: l, ov, s, hc, h => by
    obtain ⟨h1, h2, h3⟩ := h
    obtain ⟨ov1, hc1⟩ := hc.mat (e := e) h1 h2
    exact Conc.mats (ms := l) (s := s.mat t e sz) hc1 h3
def Post (w0 : World) (H0 : HS) (N : Nat) (Q : Ex → St → Prop) : Exit → Act → World → Prop
  | .normal, a, w => ∃ s H ov, Q .normal s ∧ Conc w0 H0 w H ov N a s
  | .exit i, a, w => ∃ s H ov, Q (.exit i) s ∧ Conc w0 H0 w H ov N a s
  | .ret, a, w => ∃ s H ov, Q .ret s ∧ Conc w0 H0 w H ov N a s
  | _, _, _ => False
theorem rgd_chk {F G : Nat → List V → V → Prop} {l : List AO} {s : St} {K : St → Prop} (h : rgd F G l s K) : rgd F G l s (fun s' => chk (aparts s' []) (K s')) := by
  have e : (fun s' => chk (aparts s' []) (K s')) = K := by funext s'; simp [chk, aparts]
  rw [e]; exact h
def nod (m : Nat) : AC → Bool
  | .reg ops | .dreg ops | .dregx _ ops => ops.all fun o => o.dst != some m
  | .seq a b | .cond _ a b => nod m a && nod m b
  | .blk _ c | .loop c => nod m c
  | _ => true
def nodk (H0 : HS) (ac : AC) : Prop := ∀ m v, (m, v) ∈ H0.kp → nod m ac = true
theorem nodk_ops {H0 : HS} {ops : List AO} (h : nodk H0 (.reg ops)) : ∀ o, o ∈ ops → nkp H0 o.dst := fun o ho m v hm e => by
  have := List.all_eq_true.1 (h m v hm) o ho
  rw [e] at this; simp at this
theorem nodk_l {H0 : HS} {a b : AC} (h : nodk H0 (.seq a b)) : nodk H0 a := fun m v hm => by
  have := h m v hm; simp only [nod, Bool.and_eq_true] at this; exact this.1
theorem nodk_r {H0 : HS} {a b : AC} (h : nodk H0 (.seq a b)) : nodk H0 b := fun m v hm => by
  have := h m v hm; simp only [nod, Bool.and_eq_true] at this; exact this.2
theorem avc_sound (hfol : P.follows .mixedOrders = true) (hJs : ∀ w', BelE w0 H0.e w' → J w') : ∀ (c : Code) (ac : AC), cCode P N c = some ac → nodk H0 ac → ∀ (Q : Ex → St → Prop) (s : St) (a : Act) (w : World) (H : Nat → Prop) (ov : Nat → Option Value),
    Conc w0 H0 w H ov N a s → avc (AFun P J) (XFun P) ac Q s → c.wp P (Post w0 H0 N Q) a w := by
  intro c
  induction c with
  | skip => intro ac h hk Q s a w H ov hc hv; simp only [cCode, Option.some.injEq] at h; subst h; exact wp_skip ⟨s, H, ov, hv, hc⟩
  | label l => intro ac h hk Q s a w H ov hc hv; simp only [cCode, Option.some.injEq] at h; subst h; exact wp_label ⟨s, H, ov, hv, hc⟩
  | region rid ops draw =>
    intro ac h hk Q s a w H ov hc hv
    simp only [cCode] at h
    split at h
    · rename_i al hal
      cases draw with
      | true =>
        simp only [if_true] at h
        split at h
        · rename_i hd
          cases h
          exact wp_draw hfol hJs hc hal hd (nodk_ops hk) (rgd_chk hv) fun s' w' H' ov' a' hK hc' => ⟨s', H', ov', hK, hc'⟩
        · split at h
          · rename_i hd
            cases h
            exact wp_draw hfol hJs hc hal hd (nodk_ops hk) (K := Q .normal) hv fun s' w' H' ov' a' hK hc' => ⟨s', H', ov', hK, hc'⟩
          · cases h
      | false =>
        simp only [Bool.false_eq_true, if_false, Option.some.injEq] at h
        subst h
        exact wp_region_list (rgv_list hJs (K := Q .normal) (fun s' w' H' ov' a' hK hc' => ⟨s', H', ov', hK, hc'⟩) ops.toList al hal (nodk_ops hk) hc hv)
    · cases h
  | seq c d ihc ihd =>
    intro ac h hk Q s a w H ov hc hv
    simp only [cCode] at h
    split at h
    · rename_i c' d' h1 h2
      cases h
      refine wp_seq (wp_mono (ihc c' h1 (nodk_l hk) _ s a w H ov hc hv) fun e a' w' hq => ?_)
      cases e with
      | normal => obtain ⟨s', H', ov', hq, hc'⟩ := hq; exact ihd d' h2 (nodk_r hk) Q s' a' w' H' ov' hc' hq
      | exit i => exact hq
      | ret => exact hq
      | goto l => exact hq
      | panic ch => exact hq
      | outgrown => exact hq
    · cases h
  | cond x c d ihc ihd =>
    intro ac h hk Q s a w H ov hc hv
    simp only [cCode] at h
    split at h
    · rename_i x' c' d' h0 h1 h2
      cases h
      simp only [avc] at hv
      have hx := hc.val x x' h0
      cases hb : s.val x' <;> rw [hb] at hv hx <;> simp only [cnd] at hv
      case b t =>
        refine wp_cond_split hx.inv_b (fun ht => ihc c' h1 (nodk_l hk) Q s a w H ov hc (hv.1 ht)) (fun ht => ihd d' h2 (nodk_r hk) Q s a w H ov hc (hv.2 ht))
    · cases h
  | block id c ih =>
    intro ac h hk Q s a w H ov hc hv
    simp only [cCode] at h
    split at h
    · rename_i c' h1
      cases h
      refine wp_block (wp_mono (ih c' h1 hk _ s a w H ov hc hv) fun e a' w' hq => ?_)
      cases e with
      | normal => exact hq
      | exit i =>
        obtain ⟨s', H', ov', hq, hc'⟩ := hq
        simp only [Exit.inBlock]
        simp only [] at hq
        split
        · rename_i e; rw [if_pos e] at hq; exact ⟨s', H', ov', hq, hc'⟩
        · rename_i e; rw [if_neg e] at hq; exact ⟨s', H', ov', hq, hc'⟩
      | ret => exact hq
      | goto l => exact hq
      | panic ch => exact hq
      | outgrown => exact hq
    · cases h
  | loop c ih =>
    intro ac h hk Q s a w H ov hc hv
    simp only [cCode] at h
    split at h
    · rename_i c' h1
      cases h
      simp only [avc] at hv
      obtain ⟨X, mk, I, μ, ⟨ms, x0, r0, hI0, hms, hle0⟩, hround⟩ := hv
      obtain ⟨ov00, hc00⟩ := hc.mats hms
      obtain ⟨ov0, hc0⟩ := hc00.weaken hle0
      refine wp_loop_ghost (fun n a w => ∃ x H ov, μ x = n ∧ I x ∧ Conc w0 H0 w H ov N a (mk x)) (μ x0) ⟨x0, H, ov0, rfl, hI0, hc0⟩ ?_
      rintro n a1 w1 ⟨x, H1, ov1, rfl, hI, hc1⟩
      refine wp_mono (ih c' h1 hk _ (mk x) a1 w1 H1 ov1 hc1 (hround x hI)) fun e a' w' hq => ?_
      cases e with
      | normal =>
        obtain ⟨s', H', ov', ⟨ms', x', r', hI', hlt, hms', hle⟩, hc'⟩ := hq
        obtain ⟨ov3, hc3⟩ := hc'.mats hms'
        obtain ⟨ov2, hc2⟩ := hc3.weaken hle
        exact ⟨μ x', hlt, x', H', ov2, rfl, hI', hc2⟩
      | exit i => exact hq
      | ret => exact hq
      | goto l => exact hq
      | panic ch => exact hq
      | outgrown => exact hq
    · cases h
  | scope c ih =>
    intro ac h hk Q s a w H ov hc hv
    simp only [cCode] at h
    refine wp_scope_straight (wp_mono (ih ac h hk Q s a w H ov hc hv) fun e a' w' hq => ?_)
    cases e <;> exact hq
  | exit id => intro ac h hk Q s a w H ov hc hv; simp only [cCode, Option.some.injEq] at h; subst h; exact wp_exit ⟨s, H, ov, hv, hc⟩
  | ret => intro ac h hk Q s a w H ov hc hv; simp only [cCode, Option.some.injEq] at h; subst h; exact wp_ret ⟨s, H, ov, hv, hc⟩
  | rangeFunc f ps c d ihc ihd => intro ac h; simp [cCode] at h
  | goto l => intro ac h; simp [cCode] at h
  | refuse y => intro ac h; simp [cCode] at h
def resSlots : List ResultVar → Option (List Nat)
  | [] => some []
  | .tmp t :: r => match resSlots r with | some l => some (t :: l) | none => none
  | .cell _ _ :: _ => none
def ret1 (s : St) (v r : V) : Prop :=
  match r with
  | .o e sz cs => (match v with | .ow _ i _ => s.ob i = some { e, sz, cs, mu := true, isv := false } | .nl => cs = [] ∧ 0 < sz | _ => False)
  | .l sz cs => 0 < sz ∧ okR s.ob v ∧ rd s.ob sz v = .l sz cs
  | .any => True
  | r => v = r ∧ r.okArg = true
def retN (s : St) : List Nat → List V → Prop
  | [], [] => True
  | t :: ts, r :: rs => (match r with | .o _ _ _ => False | r => ret1 s (s.get t) r) ∧ retN s ts rs
  | _, _ => False
def ret1F (s : St) (v r : V) : Prop :=
  match r with
  | .l sz cs => 0 < sz ∧ V.hasL (.t cs) = false ∧
      (match v with | .ow z i n => rd s.ob sz (.ow z i n) = .l sz cs | .nl => cs = [] | _ => False)
  | .i k n => v = .i k n
  | .b x => v = .b x
  | _ => False
def retF (s : St) : List Nat → List V → Prop
  | [], [] => True
  | t :: ts, r :: rs => ret1F s (s.get t) r ∧ retF s ts rs
  | _, _ => False
def retOk (s : St) (ts : List Nat) (r : V) : Prop :=
  match ts with
  | [] => r = .t []
  | [t] => ret1 s (s.get t) r
  | ts => match r with | .t rs => retN s ts rs | .fr (.t rs) => retF s ts rs | _ => False
def initE : Nat → List V → List (Nat × V)
  | _, [] => []
  | k, v :: r => (k, v) :: initE (k + 1) r
theorem initE_get : ∀ (vs : List V) (k t : Nat), lk (initE k vs) t = if k ≤ t then vs.getD (t - k) .any else .any
  | [], k, t => by simp [initE, lk]
  | v :: r, k, t => by
    simp only [initE, lk]
    split
    · rename_i e; subst e; simp
    · rename_i e
      rw [initE_get r (k + 1) t]
      by_cases h : k ≤ t
      · rw [if_pos (by omega), if_pos h]
        obtain ⟨d, rfl⟩ : ∃ d, t = k + 1 + d := ⟨t - (k + 1), by omega⟩
        rw [show k + 1 + d - (k + 1) = d from by omega, show k + 1 + d - k = d + 1 from by omega]
        rfl
      · rw [if_neg (by omega), if_neg h]
def initS (vs : List V) : St := { env := initE 0 vs, obs := [], nx := 0 }
def resVal (tmps : Array Value) : List Nat → Value
  | [] => .tuple #[]
  | [t] => tmps.getD t undef
  | ts => .tuple (ts.map fun t => tmps.getD t undef).toArray
theorem resSlots_run {fn : Func} {ts : List Nat} (h : resSlots fn.results.toList = some ts) (tmps : Array Value) (w : World) : (results fn tmps).run P w = .ok (resVal tmps ts) w := by
  have hr : fn.results.toList = ts.map ResultVar.tmp := by
    have gen : ∀ (l : List ResultVar) (ts : List Nat), resSlots l = some ts → l = ts.map ResultVar.tmp := fun l => by
      induction l with
      | nil => intro ts h; simp [resSlots] at h; subst h; rfl
      | cons x r ih =>
        intro ts h
        cases x with
        | tmp t =>
          simp only [resSlots] at h
          split at h
          · rename_i l hl; cases h; rw [ih l hl]; rfl
          · cases h
        | cell a t => simp [resSlots] at h
    exact gen _ _ h
  have hra : fn.results = (ts.map ResultVar.tmp).toArray := toArray_of hr
  have hrun : ∀ ts : List Nat, ((ts.map ResultVar.tmp).mapM (fun x => match x with
      | ResultVar.tmp t => (pure (tmps.getD t undef) : Sem Value)
      | ResultVar.cell a t => do loadVar t (← asAddr (tmps.getD a undef)))).run P w = .ok (ts.map fun t => tmps.getD t undef) w := fun ts => by
    induction ts with
    | nil => rfl
    | cons t ts ih => simp only [List.map_cons, List.mapM_cons, Sem.run_bind, Sem.run_pure, Result.andThen_ok, ih]
  unfold results
  rw [hra]
  simp only [Array.mapM_eq_mapM_toList, List.toList_toArray, Sem.run_bind, Sem.run_map]
  erw [hrun ts]
  simp only [Result.andThen_ok, Sem.run_pure]
  match ts with
  | [] => rfl
  | [t] => simp [resVal]
  | t :: t' :: ts => simp [resVal]
theorem ret1_rep (hE0 : ∀ b, ¬ H0.e b) {w : World} {H : Nat → Prop} {ov : Nat → Option Value} {a : Act} {s : St} (hc : Conc w0 H0 w H ov N a s) {cv : Value} {v r : V} (hr : Rep w H ov cv v) (h : ret1 s v r) : Res w0 w H0.h cv r := by
  have low : ∀ b, H b → b < w0.heap.size → H0.h b := fun b h hb => (hc.mem.low b h hb).resolve_right (hE0 b)
  have base : ∀ {cv : Value} {r : V}, (∃ H' : Nat → Prop, (∀ b, H' b → b < w.heap.size) ∧ (∀ b, H' b → b < w0.heap.size → H0.h b) ∧ Rep0 w H' cv r) → Res w0 w H0.h cv r := fun ⟨H', h1, h2, h3⟩ =>
    ⟨fun b => H' b ∧ w0.heap.size ≤ b, fun b hb => ⟨hb.2, h1 b hb.1⟩, .inl (h3.mono (fun b hb => by
      rcases Nat.lt_or_ge b w0.heap.size with h | h
      · exact .inl (h2 b hb h)
      · exact .inr ⟨hb, h⟩) (fun _ _ => rfl))⟩
  have plain : Rep0 w H cv r → Res w0 w H0.h cv r := fun h => base ⟨H, hc.mem.Hlt, low, h⟩
  cases r with
  | o e sz cs =>
    simp only [ret1] at h
    cases v <;> simp only [] at h
    case ow sz' i n =>
      obtain ⟨ba, cap, e1, ho, hm, hcp, ha⟩ := hr.inv_ow
      obtain ⟨u, hu, hor⟩ := hc.mem.obj i _ h
      rw [ho] at hu; cases hu
      rcases hor.bd with ⟨h', _⟩ | ⟨_, hsz, n', xs, hown, hra, hnm⟩
      · cases h'
      · refine ⟨fun b => H b ∧ w0.heap.size ≤ b, fun b hb => ⟨hb.2, hc.mem.Hlt b hb.1⟩, .inr (.inl ⟨e, sz, cs, n', xs, rfl, hsz, ownB hown (fun b hb => (hor.ow b hb).resolve_right (hE0 b)), hra.mono (fun b hb => ?_) (fun _ _ => rfl), hor.cl (rfo_row rfl), hnm, fun b hb hN => ?_⟩)⟩
        · rcases Nat.lt_or_ge b w0.heap.size with h | h
          · exact .inl (low b hb h)
          · exact .inr ⟨hb, h⟩
        · have := (hor.fz b hb).1 hN.1; cases this
    case nl =>
      obtain ⟨rfl, hsz⟩ := h
      have e1 := hr.inv_nl
      subst e1
      refine ⟨fun _ => False, fun b hb => hb.elim, .inr (.inl ⟨e, sz, [], 0, [], rfl, hsz, World.ownsRow_nil _ _ _ _, ⟨rfl, fun j v x h => by simp at h⟩, fun x hx => by (cases hx), Nat.zero_le _, fun b hb => ?_⟩)⟩
      cases hb
  | l sz cs =>
    obtain ⟨hsz, hok, he⟩ := h
    obtain ⟨H1, hext, hm1, hfr, _⟩ := hc.mem.freeze (onlyFrz_frz (ob := s.ob) v)
    have := rd_rep hc.mem hsz hr hok (.inl (by rw [he]; rfl)) hext.hH hfr
    rw [he] at this
    exact base ⟨H1, hm1.Hlt, fun b h hb => (hm1.low b h hb).resolve_right (hE0 b), this⟩
  | any => exact plain (.any _)
  | i k n => obtain ⟨rfl, _⟩ := h; exact plain (by cases hr with | base h => exact h)
  | b x => obtain ⟨rfl, _⟩ := h; exact plain (by cases hr with | base h => exact h)
  | s x => obtain ⟨rfl, _⟩ := h; exact plain (by cases hr with | base h => exact h)
  | g x => obtain ⟨rfl, _⟩ := h; exact plain (by cases hr with | base h => exact h)
  | ip x k => obtain ⟨rfl, _⟩ := h; exact plain (by cases hr with | base h => exact h)
  | c x => obtain ⟨rfl, _⟩ := h; exact plain (by cases hr with | base h => exact h)
  | f n => obtain ⟨rfl, _⟩ := h; exact plain (by cases hr with | base h => exact h)
  | z x y => obtain ⟨rfl, _⟩ := h; exact plain (by cases hr with | base h => exact h)
  | t vs => obtain ⟨rfl, h⟩ := h; simp [V.okArg] at h
  | ow sz i n => obtain ⟨rfl, h⟩ := h; simp [V.okArg] at h
  | sl sz i off n => obtain ⟨rfl, h⟩ := h; simp [V.okArg] at h
  | pt i n => obtain ⟨rfl, h⟩ := h; simp [V.okArg] at h
  | nl => obtain ⟨rfl, h⟩ := h; simp [V.okArg] at h
  | un => obtain ⟨rfl, h⟩ := h; simp [V.okArg] at h
  | fr x => obtain ⟨rfl, h⟩ := h; simp [V.okArg] at h
  | mu x cs => obtain ⟨rfl, h⟩ := h; simp [V.okArg] at h
  | tw a b c d => obtain ⟨rfl, h⟩ := h; simp [V.okArg] at h
  | to a b c d => obtain ⟨rfl, h⟩ := h; simp [V.okArg] at h
  | fc f x => obtain ⟨rfl, _⟩ := h; exact plain (by cases hr with | base h => exact h)
  | kn x y => obtain ⟨rfl, _⟩ := h; exact plain (by cases hr with | base h => exact h)
theorem ret1F_rep (hE0 : ∀ b, ¬ H0.e b) {w : World} {H : Nat → Prop} {ov : Nat → Option Value} {a : Act} {s : St} (hc : Conc w0 H0 w H ov N a s) {cv : Value} {v r : V} (hr : Rep w H ov cv v) (h : ret1F s v r) :
    Rep0 w (fun b => w0.heap.size ≤ b ∧ b < w.heap.size) cv r := by
  unfold ret1F at h
  split at h
  · rename_i sz cs
    obtain ⟨hsz, hfl, h⟩ := h
    split at h
    · rename_i z i n
      have hrr := rd_rep hc.mem hsz hr (by trivial) (.inl (by rw [h]; rfl)) (H' := fun _ => True) (fun _ _ => trivial) (fun _ _ _ _ _ _ _ => trivial)
      rw [h] at hrr
      obtain ⟨a', m, cap, f, b, o, e1, h1, h2, h3, h4, h5, h6, h7⟩ := hrr.inv_l
      subst e1
      have hb : ∀ b', blk (.slice a' m cap) = some b' → w0.heap.size ≤ b' ∧ b' < w.heap.size := fun b' hb' => by
        obtain ⟨_, _, _, ho, _⟩ := hr.inv_ow
        simp only [rd] at h
        cases hob : s.ob i with
        | none => rw [hob] at h; cases h
        | some oo =>
          obtain ⟨u, hu, hor⟩ := hc.mem.obj i oo hob
          rw [ho] at hu; cases hu
          exact ⟨(hor.lt hb').1.resolve_right (hE0 b'), (hor.lt hb').2⟩
      refine .l a' m cap sz cs f b o h1 h2 h3 h4 (h5.imp id fun h => ⟨h.1, hb b (by rw [h.1]; rfl)⟩) h6 fun j x hx => flat_any ?_ (h7 j x hx)
      have := List.any_eq_false.1 (show (cs.any fun x => match x with | .i _ _ | .b _ | .s _ => false | _ => true) = false from hfl) x (List.mem_of_getElem? hx)
      cases x <;> simp_all
    · subst h
      have e1 := hr.inv_nl
      subst e1
      exact .l none 0 0 sz [] (fun _ => undef) 0 0 hsz (by simp) (Nat.zero_le _) (Nat.le_refl _) (.inl rfl) (fun j hj => by simp at hj) (fun j x hx => by simp at hx)
    · exact h.elim
  · rw [h] at hr; rw [hr.inv_i]; exact .i _ _
  · rw [h] at hr; rw [hr.inv_b]; exact .b _
  · exact h.elim
theorem retF_rep (hE0 : ∀ b, ¬ H0.e b) {w : World} {H : Nat → Prop} {ov : Nat → Option Value} {a : Act} {s : St} (hc : Conc w0 H0 w H ov N a s) : ∀ (ts : List Nat) (rs : List V), retF s ts rs →
    RepAll w (fun b => w0.heap.size ≤ b ∧ b < w.heap.size) (ts.map fun t => a.tmps.getD t undef) rs
  | [], [], _ => ⟨rfl, fun j v x h => by simp at h⟩
  | [], _ :: _, h => h.elim
  | _ :: _, [], h => h.elim
  | t :: ts, r :: rs, h => by
    obtain ⟨h1, h2⟩ := h
    have ih := retF_rep hE0 hc ts rs h2
    refine ⟨by simpa using ih.1, fun j v x hv hx => ?_⟩
    cases j with
    | zero =>
      simp only [List.map_cons, List.getElem?_cons_zero, Option.some.injEq] at hv hx
      subst hv; subst hx; exact ret1F_rep hE0 hc (hc.env t) h1
    | succ j => exact ih.2 j v x (by simpa using hv) (by simpa using hx)
theorem retN_repK {w : World} {H : Nat → Prop} {ov : Nat → Option Value} {a : Act} {s : St} (hc : Conc w0 H0 w H ov N a s) : ∀ (ts : List Nat) (rs : List V), retN s ts rs →
    ts.length = rs.length ∧ ∃ up, OnlyFrz s.ob up ∧ (∀ k x, (k, x) ∈ up → ∃ t, t ∈ ts ∧ (k, x) ∈ frz s.ob (s.get t)) ∧ ∀ H' : Nat → Prop, (∀ b, H b → H' b) → (∀ k y u b, (k, y) ∈ up → ov k = some u → blk u = some b → H' b) → ∀ (j : Nat) (t : Nat) (r : V), ts[j]? = some t → rs[j]? = some r → Rep0 w H' (a.tmps.getD t undef) r
  | [], [], _ => ⟨rfl, [], OnlyFrz.nil, (fun _ _ h => by cases h), fun H' _ _ j t r h => by simp at h⟩
  | [], _ :: _, h => by simp [retN] at h
  | _ :: _, [], h => by simp [retN] at h
  | t :: ts, r :: rs, h => by
    obtain ⟨h1, h2⟩ := h
    obtain ⟨hl, up, hup, hkey, hreps⟩ := retN_repK hc ts rs h2
    have one : ∃ up1, OnlyFrz s.ob up1 ∧ (∀ k x, (k, x) ∈ up1 → (k, x) ∈ frz s.ob (s.get t)) ∧ ∀ H' : Nat → Prop, (∀ b, H b → H' b) → (∀ k y u b, (k, y) ∈ up1 → ov k = some u → blk u = some b → H' b) → Rep0 w H' (a.tmps.getD t undef) r := by
      have hr := hc.env t
      have same : s.get t = r → r.okArg = true → ∃ up1, OnlyFrz s.ob up1 ∧ (∀ k x, (k, x) ∈ up1 → (k, x) ∈ frz s.ob (s.get t)) ∧ ∀ H' : Nat → Prop, (∀ b, H b → H' b) → (∀ k y u b, (k, y) ∈ up1 → ov k = some u → blk u = some b → H' b) → Rep0 w H' (a.tmps.getD t undef) r := fun e hok => by
        rw [e] at hr
        generalize a.tmps.getD t undef = cv at hr
        refine ⟨[], OnlyFrz.nil, (fun _ _ h => by cases h), fun H' hH _ => ?_⟩
        cases hr with
        | base h => exact h.mono hH (fun _ _ => rfl)
        | ow => simp [V.okArg] at hok
        | sl => simp [V.okArg] at hok
        | pt => simp [V.okArg] at hok
        | tw => simp [V.okArg] at hok
      cases r with
      | o e sz cs => exact h1.elim
      | l sz cs =>
        obtain ⟨hsz, hok, he⟩ := h1
        refine ⟨frz s.ob (s.get t), onlyFrz_frz _, (fun _ _ h => h), fun H' hH hfr => ?_⟩
        have := rd_rep hc.mem hsz hr hok (.inl (by rw [he]; rfl)) hH hfr
        rw [he] at this; exact this
      | any => exact ⟨[], OnlyFrz.nil, (fun _ _ h => by cases h), fun H' _ _ => .any _⟩
      | _ => exact same h1.1 h1.2
    obtain ⟨up1, hup1, hkey1, hrep1⟩ := one
    refine ⟨by simp [hl], up1 ++ up, hup1.append hup, (fun k x h => (List.mem_append.1 h).elim (fun h => ⟨t, List.mem_cons_self, hkey1 k x h⟩) fun h => by obtain ⟨t', h1, h2⟩ := hkey k x h; exact ⟨t', List.mem_cons_of_mem _ h1, h2⟩), fun H' hH hfr j t' r' ht hr => ?_⟩
    cases j with
    | zero => simp at ht hr; subst ht; subst hr; exact hrep1 H' hH fun k y u b hk => hfr k y u b (List.mem_append.2 (.inl hk))
    | succ j => exact hreps H' hH (fun k y u b hk => hfr k y u b (List.mem_append.2 (.inr hk))) j t' r' (by simpa using ht) (by simpa using hr)
theorem retN_rep {w : World} {H : Nat → Prop} {ov : Nat → Option Value} {a : Act} {s : St} (hc : Conc w0 H0 w H ov N a s) : ∀ (ts : List Nat) (rs : List V), retN s ts rs →
    ts.length = rs.length ∧ ∃ up, OnlyFrz s.ob up ∧ ∀ H' : Nat → Prop, (∀ b, H b → H' b) → (∀ k y u b, (k, y) ∈ up → ov k = some u → blk u = some b → H' b) → ∀ (j : Nat) (t : Nat) (r : V), ts[j]? = some t → rs[j]? = some r → Rep0 w H' (a.tmps.getD t undef) r
  | [], [], _ => ⟨rfl, [], OnlyFrz.nil, fun H' _ _ j t r h => by simp at h⟩
  | [], _ :: _, h => by simp [retN] at h
  | _ :: _, [], h => by simp [retN] at h
  | t :: ts, r :: rs, h => by
    obtain ⟨h1, h2⟩ := h
    obtain ⟨hl, up, hup, hreps⟩ := retN_rep hc ts rs h2
    have one : ∃ up1, OnlyFrz s.ob up1 ∧ ∀ H' : Nat → Prop, (∀ b, H b → H' b) → (∀ k y u b, (k, y) ∈ up1 → ov k = some u → blk u = some b → H' b) → Rep0 w H' (a.tmps.getD t undef) r := by
      have hr := hc.env t
      have same : s.get t = r → r.okArg = true → ∃ up1, OnlyFrz s.ob up1 ∧ ∀ H' : Nat → Prop, (∀ b, H b → H' b) → (∀ k y u b, (k, y) ∈ up1 → ov k = some u → blk u = some b → H' b) → Rep0 w H' (a.tmps.getD t undef) r := fun e hok => by
        rw [e] at hr
        generalize a.tmps.getD t undef = cv at hr
        refine ⟨[], OnlyFrz.nil, fun H' hH _ => ?_⟩
        cases hr with
        | base h => exact h.mono hH (fun _ _ => rfl)
        | ow => simp [V.okArg] at hok
        | sl => simp [V.okArg] at hok
        | pt => simp [V.okArg] at hok
        | tw => simp [V.okArg] at hok
      cases r with
      | o e sz cs => exact h1.elim
      | l sz cs =>
        obtain ⟨hsz, hok, he⟩ := h1
        refine ⟨frz s.ob (s.get t), onlyFrz_frz _, fun H' hH hfr => ?_⟩
        have := rd_rep hc.mem hsz hr hok (.inl (by rw [he]; rfl)) hH hfr
        rw [he] at this; exact this
      | any => exact ⟨[], OnlyFrz.nil, fun H' _ _ => .any _⟩
      | _ => exact same h1.1 h1.2
    obtain ⟨up1, hup1, hrep1⟩ := one
    refine ⟨by simp [hl], up1 ++ up, hup1.append hup, fun H' hH hfr j t' r' ht hr => ?_⟩
    cases j with
    | zero => simp at ht hr; subst ht; subst hr; exact hrep1 H' hH fun k y u b hk => hfr k y u b (List.mem_append.2 (.inl hk))
    | succ j => exact hreps H' hH (fun k y u b hk => hfr k y u b (List.mem_append.2 (.inr hk))) j t' r' (by simpa using ht) (by simpa using hr)
theorem retOk_res (hE0 : ∀ b, ¬ H0.e b) {w : World} {H : Nat → Prop} {ov : Nat → Option Value} {a : Act} {s : St} (hc : Conc w0 H0 w H ov N a s) {ts : List Nat} {r : V} (h : retOk s ts r) : Res w0 w H0.h (resVal a.tmps ts) r := by
  match ts with
  | [] =>
    simp only [retOk] at h
    subst h
    exact ⟨fun _ => False, fun b hb => hb.elim, .inl (.t [] [] rfl fun j v x h => by simp at h)⟩
  | [t] => exact ret1_rep hE0 hc (hc.env t) h
  | t :: t' :: ts =>
    simp only [retOk] at h
    cases r <;> (try simp only [] at h)
    case fr r' =>
      cases r' <;> (try exact h.elim)
      case t rs =>
        have := retF_rep hE0 hc _ _ h
        exact ⟨fun b => w0.heap.size ≤ b ∧ b < w.heap.size, fun b hb => hb, .inr (.inr ⟨_, rfl, .t _ _ this.1 this.2⟩)⟩
    case t rs =>
      obtain ⟨hl, up, hup, hreps⟩ := retN_rep hc _ _ h
      obtain ⟨H1, hext, hm1, hfr, _⟩ := hc.mem.freeze hup
      refine ⟨fun b => H1 b ∧ w0.heap.size ≤ b, fun b hb => ⟨hb.2, hm1.Hlt b hb.1⟩, .inl ?_⟩
      have : Rep0 w H1 (.tuple ((t :: t' :: ts).map fun t => a.tmps.getD t undef).toArray) (.t rs) := by
        refine .t _ _ (by simpa using hl) fun j v x h1 h2 => ?_
        simp only [List.getElem?_map, Option.map_eq_some_iff] at h1
        obtain ⟨q, hq, rfl⟩ := h1
        exact hreps H1 hext.hH hfr j q x hq h2
      exact this.mono (fun b hb => by
        rcases Nat.lt_or_ge b w0.heap.size with h | h
        · exact .inl ((hm1.low b hb h).resolve_right (hE0 b))
        · exact .inr ⟨hb, h⟩) (fun _ _ => rfl)
theorem AFun.plain {f : FuncId} {args : List V} {r : V} (h : AFun P J f args (.fr r)) (hr' : r.isMu = false := by rfl) : AFun P J f args r := .of0 hr' fun w H vs hJ hT hH hr => by
  refine (h w H vs hJ hT hH hr).mono ?_
  rintro e w' ⟨v, rfl, hb, N, hN, hres⟩
  refine ⟨v, rfl, hb, N, hN, .inl ?_⟩
  rcases hres with hres | ⟨_, _, _, _, _, h, _⟩ | ⟨r', h, hres⟩
  · cases hres
  · cases h
  · cases h; exact hres.mono (fun _ h => .inr h) (fun _ _ => rfl)
theorem AFun.mk (hfol : P.follows .mixedOrders = true) (hJs : ∀ w e w', J w → BelE w e w' → J w') {f : FuncId} {fn : Func} {c : Code} {ac : AC} {ts : List Nat} {args : List V} {r : V} (hf : P.funcs[f]? = some fn) (hb : fn.body = some c) (hc : cCode P fn.ntmps c = some ac) (hts : resSlots fn.results.toList = some ts) (hn' : Nat.ble args.length fn.ntmps = true) (hmu : r.isMu = false)
    (hv : avc (AFun P J) (XFun P) ac (fun e s => match e with | .normal => retOk s ts r | .ret => retOk s ts r | .exit _ => False) (initS args)) : AFun P J f args r := by
  have hn : args.length ≤ fn.ntmps := Nat.le_of_ble_eq_true hn'
  refine .of0 hmu ?_
  intro w H vs hJ hT hH hreps
  refine calls_of_wp hf hb ?_
  have hlen : vs.length = args.length := hreps.1
  have hsz : (vs.toArray ++ Array.replicate (fn.ntmps - vs.toArray.size) undef).size = fn.ntmps := by simp; omega
  have hconc : Conc w ⟨H, fun _ => False, []⟩ w H (fun _ => none) fn.ntmps { tmps := vs.toArray ++ Array.replicate (fn.ntmps - vs.toArray.size) undef, defers := [] } (initS args) := by
    refine ⟨⟨BelE.refl _ _, hT, hH, fun b hb _ => .inl hb, fun id o h => (by cases h), fun i j oi oj vi vj b hij h => (by cases h)⟩, hsz, rfl, fun _ _ h => (by cases h), fun t => ?_, fun _ _ => rfl⟩
    show Rep w H (fun _ => none) _ (lk (initE 0 args) t)
    rw [initE_get]
    simp only [Nat.zero_le, if_true, Nat.sub_zero]
    by_cases ht : t < args.length
    · have htv : t < vs.length := by omega
      have := hreps.2 t vs[t] args[t] (List.getElem?_eq_getElem htv) (List.getElem?_eq_getElem ht)
      simp only [Array.getD_eq_getD_getElem?, List.getD, List.getElem?_eq_getElem ht, Option.getD_some]
      rw [Array.getElem?_append_left (by simpa using htv)]
      simp only [List.getElem?_toArray, List.getElem?_eq_getElem htv, Option.getD_some]
      exact .up this
    · have : args.getD t V.any = .any := by simp [List.getD, List.getElem?_eq_none (Nat.le_of_not_lt ht)]
      rw [this]; exact .any _
  refine wp_mono (avc_sound (J := J) (H0 := ⟨H, fun _ => False, []⟩) hfol (fun w' hb => hJs w _ w' hJ hb) c ac hc (fun _ _ h => by cases h) _ _ _ w H (fun _ => none) hconc hv) fun e a' w' hq => ?_
  cases e with
  | normal =>
    obtain ⟨s', H', ov', hr, hc'⟩ := hq
    exact ⟨hc'.dfr, _, resSlots_run hts _ _, _, rfl, hc'.mem.bel.below (fun _ h => h), retOk_res (fun _ h => h) hc' hr⟩
  | ret =>
    obtain ⟨s', H', ov', hr, hc'⟩ := hq
    exact ⟨hc'.dfr, _, resSlots_run hts _ _, _, rfl, hc'.mem.bel.below (fun _ h => h), retOk_res (fun _ h => h) hc' hr⟩
  | exit i => obtain ⟨s', H', ov', hr, _⟩ := hq; exact hr.elim
  | goto l => exact hq.elim
  | panic ch => exact hq.elim
  | outgrown => exact hq.elim
theorem AFun.mkt (hfol : P.follows .mixedOrders = true) (hJs : ∀ w e w', J w → BelE w e w' → J w') {f : FuncId} {fn : Func} {c : Code} {ac : AC} {t0 : Nat} {ts : List Nat} {args : List V} {e sz : Nat} {cs rs : List V} (hf : P.funcs[f]? = some fn) (hb : fn.body = some c) (hc : cCode P fn.ntmps c = some ac) (hts : resSlots fn.results.toList = some (t0 :: ts)) (hts1 : ts ≠ []) (hn' : Nat.ble args.length fn.ntmps = true)
    (hsz : 0 < sz)
    (hv : avc (AFun P J) (XFun P) ac (fun ex s => match ex with | .normal | .ret => (∃ i n, s.get t0 = .ow sz i n ∧ s.ob i = some { e, sz, cs, mu := true, isv := false } ∧ (ts.all fun t => (frz s.ob (s.get t)).all fun q => q.1 != i) = true) ∧ retN s ts rs | .exit _ => False) (initS args)) : AFun P J f args (.to e sz cs rs) := by
  have hn : args.length ≤ fn.ntmps := Nat.le_of_ble_eq_true hn'
  refine ⟨hsz, ?_⟩
  intro w H vs hJ hT hH hreps
  refine calls_of_wp hf hb ?_
  have hlen : vs.length = args.length := hreps.1
  have hsize : (vs.toArray ++ Array.replicate (fn.ntmps - vs.toArray.size) undef).size = fn.ntmps := by simp; omega
  have hconc : Conc w ⟨H, fun _ => False, []⟩ w H (fun _ => none) fn.ntmps { tmps := vs.toArray ++ Array.replicate (fn.ntmps - vs.toArray.size) undef, defers := [] } (initS args) := by
    refine ⟨⟨BelE.refl _ _, hT, hH, fun b hb _ => .inl hb, fun id o h => (by cases h), fun i j oi oj vi vj b hij h => (by cases h)⟩, hsize, rfl, fun _ _ h => (by cases h), fun t => ?_, fun _ _ => rfl⟩
    show Rep w H (fun _ => none) _ (lk (initE 0 args) t)
    rw [initE_get]
    simp only [Nat.zero_le, if_true, Nat.sub_zero]
    by_cases ht : t < args.length
    · have htv : t < vs.length := by omega
      have := hreps.2 t vs[t] args[t] (List.getElem?_eq_getElem htv) (List.getElem?_eq_getElem ht)
      simp only [Array.getD_eq_getD_getElem?, List.getD, List.getElem?_eq_getElem ht, Option.getD_some]
      rw [Array.getElem?_append_left (by simpa using htv)]
      simp only [List.getElem?_toArray, List.getElem?_eq_getElem htv, Option.getD_some]
      exact .up this
    · have : args.getD t V.any = .any := by simp [List.getD, List.getElem?_eq_none (Nat.le_of_not_lt ht)]
      rw [this]; exact .any _
  have last : ∀ (s' : St) (H' : Nat → Prop) (ov' : Nat → Option Value) (a' : Act) (w' : World), ((∃ i n, s'.get t0 = .ow sz i n ∧ s'.ob i = some { e, sz, cs, mu := true, isv := false } ∧ (ts.all fun t => (frz s'.ob (s'.get t)).all fun q => q.1 != i) = true) ∧ retN s' ts rs) → Conc w ⟨H, fun _ => False, []⟩ w' H' ov' fn.ntmps a' s' →
      a'.defers = [] ∧ ∃ r, (results fn a'.tmps).run P w' = .ok r w' ∧ ∃ (u : Value) (us : List Value) (n : Nat) (xs : List Value) (N : Nat → Prop), Ending.returned r = .returned (.tuple (u :: us).toArray) ∧ Below w.heap.size w w' ∧ w'.ownsRow w.heap.size e sz u n xs ∧ (∀ b, N b → w.heap.size ≤ b ∧ b < w'.heap.size) ∧ (∀ b, blk u = some b → ¬ N b) ∧
        RepAll w' (fun b => H b ∨ N b) xs cs ∧ (∀ x, x ∈ cs → x.cell = true) ∧ n ≤ maxLen ∧ RepAll w' (fun b => H b ∨ N b) us rs := by
    rintro s' H' ov' a' w' ⟨⟨i, n, h1, h2, h4⟩, h3⟩ hc'
    have hr := hc'.env t0
    rw [h1] at hr
    obtain ⟨ba, cap, e1, ho, _⟩ := hr.inv_ow
    obtain ⟨u, hu, hor⟩ := hc'.mem.obj i _ h2
    rw [ho] at hu; cases hu
    obtain ⟨hl, up, hup, hkey, hreps⟩ := retN_repK hc' ts rs h3
    obtain ⟨H1, hext, hm1, hfr, hfr5⟩ := hc'.mem.freeze hup
    rcases hor.bd with ⟨h', _⟩ | ⟨_, _, n', xs', hown', hra', hnm'⟩
    · cases h'
    · have hin : ∀ b, H1 b → H b ∨ (H1 b ∧ w.heap.size ≤ b) := fun b hb => by
        rcases Nat.lt_or_ge b w.heap.size with h | h
        · exact .inl ((hm1.low b hb h).resolve_right (fun h => h))
        · exact .inr ⟨hb, h⟩
      refine ⟨hc'.dfr, _, resSlots_run hts _ _, a'.tmps.getD t0 undef, ts.map fun t => a'.tmps.getD t undef, n', xs', fun b => H1 b ∧ w.heap.size ≤ b, ?_, hc'.mem.bel.below (fun _ h => h), ownB hown' (fun b hb => (hor.ow b hb).resolve_right (fun h => h)), fun b hb => ⟨hb.2, hm1.Hlt b hb.1⟩, fun b hb hN => ?_, hra'.mono (fun b hb => hin b (hext.hH b hb)) (fun _ _ => rfl), hor.cl (rfo_row rfl), hnm', ⟨by simpa using hl, fun j v x h5 h6 => ?_⟩⟩
      · match ts, hts1 with
        | t1 :: ts', _ => rfl
      · rcases hfr5 b hN.1 with h5 | ⟨k, x, u2, h5, h6, h7⟩
        · have := (hor.fz b hb).1 h5; cases this
        · have hki : k ≠ i := fun e => by
            obtain ⟨t, ht, hkt⟩ := hkey k x h5
            have := List.all_eq_true.1 (List.all_eq_true.1 h4 t ht) _ hkt
            simp [e] at this
          obtain ⟨ok, hok, _⟩ := hup k x h5
          exact hc'.mem.sep i k _ ok _ u2 b hki.symm h2 hok ho h6 hb h7
      · simp only [List.getElem?_map, Option.map_eq_some_iff] at h5
        obtain ⟨q, hq, rfl⟩ := h5
        exact (hreps H1 hext.hH hfr j q x hq h6).mono hin (fun _ _ => rfl)
  refine wp_mono (avc_sound (J := J) (H0 := ⟨H, fun _ => False, []⟩) hfol (fun w' hb => hJs w _ w' hJ hb) c ac hc (fun _ _ h => by cases h) _ _ _ w H (fun _ => none) hconc hv) fun ex a' w' hq => ?_
  cases ex with
  | normal => obtain ⟨s', H', ov', hr, hc'⟩ := hq; exact last s' H' ov' a' w' hr hc'
  | ret => obtain ⟨s', H', ov', hr, hc'⟩ := hq; exact last s' H' ov' a' w' hr hc'
  | exit i => obtain ⟨s', H', ov', hr, _⟩ := hq; exact hr.elim
  | goto l => exact hq.elim
  | panic ch => exact hq.elim
  | outgrown => exact hq.elim
end
end Go.Proofs.Ytdaedplbhpiacaa.Ab
namespace Go.Proofs.Ytdaedplbhpiacaa.Ab
set_option linter.unusedSimpArgs false
set_option linter.unusedVariables false
open Go Go.RowKit
inductive Fr where
  | c (c : AC)
  | b (id : Nat)
section
variable (F G : Nat → List V → V → Prop)
def vm : List Fr → (Ex → St → Prop) → St → Prop
  | [], Q, s => Q .normal s
  | .b _ :: k, Q, s => vm k Q s
  | .c c :: k, Q, s => avc F G c (fun e s' => match e with
      | .normal => vm k Q s'
      | .exit i => vmx i k Q s'
      | .ret => Q .ret s') s
where vmx (i : Nat) : List Fr → (Ex → St → Prop) → St → Prop
  | [], Q, s => Q (.exit i) s
  | .b j :: k, Q, s => if i = j then vm k Q s else vmx i k Q s
  | .c _ :: k, Q, s => vmx i k Q s
def rg (dr : Bool) (l : List AO) (s : St) (K : St → Prop) : Prop := match dr with | true => rgd F G l s K | false => rgv F G l s K
def fin (dr m : Bool) (d : Option Nat) (v : V) (up : List (Nat × Option Ob)) (r : List AO) (s : St) (K : St → Prop) : Prop :=
  match dr with
  | true => chk (v.refLe s.nx = true ∧ (m || up.all (fun p => p.1 == s.nx)) = true) (rgd F G r (s.aft d v up) K)
  | false => rgv F G r (s.aft d v up) K
def go (dr m : Bool) (op : AOp) (d : Option Nat) (r : List AO) (s : St) (K : St → Prop) : Prop := ev F G s.val s.ob s.nx (fun v up => fin F G dr m d v up r s K) op
def gdo (dr : Bool) (v : V) (want : Bool) (op : AOp) (d : Option Nat) (r : List AO) (s : St) (K : St → Prop) : Prop :=
  match want with
  | true => (match v with | .b x => cnd (.b x) (rg F G dr (⟨d, none, op⟩ :: r) s K) (rg F G dr r (s.aft d .un []) K) | .un => rg F G dr r (s.aft d .un []) K | _ => False)
  | false => (match v with | .b x => cnd (.b x) (rg F G dr r (s.aft d .un []) K) (rg F G dr (⟨d, none, op⟩ :: r) s K) | .un => rg F G dr r (s.aft d .un []) K | _ => False)
def ldp (dr m : Bool) (ob : Option Ob) (ag : Bool) (n k : Nat) (d : Option Nat) (r : List AO) (s : St) (K : St → Prop) : Prop :=
  match ob with
  | some o => if ag then chk (k + n ≤ o.cs.length ∧ rfo o = false) (fin F G dr m d (.g ((o.cs.drop k).take n)) [] r s K) else chk (k < o.cs.length) (fin F G dr m d (o.cs.getD k .un) [] r s K)
  | none => False
def stkp (dr m : Bool) (ob : Option Ob) (j k : Nat) (v : V) (d : Option Nat) (r : List AO) (s : St) (K : St → Prop) : Prop :=
  match ob with
  | some o => chk (rfo o = true ∧ isRef v = true ∧ o.mu = true ∧ k + 1 ≤ o.cs.length) (fin F G dr m d .un [(j, some { o with cs := setAt o.cs k [v] })] r s K)
  | none => False
def stp (dr m : Bool) (ob : Option Ob) (n j k : Nat) (v : V) (d : Option Nat) (r : List AO) (s : St) (K : St → Prop) : Prop :=
  match ob with
  | some o => chk (okR s.ob v ∧ o.mu = true ∧ (frz s.ob v).all (fun q => q.1 != j) = true ∧ (rd s.ob 1 v).cells.length = n ∧ k + n ≤ o.cs.length ∧ (rd s.ob 1 v).cells.all V.cell = true)
      (fin F G dr m d .un ((j, some { o with cs := setAt o.cs k (rd s.ob 1 v).cells }) :: frz s.ob v) r s K)
  | none => False
def bldp (dr m : Bool) (ob : Nat → Option Ob) (zero : List V) (ps : List (Nat × Nat × V)) (d : Option Nat) (r : List AO) (s : St) (K : St → Prop) : Prop :=
  chk (okRs ob (ps.map fun p => p.2.2) ∧ fitAll zero.length (ps.map fun p => (p.1, (rd ob 1 p.2.2).cells)) = true ∧ (ps.all fun p => (rd ob 1 p.2.2).cells.length == p.2.1) = true)
    (fin F G dr m d (.g (setAll zero (ps.map fun p => (p.1, (rd ob 1 p.2.2).cells)))) (ps.flatMap fun p => frz ob p.2.2) r s K)
def bslp (dr m : Bool) (ob : Nat → Option Ob) (e sz n : Nat) (zero : List V) (ps : List (Nat × V)) (d : Option Nat) (r : List AO) (s : St) (K : St → Prop) : Prop :=
  chk (okRs ob (ps.map fun p => p.2) ∧ fitAll zero.length (ps.map fun p => (p.1 * sz, (rd ob 1 p.2).cells)) = true ∧ (ps.all fun p => (rd ob 1 p.2).cells.length == sz) = true)
    (fin F G dr m d (.ow sz s.nx n) ((s.nx, some { e, sz, cs := setAll zero (ps.map fun p => (p.1 * sz, (rd ob 1 p.2).cells)), mu := true, isv := false }) :: ps.flatMap fun p => frz ob p.2) r s K)
def appq (dr m : Bool) (ob : Option Ob) (e sz bytes j n : Nat) (u : V) (s' : Nat) (xs : List V) (s1 : Nat) (d : Option Nat) (r : List AO) (s : St) (K : St → Prop) : Prop :=
  match ob with
  | some o => chk (okR s.ob u ∧ s1 = sz ∧ s' = sz ∧ o.e = e ∧ o.sz = sz ∧ o.mu = true ∧ o.isv = false ∧ xs.all V.cell = true ∧ (n + xs.length / sz) * bytes ≤ 70368744177664 ∧ n + xs.length / sz ≤ 1099511627776)
      (fin F G dr m d (.ow sz s.nx (n + xs.length / sz)) [(j, none), (s.nx, some { o with cs := o.cs ++ xs })] r s K)
  | none => False
def appp (dr m : Bool) (ob : Nat → Option Ob) (e sz bytes : Nat) (v u ru : V) (d : Option Nat) (r : List AO) (s : St) (K : St → Prop) : Prop :=
  match v, ru with
  | .nl, .l s' xs => chk (okR s.ob u ∧ s' = sz ∧ xs.all V.cell = true ∧ xs.length / sz * bytes ≤ 70368744177664 ∧ xs.length / sz ≤ 1099511627776)
      (fin F G dr m d (.ow sz s.nx (xs.length / sz)) [(s.nx, some { e, sz, cs := xs, mu := true, isv := false })] r s K)
  | .ow s1 j n, .l s' xs => appq F G dr m (ob j) e sz bytes j n u s' xs s1 d r s K
  | _, _ => False
def apsq (dr m : Bool) (ob : Option Ob) (e j n : Nat) (l : List UInt8) (s1 : Nat) (d : Option Nat) (r : List AO) (s : St) (K : St → Prop) : Prop :=
  match ob with
  | some o => chk (s1 = 1 ∧ o.e = e ∧ o.sz = 1 ∧ o.mu = true ∧ o.isv = false ∧ n + l.length ≤ 1099511627776)
      (fin F G dr m d (.ow 1 s.nx (n + l.length)) [(j, none), (s.nx, some { o with cs := o.cs ++ Bt l })] r s K)
  | none => False
def clr (dr m : Bool) (args : List (Nat × V)) (res : V) (d : Option Nat) (r : List AO) (s : St) (K : St → Prop) : Prop :=
  match res with
  | .o e sz cs => chk (0 < sz) (fin F G dr m d (.ow sz s.nx (cs.length / sz)) ((s.nx, some { e, sz, cs, mu := true, isv := false }) :: if res.hasL then args.flatMap fun p => frz s.ob p.2 else []) r s K)
  | .fr res => fin F G dr m d res [] r s K
  | .to e sz cs rs => fin F G dr m d (.tw sz s.nx (cs.length / sz) rs) ((s.nx, some { e, sz, cs, mu := true, isv := false }) :: if (V.o e sz cs).hasL || (V.t rs).hasL then args.flatMap fun p => frz s.ob p.2 else []) r s K
  | .mu _ _ => False
  | res => fin F G dr m d res (if res.hasL then args.flatMap fun p => frz s.ob p.2 else []) r s K
def mcq (dr m : Bool) (ob : Option Ob) (f k j : Nat) (args : List (Nat × V)) (d : Option Nat) (r : List AO) (s : St) (K : St → Prop) : Prop :=
  match ob with
  | some o =>
    chk (okRs s.ob (args.map fun p => p.2) ∧ (args.all fun p => (rd s.ob p.1 p.2).okArg) = true ∧ o.mu = true ∧ o.isv = false ∧ ((args.eraseIdx k).all fun p => (frz s.ob p.2).all fun q => q.1 != j) = true) <|
    ∃ res cs', F f ((args.map fun p => rd s.ob p.1 p.2).set k (.o o.e o.sz o.cs)) (.mu res cs') ∧ res.hasL = false ∧ fin F G dr m d res ((j, some { o with cs := cs' }) :: (args.eraseIdx k).flatMap fun p => frz s.ob p.2) r s K
  | none => False
def mcp (dr m : Bool) (f k : Nat) (v : Option V) (args : List (Nat × V)) (d : Option Nat) (r : List AO) (s : St) (K : St → Prop) : Prop :=
  match v with
  | some (.ow _ j _) => mcq F G dr m (s.ob j) f k j args d r s K
  | _ => False
def ocr (dr m : Bool) (f j e sz : Nat) (cs : List V) (d : Option Nat) (r : List AO) (s : St) (K : St → Prop) : Prop :=
  ∃ cs', F f [.o e sz cs] (.mu (.sl e sz 0 0) cs') ∧ fin F G dr m d (.ow sz s.nx (cs'.length / sz)) [(j, none), (s.nx, some { e, sz, cs := cs', mu := true, isv := false })] r s K
def ocp (dr m : Bool) (ob : Option Ob) (f j : Nat) (d : Option Nat) (r : List AO) (s : St) (K : St → Prop) : Prop :=
  match ob with
  | some o => chk (o.mu = true ∧ o.isv = false) (∃ cs', F f [.o o.e o.sz o.cs] (.mu (.sl o.e o.sz 0 0) cs') ∧ fin F G dr m d (.ow o.sz s.nx (cs'.length / o.sz)) [(j, none), (s.nx, some { o with cs := cs' })] r s K)
  | none => False
def clop (dr m : Bool) (ob : Option Ob) (f j k : Nat) (d : Option Nat) (r : List AO) (s : St) (K : St → Prop) : Prop :=
  match ob with
  | some o => chk (k = 0 ∧ o.isv = true ∧ rfo o = false) (fin F G dr m d (.fc f o.cs) [(j, some { o with mu := false })] r s K)
  | none => False
def clp (dr m : Bool) (f : Nat) (args : List (Nat × V)) (d : Option Nat) (r : List AO) (s : St) (K : St → Prop) : Prop :=
  chk (okRs s.ob (args.map fun p => p.2) ∧ (args.all fun p => (rd s.ob p.1 p.2).okArg) = true) (∃ n res, F f (args.map fun p => rdb n s.ob p.1 p.2) res ∧ clr F G dr m args res d r s K)
def isp (dr m : Bool) (neg : Bool) (e : Prop) (d : Option Nat) (r : List AO) (s : St) (K : St → Prop) : Prop :=
  ∀ t : Bool, (t = true → e) → fin F G dr m d (.b (t != neg)) [] r s K
def bxp (dr m : Bool) (ob : Nat → Option Ob) (e : Nat) (v : V) (cs : List V) (d : Option Nat) (r : List AO) (s : St) (K : St → Prop) : Prop :=
  chk (okR ob v ∧ cs.all V.cell = true) (fin F G dr m d (.pt s.nx 0) ((s.nx, some { e, sz := cs.length, cs := cs, mu := true, isv := true }) :: frz ob v) r s K)
def purq (dr m : Bool) (res : Option V) (d : Option Nat) (r : List AO) (s : St) (K : St → Prop) : Prop :=
  match res with | some v => fin F G dr m d v [] r s K | none => False
def purp (dr m : Bool) (p : PO) (vs : List V) (us : List V) (d : Option Nat) (r : List AO) (s : St) (K : St → Prop) : Prop :=
  chk (okRs s.ob vs) (purq F G dr m (pureV p us) d r s K)
def cpyq (dr m : Bool) (ob : Option Ob) (sz j off n : Nat) (u : V) (s' : Nat) (xs : List V) (s1 : Nat) (d : Option Nat) (r : List AO) (s : St) (K : St → Prop) : Prop :=
  match ob with
  | some o => chk (okR s.ob u ∧ s1 = sz ∧ s' = sz ∧ o.mu = true ∧ off + n * sz ≤ o.cs.length ∧ xs.all V.cell = true)
      (fin F G dr m d (.i .i64 ((min (xs.length / sz) n : Nat) : Int)) [(j, some { o with cs := setAt o.cs off (xs.take (n * sz)) })] r s K)
  | none => False
def cpyp (dr m : Bool) (ob : Nat → Option Ob) (sz : Nat) (v u ru : V) (d : Option Nat) (r : List AO) (s : St) (K : St → Prop) : Prop :=
  match v, ru with
  | .sl s1 j off n, .l s' xs => cpyq F G dr m (ob j) sz j off n u s' xs s1 d r s K
  | _, _ => False
def xlp (dr m : Bool) (f : Nat) (args : List V) (d : Option Nat) (r : List AO) (s : St) (K : St → Prop) : Prop :=
  ∃ res, G f args res ∧ fin F G dr m d res [] r s K
end
def AOp.sb (s : St) : AOp → AOp
  | .mv x => .mv (.k (s.val x))
  | .pick c a b => .pick (.k (s.val c)) (.k (s.val a)) (.k (s.val b))
  | .bin op x y => .bin op (.k (s.val x)) (.k (s.val y))
  | .eqb n x y => .eqb n (.k (s.val x)) (.k (s.val y))
  | .un op x => .un op (.k (s.val x))
  | .cvt k x => .cvt k (.k (s.val x))
  | .six x y => .six (.k (s.val x)) (.k (s.val y))
  | .idx n x y => .idx n (.k (s.val x)) (.k (s.val y))
  | .ld a n x => .ld a n (.k (s.val x))
  | .st n x y => .st n (.k (s.val x)) (.k (s.val y))
  | .stk x y => .stk (.k (s.val x)) (.k (s.val y))
  | .fad n x => .fad n (.k (s.val x))
  | .fld a n k x => .fld a n k (.k (s.val x))
  | .mk e sz b z x y => .mk e sz b z (.k (s.val x)) (.k (s.val y))
  | .sub n x lo hi => .sub n (.k (s.val x)) (lo.map fun x => .k (s.val x)) (hi.map fun x => .k (s.val x))
  | .ssub x lo hi => .ssub (.k (s.val x)) (lo.map fun x => .k (s.val x)) (hi.map fun x => .k (s.val x))
  | .len x => .len (.k (s.val x))
  | .slen x => .slen (.k (s.val x))
  | .app e sz b x y => .app e sz b (.k (s.val x)) (.k (s.val y))
  | .ext x i => .ext (.k (s.val x)) i
  | .nc x => .nc (.k (s.val x))
  | .mm m x y => .mm m (.k (s.val x)) (.k (s.val y))
  | .isn n x => .isn n (.k (s.val x))
  | .bld z ps => .bld z ps
  | .bsl e sz n z ps => .bsl e sz n z ps
  | .al e z => .al e z
  | .call f args => .call f args
  | .xcall f args => .xcall f args
  | .bx e x => .bx e (.k (s.val x))
  | .pur p xs => .pur p xs
  | .cpy sz x y => .cpy sz (.k (s.val x)) (.k (s.val y))
  | .aix n sz x y => .aix n sz (.k (s.val x)) (.k (s.val y))
  | .mcall f m args => .mcall f m args
  | .dcall x args => .dcall (.k (s.val x)) args
  | .apps e x y => .apps e (.k (s.val x)) (.k (s.val y))
  | .ocall f x => .ocall f (.k (s.val x))
  | .clo f x => .clo f (.k (s.val x))
  | .asl n sz x lo hi => .asl n sz (.k (s.val x)) (lo.map fun x => .k (s.val x)) (hi.map fun x => .k (s.val x))
  | .bad => .bad
section
variable {F G : Nat → List V → V → Prop} {dr m : Bool} {d : Option Nat} {r : List AO} {s : St} {K : St → Prop}
theorem ev_sb {ob : Nat → Option Ob} {id : Nat} {K : V → List (Nat × Option Ob) → Prop} (op : AOp) : ev F G s.val ob id K (op.sb s) = ev F G s.val ob id K op := by
  cases op <;> first | rfl | skip
  all_goals
    simp only [AOp.sb, ev, Option.map_map]
    rfl
theorem rg_nil : rg F G dr [] s K = K s := by cases dr <;> rfl
theorem rg_cons {op : AOp} : rg F G dr (⟨d, none, op⟩ :: r) s K = go F G dr op.mut (op.sb s) d r s K := by
  cases dr
  · show rgv F G _ s K = _
    unfold go
    rw [ev_sb]; rfl
  · show rgd F G _ s K = _
    unfold go
    rw [ev_sb]; rfl
theorem rg_consg {op : AOp} {t : Nat} {want : Bool} : rg F G dr (⟨d, some (t, want), op⟩ :: r) s K = gdo F G dr (s.get t) want op d r s K := by
  cases dr <;> cases want <;> (simp only [rg, rgv, rgd, gv, gdo]; rfl)
theorem gdo_tt {op : AOp} : gdo F G dr (.b true) true op d r s K = rg F G dr (⟨d, none, op⟩ :: r) s K := cnd_true
theorem gdo_ft {op : AOp} : gdo F G dr (.b false) true op d r s K = rg F G dr r (s.aft d .un []) K := cnd_false
theorem gdo_tf {op : AOp} : gdo F G dr (.b true) false op d r s K = rg F G dr r (s.aft d .un []) K := cnd_true
theorem gdo_ff {op : AOp} : gdo F G dr (.b false) false op d r s K = rg F G dr (⟨d, none, op⟩ :: r) s K := cnd_false
theorem gdo_un {op : AOp} {want : Bool} : gdo F G dr .un want op d r s K = rg F G dr r (s.aft d .un []) K := by cases want <;> rfl
theorem fin_f {v : V} {up : List (Nat × Option Ob)} : fin F G false m d v up r s K = rg F G false r (s.aft d v up) K := rfl
theorem fin_t {v : V} {up : List (Nat × Option Ob)} : fin F G true m d v up r s K = chk (v.refLe s.nx = true ∧ (m || up.all (fun p => p.1 == s.nx)) = true) (rg F G true r (s.aft d v up) K) := rfl
theorem ldp_f {o : Ob} {n k : Nat} : ldp F G dr m (some o) false n k d r s K = chk (k < o.cs.length) (fin F G dr m d (o.cs.getD k .un) [] r s K) := rfl
theorem ldp_t {o : Ob} {n k : Nat} : ldp F G dr m (some o) true n k d r s K = chk (k + n ≤ o.cs.length ∧ rfo o = false) (fin F G dr m d (.g ((o.cs.drop k).take n)) [] r s K) := rfl
theorem stkp_s {o : Ob} {j k : Nat} {v : V} : stkp F G dr m (some o) j k v d r s K = chk (rfo o = true ∧ isRef v = true ∧ o.mu = true ∧ k + 1 ≤ o.cs.length) (fin F G dr m d .un [(j, some { o with cs := setAt o.cs k [v] })] r s K) := rfl
theorem isRef_ow {z i n : Nat} : isRef (.ow z i n) = true := rfl
theorem isRef_nl : isRef .nl = true := rfl
theorem stp_s {o : Ob} {n j k : Nat} {v : V} : stp F G dr m (some o) n j k v d r s K = chk (okR s.ob v ∧ o.mu = true ∧ (frz s.ob v).all (fun q => q.1 != j) = true ∧ (rd s.ob 1 v).cells.length = n ∧ k + n ≤ o.cs.length ∧ (rd s.ob 1 v).cells.all V.cell = true)
      (fin F G dr m d .un ((j, some { o with cs := setAt o.cs k (rd s.ob 1 v).cells }) :: frz s.ob v) r s K) := rfl
theorem appq_s {o : Ob} {e sz bytes j n : Nat} {u : V} {s' : Nat} {xs : List V} {s1 : Nat} : appq F G dr m (some o) e sz bytes j n u s' xs s1 d r s K = chk (okR s.ob u ∧ s1 = sz ∧ s' = sz ∧ o.e = e ∧ o.sz = sz ∧ o.mu = true ∧ o.isv = false ∧ xs.all V.cell = true ∧ (n + xs.length / sz) * bytes ≤ 70368744177664 ∧ n + xs.length / sz ≤ 1099511627776)
      (fin F G dr m d (.ow sz s.nx (n + xs.length / sz)) [(j, none), (s.nx, some { o with cs := o.cs ++ xs })] r s K) := rfl
theorem cpyq_s {o : Ob} {sz j off n : Nat} {u : V} {s' : Nat} {xs : List V} {s1 : Nat} : cpyq F G dr m (some o) sz j off n u s' xs s1 d r s K = chk (okR s.ob u ∧ s1 = sz ∧ s' = sz ∧ o.mu = true ∧ off + n * sz ≤ o.cs.length ∧ xs.all V.cell = true)
      (fin F G dr m d (.i .i64 ((min (xs.length / sz) n : Nat) : Int)) [(j, some { o with cs := setAt o.cs off (xs.take (n * sz)) })] r s K) := rfl
theorem cpyp_sl {ob : Nat → Option Ob} {sz j off n : Nat} {u : V} {s' : Nat} {xs : List V} {s1 : Nat} : cpyp F G dr m ob sz (.sl s1 j off n) u (.l s' xs) d r s K = cpyq F G dr m (ob j) sz j off n u s' xs s1 d r s K := rfl
theorem appp_nl {ob : Nat → Option Ob} {e sz bytes : Nat} {u : V} {s' : Nat} {xs : List V} : appp F G dr m ob e sz bytes .nl u (.l s' xs) d r s K = chk (okR s.ob u ∧ s' = sz ∧ xs.all V.cell = true ∧ xs.length / sz * bytes ≤ 70368744177664 ∧ xs.length / sz ≤ 1099511627776)
      (fin F G dr m d (.ow sz s.nx (xs.length / sz)) [(s.nx, some { e, sz, cs := xs, mu := true, isv := false })] r s K) := rfl
theorem appp_ow {ob : Nat → Option Ob} {e sz bytes j n : Nat} {u : V} {s' : Nat} {xs : List V} {s1 : Nat} : appp F G dr m ob e sz bytes (.ow s1 j n) u (.l s' xs) d r s K = appq F G dr m (ob j) e sz bytes j n u s' xs s1 d r s K := rfl
theorem go_mv {v : V} : go F G dr m (.mv (.k v)) d r s K = fin F G dr m d v [] r s K := rfl
theorem go_pick_t {v u : V} : go F G dr m (.pick (.k (.b true)) (.k v) (.k u)) d r s K = fin F G dr m d v [] r s K := cnd_true
theorem go_pick_f {v u : V} : go F G dr m (.pick (.k (.b false)) (.k v) (.k u)) d r s K = fin F G dr m d u [] r s K := cnd_false
theorem go_bin_add {k k' : IntKind} {a b : Int} : go F G dr m (.bin .add (.k (.i k a)) (.k (.i k' b))) d r s K = chk (k = k') (fin F G dr m d (.i k (k.wrap (a + b))) [] r s K) := rfl
theorem go_bin_sub {k k' : IntKind} {a b : Int} : go F G dr m (.bin .sub (.k (.i k a)) (.k (.i k' b))) d r s K = chk (k = k') (fin F G dr m d (.i k (k.wrap (a - b))) [] r s K) := rfl
theorem go_bin_mul {k k' : IntKind} {a b : Int} : go F G dr m (.bin .mul (.k (.i k a)) (.k (.i k' b))) d r s K = chk (k = k') (fin F G dr m d (.i k (k.wrap (a * b))) [] r s K) := rfl
theorem go_bin_and {k k' : IntKind} {a b : Int} : go F G dr m (.bin .and (.k (.i k a)) (.k (.i k' b))) d r s K = chk (k = k') (fin F G dr m d (.i k (bits .and k a b)) [] r s K) := rfl
theorem go_bin_or {k k' : IntKind} {a b : Int} : go F G dr m (.bin .or (.k (.i k a)) (.k (.i k' b))) d r s K = chk (k = k') (fin F G dr m d (.i k (bits .or k a b)) [] r s K) := rfl
theorem go_bin_xor {k k' : IntKind} {a b : Int} : go F G dr m (.bin .xor (.k (.i k a)) (.k (.i k' b))) d r s K = chk (k = k') (fin F G dr m d (.i k (bits .xor k a b)) [] r s K) := rfl
theorem go_bin_andNot {k k' : IntKind} {a b : Int} : go F G dr m (.bin .andNot (.k (.i k a)) (.k (.i k' b))) d r s K = chk (k = k') (fin F G dr m d (.i k (bits .andNot k a b)) [] r s K) := rfl
theorem go_bin_eql {k k' : IntKind} {a b : Int} : go F G dr m (.bin .eql (.k (.i k a)) (.k (.i k' b))) d r s K = chk (k = k') (fin F G dr m d (.b (decide (a = b))) [] r s K) := rfl
theorem go_bin_neq {k k' : IntKind} {a b : Int} : go F G dr m (.bin .neq (.k (.i k a)) (.k (.i k' b))) d r s K = chk (k = k') (fin F G dr m d (.b (decide (¬ a = b))) [] r s K) := rfl
theorem go_bin_lss {k k' : IntKind} {a b : Int} : go F G dr m (.bin .lss (.k (.i k a)) (.k (.i k' b))) d r s K = chk (k = k') (fin F G dr m d (.b (decide (a < b))) [] r s K) := rfl
theorem go_bin_leq {k k' : IntKind} {a b : Int} : go F G dr m (.bin .leq (.k (.i k a)) (.k (.i k' b))) d r s K = chk (k = k') (fin F G dr m d (.b (decide (a ≤ b))) [] r s K) := rfl
theorem go_bin_gtr {k k' : IntKind} {a b : Int} : go F G dr m (.bin .gtr (.k (.i k a)) (.k (.i k' b))) d r s K = chk (k = k') (fin F G dr m d (.b (decide (b < a))) [] r s K) := rfl
theorem go_bin_geq {k k' : IntKind} {a b : Int} : go F G dr m (.bin .geq (.k (.i k a)) (.k (.i k' b))) d r s K = chk (k = k') (fin F G dr m d (.b (decide (b ≤ a))) [] r s K) := rfl
theorem go_bin_quo {k k' : IntKind} {a b : Int} : go F G dr m (.bin .quo (.k (.i k a)) (.k (.i k' b))) d r s K = chk (k = k' ∧ b ≠ 0) (fin F G dr m d (.i k (k.wrap (a.tdiv b))) [] r s K) := rfl
theorem go_bin_rem {k k' : IntKind} {a b : Int} : go F G dr m (.bin .rem (.k (.i k a)) (.k (.i k' b))) d r s K = chk (k = k' ∧ b ≠ 0) (fin F G dr m d (.i k (a.tmod b)) [] r s K) := rfl
theorem go_bin_shl {k k' : IntKind} {a b : Int} : go F G dr m (.bin .shl (.k (.i k a)) (.k (.i k' b))) d r s K = chk (0 ≤ b) (fin F G dr m d (.i k (k.wrap (a * 2 ^ (min b.toNat k.bits)))) [] r s K) := rfl
theorem go_bin_shr {k k' : IntKind} {a b : Int} : go F G dr m (.bin .shr (.k (.i k a)) (.k (.i k' b))) d r s K = chk (0 ≤ b) (fin F G dr m d (.i k (a.fdiv (2 ^ (min b.toNat k.bits)))) [] r s K) := rfl
theorem go_str_add {a b : List UInt8} : go F G dr m (.bin .add (.k (.s a)) (.k (.s b))) d r s K = chk (a.length + b.length ≤ 9223372036854775807) (fin F G dr m d (.s (a ++ b)) [] r s K) := rfl
theorem go_str_eql {a b : List UInt8} : go F G dr m (.bin .eql (.k (.s a)) (.k (.s b))) d r s K = fin F G dr m d (.b (a == b)) [] r s K := rfl
theorem go_str_neq {a b : List UInt8} : go F G dr m (.bin .neq (.k (.s a)) (.k (.s b))) d r s K = fin F G dr m d (.b (!(a == b))) [] r s K := rfl
theorem go_eqb {neg x y : Bool} : go F G dr m (.eqb neg (.k (.b x)) (.k (.b y))) d r s K = fin F G dr m d (.b (if neg then !(x == y) else x == y)) [] r s K := rfl
theorem go_un_not {x : Bool} : go F G dr m (.un .not (.k (.b x))) d r s K = fin F G dr m d (.b !x) [] r s K := rfl
theorem go_un_neg {k : IntKind} {a : Int} : go F G dr m (.un .neg (.k (.i k a))) d r s K = fin F G dr m d (.i k (k.wrap (0 - a))) [] r s K := rfl
theorem go_un_xor {k : IntKind} {a : Int} : go F G dr m (.un .xor (.k (.i k a))) d r s K = fin F G dr m d (.i k (bits .xor k (if k.signed then -1 else k.max) a)) [] r s K := rfl
theorem go_un_fneg {n : Int} : go F G dr m (.un .neg (.k (.f n))) d r s K = fin F G dr m d (.f (-n)) [] r s K := rfl
theorem go_cvt {k k' : IntKind} {a : Int} : go F G dr m (.cvt k (.k (.i k' a))) d r s K = fin F G dr m d (.i k (k.wrap a)) [] r s K := rfl
theorem go_six {l : List UInt8} {k : IntKind} {a : Int} : go F G dr m (.six (.k (.s l)) (.k (.i k a))) d r s K = chk (0 ≤ a ∧ a < l.length) (fin F G dr m d (.i .u8 (l.getD a.toNat 0).toNat) [] r s K) := rfl
theorem go_idx_l {sz z : Nat} {cs : List V} {k : IntKind} {a : Int} : go F G dr m (.idx sz (.k (.l z cs)) (.k (.i k a))) d r s K = chk (z = sz ∧ 0 ≤ a ∧ a.toNat * sz < cs.length) (fin F G dr m d (.ip cs (a.toNat * sz)) [] r s K) := rfl
theorem go_idx_ow {sz z j n : Nat} {k : IntKind} {a : Int} : go F G dr m (.idx sz (.k (.ow z j n)) (.k (.i k a))) d r s K = chk (z = sz ∧ 0 ≤ a ∧ a < n) (fin F G dr m d (.pt j (a.toNat * sz)) [] r s K) := rfl
theorem go_idx_sl {sz z j off n : Nat} {k : IntKind} {a : Int} : go F G dr m (.idx sz (.k (.sl z j off n)) (.k (.i k a))) d r s K = chk (z = sz ∧ 0 ≤ a ∧ a < n) (fin F G dr m d (.pt j (off + a.toNat * sz)) [] r s K) := rfl
theorem eraseIdx_map' {α β : Type} (g : α → β) : ∀ (l : List α) (k : Nat), (l.map g).eraseIdx k = (l.eraseIdx k).map g
  | [], k => rfl
  | x :: r, 0 => rfl
  | x :: r, k + 1 => by simp only [List.map_cons, List.eraseIdx_cons_succ, eraseIdx_map' g r k]
theorem go_mcall {f k : Nat} {args : List (Nat × X)} : go F G dr m (.mcall f k args) d r s K = mcp F G dr m f k ((args.map fun p => (p.1, s.val p.2))[k]?.map (·.2)) (args.map fun p => (p.1, s.val p.2)) d r s K := by
  have e : ((args.map fun p => (p.1, s.val p.2))[k]?.map (·.2)) = (args[k]?).map fun p => s.val p.2 := by
    rw [List.getElem?_map]; cases args[k]? <;> rfl
  have e2 : ((args.map fun p => (p.1, s.val p.2)).eraseIdx k) = (args.eraseIdx k).map fun p => (p.1, s.val p.2) := by rw [eraseIdx_map']
  rw [e]
  simp only [go, ev]
  cases (args[k]?).map fun p => s.val p.2 with
  | none => rfl
  | some v =>
    cases v <;> simp only [mcp]
    rename_i z j n
    cases hj : s.ob j with
    | none => rfl
    | some o =>
      simp only [mcq, e2, List.map_map, List.all_map, List.flatMap_map]; rfl
theorem go_aix_ip {n sz q : Nat} {cs : List V} {k : IntKind} {a : Int} : go F G dr m (.aix n sz (.k (.ip cs q)) (.k (.i k a))) d r s K = chk (0 ≤ a ∧ a < n) (fin F G dr m d (.ip cs (q + a.toNat * sz)) [] r s K) := rfl
theorem go_aix_pt {n sz q j : Nat} {k : IntKind} {a : Int} : go F G dr m (.aix n sz (.k (.pt j q)) (.k (.i k a))) d r s K = chk (0 ≤ a ∧ a < n) (fin F G dr m d (.pt j (q + a.toNat * sz)) [] r s K) := rfl
theorem go_asl0 {n sz q : Nat} {cs : List V} : go F G dr m (.asl n sz (.k (.ip cs q)) none none) d r s K = chk (q = 0 ∧ cs.length = n * sz) (fin F G dr m d (.l sz cs) [] r s K) := rfl
theorem go_asl1 {n sz q : Nat} {cs : List V} {k : IntKind} {a : Int} : go F G dr m (.asl n sz (.k (.ip cs q)) (some (.k (.i k a))) none) d r s K = chk (q = 0 ∧ cs.length = n * sz ∧ 0 ≤ a ∧ a ≤ n) (fin F G dr m d (.l sz (cs.drop (a.toNat * sz))) [] r s K) := rfl
theorem go_asl2 {n sz q : Nat} {cs : List V} {k : IntKind} {b : Int} : go F G dr m (.asl n sz (.k (.ip cs q)) none (some (.k (.i k b)))) d r s K = chk (q = 0 ∧ cs.length = n * sz ∧ 0 ≤ b ∧ b ≤ n) (fin F G dr m d (.l sz (cs.take (b.toNat * sz))) [] r s K) := rfl
theorem go_asl3 {n sz q : Nat} {cs : List V} {k k' : IntKind} {a b : Int} : go F G dr m (.asl n sz (.k (.ip cs q)) (some (.k (.i k a))) (some (.k (.i k' b)))) d r s K = chk (q = 0 ∧ cs.length = n * sz ∧ 0 ≤ a ∧ a ≤ b ∧ b ≤ n) (fin F G dr m d (.l sz ((cs.take (b.toNat * sz)).drop (a.toNat * sz))) [] r s K) := rfl
theorem go_ld_ip {n q : Nat} {cs : List V} : go F G dr m (.ld false n (.k (.ip cs q))) d r s K = chk (q < cs.length) (fin F G dr m d (cs.getD q .un) [] r s K) := rfl
theorem go_ldg_ip {n q : Nat} {cs : List V} : go F G dr m (.ld true n (.k (.ip cs q))) d r s K = chk (q + n ≤ cs.length) (fin F G dr m d (.g ((cs.drop q).take n)) [] r s K) := rfl
theorem go_ld_pt {ag : Bool} {n j q : Nat} : go F G dr m (.ld ag n (.k (.pt j q))) d r s K = ldp F G dr m (s.ob j) ag n q d r s K := rfl
theorem go_stk_pt {j q : Nat} {v : V} : go F G dr m (.stk (.k (.pt j q)) (.k v)) d r s K = stkp F G dr m (s.ob j) j q v d r s K := rfl
theorem go_st_pt {n j q : Nat} {v : V} : go F G dr m (.st n (.k (.pt j q)) (.k v)) d r s K = stp F G dr m (s.ob j) n j q v d r s K := rfl
theorem go_fad_pt {off j q : Nat} : go F G dr m (.fad off (.k (.pt j q))) d r s K = fin F G dr m d (.pt j (q + off)) [] r s K := rfl
theorem go_fad_ip {off q : Nat} {cs : List V} : go F G dr m (.fad off (.k (.ip cs q))) d r s K = fin F G dr m d (.ip cs (q + off)) [] r s K := rfl
theorem go_fld {off n : Nat} {cs : List V} : go F G dr m (.fld false off n (.k (.g cs))) d r s K = chk (off < cs.length) (fin F G dr m d (cs.getD off .un) [] r s K) := rfl
theorem go_fldg {off n : Nat} {cs : List V} : go F G dr m (.fld true off n (.k (.g cs))) d r s K = chk (off + n ≤ cs.length) (fin F G dr m d (.g ((cs.drop off).take n)) [] r s K) := rfl
theorem go_bld {zero : List V} {ps : List (Nat × Nat × X)} : go F G dr m (.bld zero ps) d r s K = bldp F G dr m s.ob zero (ps.map fun p => (p.1, p.2.1, s.val p.2.2)) d r s K := by
  simp only [go, ev, bldp, List.map_map, List.all_map, List.flatMap_map]; rfl
theorem go_bsl {e sz n : Nat} {zero : List V} {ps : List (Nat × X)} : go F G dr m (.bsl e sz n zero ps) d r s K = bslp F G dr m s.ob e sz n zero (ps.map fun p => (p.1, s.val p.2)) d r s K := by
  simp only [go, ev, bslp, List.map_map, List.all_map, List.flatMap_map]; rfl
theorem go_mk {e sz bytes : Nat} {zero : List V} {k k' : IntKind} {a b : Int} : go F G dr m (.mk e sz bytes zero (.k (.i k a)) (.k (.i k' b))) d r s K = chk (0 ≤ a ∧ a ≤ b ∧ b * bytes ≤ 281474976710656 ∧ b ≤ 1099511627776) (fin F G dr m d (.ow sz s.nx a.toNat) [(s.nx, some { e, sz, cs := (List.replicate a.toNat zero).flatten, mu := true, isv := false })] r s K) := rfl
theorem go_sub_l0 {z sz : Nat} {cs : List V} : go F G dr m (.sub sz (.k (.l z cs)) none none) d r s K = chk (z = sz) (fin F G dr m d (.l z cs) [] r s K) := rfl
theorem go_sub_l1 {z sz : Nat} {cs : List V} {k : IntKind} {a : Int} : go F G dr m (.sub sz (.k (.l z cs)) (some (.k (.i k a))) none) d r s K = chk (z = sz ∧ 0 ≤ a ∧ a.toNat * sz ≤ cs.length) (fin F G dr m d (.l z (cs.drop (a.toNat * sz))) [] r s K) := rfl
theorem go_sub_l2 {z sz : Nat} {cs : List V} {k' : IntKind} {b : Int} : go F G dr m (.sub sz (.k (.l z cs)) none (some (.k (.i k' b)))) d r s K = chk (z = sz ∧ 0 ≤ b ∧ b.toNat * sz ≤ cs.length) (fin F G dr m d (.l z (cs.take (b.toNat * sz))) [] r s K) := rfl
theorem go_sub_l3 {z sz : Nat} {cs : List V} {k k' : IntKind} {a b : Int} : go F G dr m (.sub sz (.k (.l z cs)) (some (.k (.i k a))) (some (.k (.i k' b)))) d r s K = chk (z = sz ∧ 0 ≤ a ∧ a ≤ b ∧ b.toNat * sz ≤ cs.length) (fin F G dr m d (.l z ((cs.take (b.toNat * sz)).drop (a.toNat * sz))) [] r s K) := rfl
theorem go_sub_ow0 {z j n sz : Nat} : go F G dr m (.sub sz (.k (.ow z j n)) none none) d r s K = chk (z = sz) (fin F G dr m d (.ow z j n) [] r s K) := rfl
theorem go_sub_ow1 {z j n sz : Nat} {k : IntKind} {a : Int} : go F G dr m (.sub sz (.k (.ow z j n)) (some (.k (.i k a))) none) d r s K = chk (z = sz ∧ 0 ≤ a ∧ a ≤ n) (fin F G dr m d (.sl z j (a.toNat * sz) (n - a.toNat)) [] r s K) := rfl
theorem go_sub_ow2 {z j n sz : Nat} {k' : IntKind} {b : Int} : go F G dr m (.sub sz (.k (.ow z j n)) none (some (.k (.i k' b)))) d r s K = chk (z = sz ∧ 0 ≤ b ∧ b ≤ n) (fin F G dr m d (.sl z j 0 b.toNat) [] r s K) := rfl
theorem go_sub_ow3 {z j n sz : Nat} {k k' : IntKind} {a b : Int} : go F G dr m (.sub sz (.k (.ow z j n)) (some (.k (.i k a))) (some (.k (.i k' b)))) d r s K = chk (z = sz ∧ 0 ≤ a ∧ a ≤ b ∧ b ≤ n) (fin F G dr m d (.sl z j (a.toNat * sz) (b.toNat - a.toNat)) [] r s K) := rfl
theorem go_sub_sl0 {z j off n sz : Nat} : go F G dr m (.sub sz (.k (.sl z j off n)) none none) d r s K = chk (z = sz) (fin F G dr m d (.sl z j off n) [] r s K) := rfl
theorem go_sub_sl1 {z j off n sz : Nat} {k : IntKind} {a : Int} : go F G dr m (.sub sz (.k (.sl z j off n)) (some (.k (.i k a))) none) d r s K = chk (z = sz ∧ 0 ≤ a ∧ a ≤ n) (fin F G dr m d (.sl z j (off + a.toNat * sz) (n - a.toNat)) [] r s K) := rfl
theorem go_sub_sl2 {z j off n sz : Nat} {k' : IntKind} {b : Int} : go F G dr m (.sub sz (.k (.sl z j off n)) none (some (.k (.i k' b)))) d r s K = chk (z = sz ∧ 0 ≤ b ∧ b ≤ n) (fin F G dr m d (.sl z j off b.toNat) [] r s K) := rfl
theorem go_sub_sl3 {z j off n sz : Nat} {k k' : IntKind} {a b : Int} : go F G dr m (.sub sz (.k (.sl z j off n)) (some (.k (.i k a))) (some (.k (.i k' b)))) d r s K = chk (z = sz ∧ 0 ≤ a ∧ a ≤ b ∧ b ≤ n) (fin F G dr m d (.sl z j (off + a.toNat * sz) (b.toNat - a.toNat)) [] r s K) := rfl
theorem go_sub_kn {ba : Option Addr} {n c z sz : Nat} {cs : List V} {k' : IntKind} {b : Int} : go F G dr m (.sub sz (.k (.kn (.slice ba n c) (.l z cs))) none (some (.k (.i k' b)))) d r s K = chk (z = sz ∧ 0 ≤ b ∧ b ≤ n ∧ 0 < c ∧ (∃ g, ba = some ⟨g, 0, none⟩)) (fin F G dr m d (.kn (.slice ba b.toNat c) (.l z (cs.take (b.toNat * sz)))) [] r s K) := rfl
theorem go_sub_nl0 {sz : Nat} : go F G dr m (.sub sz (.k (.nl)) none none) d r s K = fin F G dr m d .nl [] r s K := rfl
theorem go_sub_nl1 {sz : Nat} {k : IntKind} {a : Int} : go F G dr m (.sub sz (.k (.nl)) (some (.k (.i k a))) none) d r s K = chk (a = 0) (fin F G dr m d .nl [] r s K) := rfl
theorem go_sub_nl2 {sz : Nat} {k' : IntKind} {b : Int} : go F G dr m (.sub sz (.k (.nl)) none (some (.k (.i k' b)))) d r s K = chk (b = 0) (fin F G dr m d .nl [] r s K) := rfl
theorem go_sub_nl3 {sz : Nat} {k k' : IntKind} {a b : Int} : go F G dr m (.sub sz (.k (.nl)) (some (.k (.i k a))) (some (.k (.i k' b)))) d r s K = chk (a = 0 ∧ b = 0) (fin F G dr m d .nl [] r s K) := rfl
theorem go_ssub0 {l : List UInt8} : go F G dr m (.ssub (.k (.s l)) none none) d r s K = fin F G dr m d (.s l) [] r s K := rfl
theorem go_ssub1 {l : List UInt8} {k : IntKind} {a : Int} : go F G dr m (.ssub (.k (.s l)) (some (.k (.i k a))) none) d r s K = chk (0 ≤ a ∧ a ≤ l.length) (fin F G dr m d (.s (l.drop a.toNat)) [] r s K) := rfl
theorem go_ssub2 {l : List UInt8} {k' : IntKind} {b : Int} : go F G dr m (.ssub (.k (.s l)) none (some (.k (.i k' b)))) d r s K = chk (0 ≤ b ∧ b ≤ l.length) (fin F G dr m d (.s (l.take b.toNat)) [] r s K) := rfl
theorem go_ssub3 {l : List UInt8} {k k' : IntKind} {a b : Int} : go F G dr m (.ssub (.k (.s l)) (some (.k (.i k a))) (some (.k (.i k' b)))) d r s K = chk (0 ≤ a ∧ a ≤ b ∧ b ≤ l.length) (fin F G dr m d (.s ((l.take b.toNat).drop a.toNat)) [] r s K) := rfl
theorem go_slen {l : List UInt8} : go F G dr m (.slen (.k (.s l))) d r s K = fin F G dr m d (.i .i64 l.length) [] r s K := rfl
theorem go_len_l {z : Nat} {cs : List V} : go F G dr m (.len (.k (.l z cs))) d r s K = fin F G dr m d (.i .i64 ((cs.length / z : Nat) : Int)) [] r s K := rfl
theorem go_len_ow {z j n : Nat} : go F G dr m (.len (.k (.ow z j n))) d r s K = fin F G dr m d (.i .i64 n) [] r s K := rfl
theorem go_len_sl {z j off n : Nat} : go F G dr m (.len (.k (.sl z j off n))) d r s K = fin F G dr m d (.i .i64 n) [] r s K := rfl
theorem go_len_nl : go F G dr m (.len (.k .nl)) d r s K = fin F G dr m d (.i .i64 0) [] r s K := rfl
theorem go_app {e sz bytes : Nat} {v u : V} : go F G dr m (.app e sz bytes (.k v) (.k u)) d r s K = appp F G dr m s.ob e sz bytes v (unk u) (rd s.ob sz (unk u)) d r s K := rfl
theorem go_aps_nl {e : Nat} {l : List UInt8} : go F G dr m (.apps e (.k .nl) (.k (.s l))) d r s K = chk (l.length ≤ 1099511627776) (fin F G dr m d (.ow 1 s.nx l.length) [(s.nx, some { e, sz := 1, cs := Bt l, mu := true, isv := false })] r s K) := rfl
theorem go_aps_ow {e s1 j n : Nat} {l : List UInt8} : go F G dr m (.apps e (.k (.ow s1 j n)) (.k (.s l))) d r s K = apsq F G dr m (s.ob j) e j n l s1 d r s K := rfl
theorem apsq_s {o : Ob} {e j n : Nat} {l : List UInt8} {s1 : Nat} : apsq F G dr m (some o) e j n l s1 d r s K = chk (s1 = 1 ∧ o.e = e ∧ o.sz = 1 ∧ o.mu = true ∧ o.isv = false ∧ n + l.length ≤ 1099511627776)
      (fin F G dr m d (.ow 1 s.nx (n + l.length)) [(j, none), (s.nx, some { o with cs := o.cs ++ Bt l })] r s K) := rfl
theorem go_cpy {sz : Nat} {v u : V} : go F G dr m (.cpy sz (.k v) (.k u)) d r s K = cpyp F G dr m s.ob sz (asSl v) u (rd s.ob sz u) d r s K := rfl
theorem go_al {e : Nat} {zero : List V} : go F G dr m (.al e zero) d r s K = fin F G dr m d (.pt s.nx 0) [(s.nx, some { e, sz := zero.length, cs := zero, mu := true, isv := true })] r s K := rfl
theorem go_ext0 {sz j n : Nat} {rs : List V} : go F G dr m (.ext (.k (.tw sz j n rs)) 0) d r s K = fin F G dr m d (.ow sz j n) [] r s K := rfl
theorem go_ext1 {sz j n : Nat} {rs : List V} : go F G dr m (.ext (.k (.tw sz j n rs)) 1) d r s K = chk (0 < rs.length) (fin F G dr m d (rs.getD 0 .un) [] r s K) := rfl
theorem go_ext2 {sz j n : Nat} {rs : List V} : go F G dr m (.ext (.k (.tw sz j n rs)) 2) d r s K = chk (1 < rs.length) (fin F G dr m d (rs.getD 1 .un) [] r s K) := rfl
theorem go_ext {vs : List V} {ix : Nat} : go F G dr m (.ext (.k (.t vs)) ix) d r s K = chk (ix < vs.length) (fin F G dr m d (vs.getD ix .un) [] r s K) := rfl
theorem go_nc_pt {j q : Nat} : go F G dr m (.nc (.k (.pt j q))) d r s K = fin F G dr m d (.pt j q) [] r s K := rfl
theorem go_nc_ip {cs : List V} {q : Nat} : go F G dr m (.nc (.k (.ip cs q))) d r s K = fin F G dr m d (.ip cs q) [] r s K := rfl
theorem go_mm {mx : Bool} {k k' : IntKind} {a b : Int} : go F G dr m (.mm mx (.k (.i k a)) (.k (.i k' b))) d r s K = chk (k = k') (fin F G dr m d (.i k (if mx then max a b else min a b)) [] r s K) := rfl
theorem go_call {f : Nat} {args : List (Nat × X)} : go F G dr m (.call f args) d r s K = clp F G dr m f (args.map fun p => (p.1, s.val p.2)) d r s K := by
  simp only [go, ev, clp, List.map_map, List.all_map]
  congr 1
  refine congrArg Exists (funext fun n => ?_)
  refine congrArg Exists (funext fun res => ?_)
  refine congr (congrArg And rfl) ?_
  cases res <;> simp only [clr, List.flatMap_map]
theorem go_dcall {f : Nat} {args : List (Nat × X)} : go F G dr m (.dcall (.k (.c (.func (.func f) #[] #[]))) args) d r s K = chk (dynf f = true) (go F G dr m (.call f args) d r s K) := rfl
def snoc : List (Nat × V) → Nat × V → List (Nat × V)
  | [], x => [x]
  | y :: r, x => y :: snoc r x
theorem snoc_nil {x : Nat × V} : snoc [] x = [x] := rfl
theorem snoc_cons {x y : Nat × V} {r : List (Nat × V)} : snoc (y :: r) x = y :: snoc r x := rfl
theorem snoc_app : ∀ (l : List (Nat × V)) (x : Nat × V), snoc l x = l ++ [x]
  | [], _ => rfl
  | y :: r, x => by rw [snoc, snoc_app r x]; rfl
theorem okRs_snoc {ob : Nat → Option Ob} {cs : List V} : ∀ (l : List V), okRs ob (l ++ [.ip cs 0]) = okRs ob l
  | [] => by simp [okRs, okR]
  | v :: r => by simp only [List.cons_append, okRs, okRs_snoc r]
theorem go_dcallc {f : Nat} {cs : List V} {args : List (Nat × X)} : go F G dr m (.dcall (.k (.fc f cs)) args) d r s K = chk (dynf f = true) (clp F G dr m f (snoc (args.map fun p => (p.1, s.val p.2)) (1, .ip cs 0)) d r s K) := by
  have h1 : fnOf (V.fc f cs) = none := rfl
  have h2 : ∀ n, rdb n s.ob 1 (V.ip cs 0) = .ip cs 0 := fun n => by cases n <;> rfl
  have h3 : frz s.ob (V.ip cs 0) = [] := rfl
  have h4 : (rd s.ob 1 (V.ip cs 0)).okArg = true := rfl
  have hv : s.val (.k (.fc f cs)) = .fc f cs := rfl
  simp only [go, ev, hv, h1, clp, snoc_app, List.map_append, List.map_map, List.all_append, List.all_map, List.map_cons, List.map_nil, h2, List.all_cons, List.all_nil, h4, Bool.and_true, okRs_snoc]
  unfold chk
  refine congr (congrArg And rfl) ?_
  refine congr (congrArg And rfl) ?_
  refine congrArg Exists (funext fun n => ?_)
  refine congrArg Exists (funext fun res => ?_)
  refine congr (congrArg And rfl) ?_
  cases res <;> simp only [clr, chk, List.flatMap_append, List.flatMap_map, List.flatMap_cons, List.flatMap_nil, h3, List.append_nil]
theorem go_ocall {f z j n : Nat} : go F G dr m (.ocall f (.k (.ow z j n))) d r s K = ocp F G dr m (s.ob j) f j d r s K := rfl
theorem ocp_s {f j e sz : Nat} {cs : List V} : ocp F G dr m (some ⟨e, sz, cs, true, false⟩) f j d r s K = ocr F G dr m f j e sz cs d r s K := by simp only [ocp, ocr, chk, true_and]
theorem ocr_mk {f j e sz : Nat} {cs cs' : List V} (hf : F f [.o e sz cs] (.mu (.sl e sz 0 0) cs')) (h : fin F G dr m d (.ow sz s.nx (cs'.length / sz)) [(j, none), (s.nx, some { e, sz, cs := cs', mu := true, isv := false })] r s K) : ocr F G dr m f j e sz cs d r s K := ⟨cs', hf, h⟩
theorem go_clo {f j k : Nat} : go F G dr m (.clo f (.k (.pt j k))) d r s K = clop F G dr m (s.ob j) f j k d r s K := rfl
theorem clop_s {o : Ob} {f j k : Nat} : clop F G dr m (some o) f j k d r s K = chk (k = 0 ∧ o.isv = true ∧ rfo o = false) (fin F G dr m d (.fc f o.cs) [(j, some { o with mu := false })] r s K) := rfl
theorem go_xcall {f : Nat} {args : List X} : go F G dr m (.xcall f args) d r s K = xlp F G dr m f (args.map s.val) d r s K := rfl
theorem go_bx {e : Nat} {v : V} : go F G dr m (.bx e (.k v)) d r s K = bxp F G dr m s.ob e v (rd s.ob 1 v).cells d r s K := rfl
theorem go_pur {p : PO} {xs : List X} : go F G dr m (.pur p xs) d r s K = purp F G dr m p (xs.map s.val) (xs.map fun x => rd s.ob 1 (s.val x)) d r s K := rfl
theorem purq_s {v : V} : purq F G dr m (some v) d r s K = fin F G dr m d v [] r s K := rfl
theorem go_isn_nl {neg : Bool} : go F G dr m (.isn neg (.k .nl)) d r s K = fin F G dr m d (.b (!neg)) [] r s K := rfl
theorem go_isn_l {neg : Bool} {z : Nat} {cs : List V} : go F G dr m (.isn neg (.k (.l z cs))) d r s K = isp F G dr m neg (cs = []) d r s K := rfl
theorem go_isn_ow {neg : Bool} {z j n : Nat} : go F G dr m (.isn neg (.k (.ow z j n))) d r s K = isp F G dr m neg (n = 0) d r s K := rfl
theorem isp_mk {neg : Bool} {e : Prop} (h : ∀ t : Bool, (t = true → e) → fin F G dr m d (.b (t != neg)) [] r s K) : isp F G dr m neg e d r s K := h
theorem clp_mk {f : Nat} {args : List (Nat × V)} (res : V) (vs : List V) (h1 : okRs s.ob (args.map fun p => p.2)) (h2 : (args.all fun p => (rd s.ob p.1 p.2).okArg) = true) (hv : (args.map fun p => rd s.ob p.1 p.2) = vs) (hf : F f vs res) (hk : clr F G dr m args res d r s K) : clp F G dr m f args d r s K :=
  ⟨⟨h1, h2⟩, false, res, hv ▸ hf, hk⟩
theorem xlp_mk {f : Nat} {args : List V} (res : V) (hf : G f args res) (hk : fin F G dr m d res [] r s K) : xlp F G dr m f args d r s K := ⟨res, hf, hk⟩
theorem clr_o {args : List (Nat × V)} {e sz : Nat} {cs : List V} : clr F G dr m args (.o e sz cs) d r s K = chk (0 < sz) (fin F G dr m d (.ow sz s.nx (cs.length / sz)) ((s.nx, some { e, sz, cs, mu := true, isv := false }) :: if (V.o e sz cs).hasL then args.flatMap fun p => frz s.ob p.2 else []) r s K) := rfl
theorem clr_to {args : List (Nat × V)} {e sz : Nat} {cs rs : List V} : clr F G dr m args (.to e sz cs rs) d r s K = fin F G dr m d (.tw sz s.nx (cs.length / sz) rs) ((s.nx, some { e, sz, cs, mu := true, isv := false }) :: if (V.o e sz cs).hasL || (V.t rs).hasL then args.flatMap fun p => frz s.ob p.2 else []) r s K := rfl
theorem clr_fr {args : List (Nat × V)} {v : V} : clr F G dr m args (.fr v) d r s K = fin F G dr m d v [] r s K := rfl
theorem clr_i {args : List (Nat × V)} {k : IntKind} {n : Int} : clr F G dr m args (.i k n) d r s K = fin F G dr m d (.i k n) [] r s K := rfl
theorem clr_b {args : List (Nat × V)} {x : Bool} : clr F G dr m args (.b x) d r s K = fin F G dr m d (.b x) [] r s K := rfl
theorem clr_s {args : List (Nat × V)} {x : List UInt8} : clr F G dr m args (.s x) d r s K = fin F G dr m d (.s x) [] r s K := rfl
theorem clr_l {args : List (Nat × V)} {sz : Nat} {cs : List V} : clr F G dr m args (.l sz cs) d r s K = fin F G dr m d (.l sz cs) (args.flatMap fun p => frz s.ob p.2) r s K := rfl
theorem clr_t {args : List (Nat × V)} {vs : List V} : clr F G dr m args (.t vs) d r s K = fin F G dr m d (.t vs) (if (V.t vs).hasL then args.flatMap fun p => frz s.ob p.2 else []) r s K := rfl
theorem clr_g {args : List (Nat × V)} {vs : List V} : clr F G dr m args (.g vs) d r s K = fin F G dr m d (.g vs) (if (V.g vs).hasL then args.flatMap fun p => frz s.ob p.2 else []) r s K := rfl
variable {Q : Ex → St → Prop} {k : List Fr}
theorem vm_nil : vm F G [] Q s = Q .normal s := by simp only [vm]
theorem vm_b {id : Nat} : vm F G (.b id :: k) Q s = vm F G k Q s := by simp only [vm]
theorem vm_seq {a b : AC} : vm F G (.c (.seq a b) :: k) Q s = vm F G (.c a :: .c b :: k) Q s := by
  simp only [vm, avc, vm.vmx]
  all_goals first | rfl | (congr 1; done) | (congr 1; funext e s'; cases e <;> rfl)
theorem vm_blk {id : Nat} {c : AC} : vm F G (.c (.blk id c) :: k) Q s = vm F G (.c c :: .b id :: k) Q s := by
  simp only [vm, avc, vm.vmx]
  all_goals first | rfl | (congr 1; done) | (congr 1; funext e s'; cases e <;> rfl)
theorem vm_skip : vm F G (.c .skip :: k) Q s = vm F G k Q s := by simp only [vm, avc]
theorem vm_ret : vm F G (.c .ret :: k) Q s = Q .ret s := by simp only [vm, avc]
theorem vm_exit {i : Nat} : vm F G (.c (.exit i) :: k) Q s = vm.vmx F G i k Q s := by simp only [vm, avc]
theorem vmx_nil {i : Nat} : vm.vmx F G i [] Q s = Q (.exit i) s := by simp only [vm.vmx]
theorem vmx_b {i j : Nat} : vm.vmx F G i (.b j :: k) Q s = if i = j then vm F G k Q s else vm.vmx F G i k Q s := by simp only [vm.vmx]
theorem vmx_c {i : Nat} {c : AC} : vm.vmx F G i (.c c :: k) Q s = vm.vmx F G i k Q s := by simp only [vm.vmx]
theorem vm_reg {l : List AO} (h : ∀ K : St → Prop, (∀ s', vm F G k Q s' → K s') → rg F G false l s K) : vm F G (.c (.reg l) :: k) Q s := by
  have := h (vm F G k Q) fun _ h => h
  simp only [vm, avc]; exact this
theorem vm_dreg {l : List AO} (h : ∀ K : St → Prop, (∀ s', vm F G k Q s' → K s') → rg F G true l s K) : vm F G (.c (.dreg l) :: k) Q s := by
  have := h (vm F G k Q) fun _ h => h
  simp only [vm, avc]; exact this
theorem vm_dregx {cf : List (Nat × Nat)} {l : List AO} (h : ∀ K : St → Prop, (∀ s', chk (aparts s' cf) (vm F G k Q s') → K s') → rg F G true l s K) : vm F G (.c (.dregx cf l) :: k) Q s := by
  have := h (fun s' => chk (aparts s' cf) (vm F G k Q s')) fun _ h => h
  simp only [vm, avc]; exact this
theorem aparts_nil {s : St} {p : Prop} : chk (aparts s []) p = p := by simp [chk, aparts]
theorem aparts_cons {s : St} {x y : Nat} {r : List (Nat × Nat)} {p : Prop} : chk (aparts s ((x, y) :: r)) p = chk (apr (s.get x).ref (s.get y).ref) (chk (aparts s r) p) := by simp [chk, aparts, and_assoc]
theorem ref_i {q : IntKind} {n : Int} : V.ref (.i q n) = none := rfl
theorem ref_b {x : Bool} : V.ref (.b x) = none := rfl
theorem ref_s {x : List UInt8} : V.ref (.s x) = none := rfl
theorem ref_l {z : Nat} {x : List V} : V.ref (.l z x) = none := rfl
theorem ref_g {x : List V} : V.ref (.g x) = none := rfl
theorem ref_t {x : List V} : V.ref (.t x) = none := rfl
theorem ref_ip {x : List V} {n : Nat} : V.ref (.ip x n) = none := rfl
theorem ref_nl : V.ref .nl = none := rfl
theorem ref_un : V.ref .un = none := rfl
theorem ref_any : V.ref .any = none := rfl
theorem ref_c {x : Value} : V.ref (.c x) = none := rfl
theorem ref_kn {v : Value} {x : V} : V.ref (.kn v x) = none := rfl
theorem ref_pt {i n : Nat} : V.ref (.pt i n) = some i := rfl
theorem ref_ow {z i n : Nat} : V.ref (.ow z i n) = some i := rfl
theorem ref_sl {z i o n : Nat} : V.ref (.sl z i o n) = some i := rfl
theorem apr_n1 {a : Option Nat} {p : Prop} : chk (apr none a) p = p := by simp [chk, apr]
theorem apr_n2 {a : Option Nat} {p : Prop} : chk (apr a none) p = p := by cases a <;> simp [chk, apr]
theorem apr_ss {a b : Nat} {p : Prop} : chk (apr (some a) (some b)) p = if a = b then False else p := by by_cases h : a = b <;> simp [chk, apr, h]
def vmc (F G : Nat → List V → V → Prop) (v : V) (a b : AC) (k : List Fr) (Q : Ex → St → Prop) (s : St) : Prop := cnd v (vm F G (.c a :: k) Q s) (vm F G (.c b :: k) Q s)
theorem vm_cond {x : X} {a b : AC} : vm F G (.c (.cond x a b) :: k) Q s = vmc F G (s.val x) a b k Q s := by simp only [vm, avc, vmc]
theorem vmc_t {a b : AC} : vmc F G (.b true) a b k Q s = vm F G (.c a :: k) Q s := cnd_true
theorem vmc_f {a b : AC} : vmc F G (.b false) a b k Q s = vm F G (.c b :: k) Q s := cnd_false
theorem vmc_mk {t : Bool} {a b : AC} (h1 : t = true → vm F G (.c a :: k) Q s) (h2 : t = false → vm F G (.c b :: k) Q s) : vmc F G (.b t) a b k Q s := cnd_mk h1 h2
theorem vm_loopM' {c : AC} (ms : List (Nat × Nat × Nat)) (X : Type) (mk : X → St) (I : X → Prop) (μ : X → Nat) (x0 : X) (r0 : List (Nat × Nat)) (h0 : I x0) (hms : St.matOk ms s) (hle : (St.mats ms s).le r0 (mk x0))
    (round : ∀ x, I x → ∀ Q' : Ex → St → Prop, (∀ s' ms' x' r', I x' → μ x' < μ x → St.matOk ms' s' → (St.mats ms' s').le r' (mk x') → Q' .normal s') → (∀ i s', vm.vmx F G i k Q s' → Q' (.exit i) s') → (∀ s', Q .ret s' → Q' .ret s') → vm F G [.c c] Q' (mk x)) :
    vm F G (.c (.loop c) :: k) Q s := by
  simp only [vm, avc]
  refine ⟨X, mk, I, μ, ⟨ms, x0, r0, h0, hms, hle⟩, fun x hx => ?_⟩
  have := round x hx (fun e s' => match e with | .normal => ∃ ms' x' r, I x' ∧ μ x' < μ x ∧ St.matOk ms' s' ∧ (St.mats ms' s').le r (mk x') | .exit i => vm.vmx F G i k Q s' | .ret => Q .ret s')
    (fun s' ms' x' r' h1 h2 h3 h4 => ⟨ms', x', r', h1, h2, h3, h4⟩) (fun i s' h => h) (fun s' h => h)
  simp only [vm, vm.vmx] at this
  have e : (fun (e : Ex) (s' : St) => match e with
      | .normal => (match Ex.normal with | .normal => ∃ ms' x' r, I x' ∧ μ x' < μ x ∧ St.matOk ms' s' ∧ (St.mats ms' s').le r (mk x') | .exit i => vm.vmx F G i k Q s' | .ret => Q .ret s')
      | .exit i => (match Ex.exit i with | .normal => ∃ ms' x' r, I x' ∧ μ x' < μ x ∧ St.matOk ms' s' ∧ (St.mats ms' s').le r (mk x') | .exit i => vm.vmx F G i k Q s' | .ret => Q .ret s')
      | .ret => (match Ex.ret with | .normal => ∃ ms' x' r, I x' ∧ μ x' < μ x ∧ St.matOk ms' s' ∧ (St.mats ms' s').le r (mk x') | .exit i => vm.vmx F G i k Q s' | .ret => Q .ret s')) =
      (fun (e : Ex) (s' : St) => match e with | .normal => ∃ ms' x' r, I x' ∧ μ x' < μ x ∧ St.matOk ms' s' ∧ (St.mats ms' s').le r (mk x') | .exit i => vm.vmx F G i k Q s' | .ret => Q .ret s') := by
    funext e s'; cases e <;> rfl
  simp only [] at this e
  exact this
theorem vm_loopM {c : AC} (ms : List (Nat × Nat × Nat)) (X : Type) (mk : X → St) (I : X → Prop) (μ : X → Nat) (x0 : X) (r0 : List (Nat × Nat)) (h0 : I x0) (hms : St.matOk ms s) (hle : (St.mats ms s).le r0 (mk x0))
    (round : ∀ x, I x → ∀ Q' : Ex → St → Prop, (∀ s' x' r', I x' → μ x' < μ x → s'.le r' (mk x') → Q' .normal s') → (∀ i s', vm.vmx F G i k Q s' → Q' (.exit i) s') → (∀ s', Q .ret s' → Q' .ret s') → vm F G [.c c] Q' (mk x)) :
    vm F G (.c (.loop c) :: k) Q s :=
  vm_loopM' ms X mk I μ x0 r0 h0 hms hle fun x hx Q' hQ he hr => round x hx Q' (fun s' x' r' h1 h2 h3 => hQ s' [] x' r' h1 h2 trivial h3) he hr
theorem vm_loop {c : AC} (X : Type) (mk : X → St) (I : X → Prop) (μ : X → Nat) (x0 : X) (r0 : List (Nat × Nat)) (h0 : I x0) (hle : s.le r0 (mk x0))
    (round : ∀ x, I x → ∀ Q' : Ex → St → Prop, (∀ s' x' r', I x' → μ x' < μ x → s'.le r' (mk x') → Q' .normal s') → (∀ i s', vm.vmx F G i k Q s' → Q' (.exit i) s') → (∀ s', Q .ret s' → Q' .ret s') → vm F G [.c c] Q' (mk x)) :
    vm F G (.c (.loop c) :: k) Q s := vm_loopM [] X mk I μ x0 r0 h0 trivial hle round
theorem vm_start {ac : AC} (h : vm F G [.c ac] Q s) : avc F G ac Q s := by
  simp only [vm, vm.vmx] at h
  have e : (fun (e : Ex) (s' : St) => match e with | .normal => Q .normal s' | .exit i => Q (.exit i) s' | .ret => Q .ret s') = Q := by funext e s'; cases e <;> rfl
  rw [e] at h
  exact h
theorem aft_s {env : List (Nat × V)} {obs up : List (Nat × Option Ob)} {nx t : Nat} {v : V} : St.aft ⟨env, obs, nx⟩ (some t) v up = ⟨(t, v) :: env, up ++ obs, nx + 1⟩ := rfl
theorem aft_n {env : List (Nat × V)} {obs up : List (Nat × Option Ob)} {nx : Nat} {v : V} : St.aft ⟨env, obs, nx⟩ none v up = ⟨env, up ++ obs, nx + 1⟩ := rfl
theorem val_t {env : List (Nat × V)} {obs : List (Nat × Option Ob)} {nx t : Nat} : St.val ⟨env, obs, nx⟩ (.t t) = lk env t := rfl
theorem val_k {v : V} : s.val (.k v) = v := rfl
theorem get_t {env : List (Nat × V)} {obs : List (Nat × Option Ob)} {nx t : Nat} : St.get ⟨env, obs, nx⟩ t = lk env t := rfl
theorem ob_t {env : List (Nat × V)} {obs : List (Nat × Option Ob)} {nx t : Nat} : St.ob ⟨env, obs, nx⟩ t = lo obs t := rfl
theorem nx_t {env : List (Nat × V)} {obs : List (Nat × Option Ob)} {nx : Nat} : St.nx ⟨env, obs, nx⟩ = nx := rfl
theorem lo_cons {i t : Nat} {o : Option Ob} {l : List (Nat × Option Ob)} : lo ((i, o) :: l) t = if i = t then o else lo l t := rfl
theorem lo_nil {t : Nat} : lo [] t = none := rfl
theorem chk_true {p : Prop} : chk True p = p := by simp [chk]
theorem chk_and {p q u : Prop} : chk (p ∧ q) u = chk p (chk q u) := by simp [chk, and_assoc]
end
end Go.Proofs.Ytdaedplbhpiacaa.Ab
namespace Go.Proofs.Ytdaedplbhpiacaa.Ab
set_option linter.unusedSimpArgs false
set_option linter.unusedVariables false
open Go Go.RowKit
theorem lk_eq (k : Nat) (v : V) (r : List (Nat × V)) (t : Nat) : lk ((k, v) :: r) t = if k = t then v else lk r t := rfl
theorem nil_app (l : List (Nat × Option Ob)) : [] ++ l = l := rfl
theorem cons_app (x : Nat × Option Ob) (l r : List (Nat × Option Ob)) : (x :: l) ++ r = x :: (l ++ r) := rfl
def rdo : Option Ob → V
  | some o => if o.isv then .any else .l o.sz o.cs
  | none => .any
def rds (off n : Nat) : Option Ob → V
  | some o => if o.isv then .any else .l o.sz ((o.cs.drop off).take (n * o.sz))
  | none => .any
def fro (id : Nat) : Option Ob → List (Nat × Option Ob)
  | some o => [(id, some { o with mu := false })]
  | none => []
def oks (off n : Nat) : Option Ob → Prop
  | some o => off + n * o.sz ≤ o.cs.length
  | none => False
section
variable {ob : Nat → Option Ob} {z : Nat}
theorem rdo_s {e sz : Nat} {cs : List V} {mu : Bool} : rdo (some ⟨e, sz, cs, mu, false⟩) = .l sz cs := rfl
theorem rds_s {off n e sz : Nat} {cs : List V} {mu : Bool} : rds off n (some ⟨e, sz, cs, mu, false⟩) = .l sz ((cs.drop off).take (n * sz)) := rfl
theorem fro_s {id e sz : Nat} {cs : List V} {mu v : Bool} : fro id (some ⟨e, sz, cs, mu, v⟩) = [(id, some ⟨e, sz, cs, false, v⟩)] := rfl
theorem oks_s {off n e sz : Nat} {cs : List V} {mu v : Bool} : oks off n (some ⟨e, sz, cs, mu, v⟩) = (off + n * sz ≤ cs.length) := rfl
theorem rd_i {k : IntKind} {n : Int} : rd ob z (.i k n) = .i k n := rfl
theorem rd_b {x : Bool} : rd ob z (.b x) = .b x := rfl
theorem rd_s {l : List UInt8} : rd ob z (.s l) = .s l := rfl
theorem rd_l {s : Nat} {cs : List V} : rd ob z (.l s cs) = .l s cs := rfl
theorem rd_g {cs : List V} : rd ob z (.g cs) = .g cs := rfl
theorem rd_t {cs : List V} : rd ob z (.t cs) = .t cs := rfl
theorem rd_ip {cs : List V} {k : Nat} : rd ob z (.ip cs k) = .ip cs k := rfl
theorem rd_c {v : Value} : rd ob z (.c v) = .c v := rfl
theorem rd_nl : rd ob z .nl = .l z [] := rfl
theorem rd_ow {s id n : Nat} : rd ob z (.ow s id n) = rdo (ob id) := by simp only [rd, rdo]; cases ob id <;> rfl
theorem rd_sl {s id off n : Nat} : rd ob z (.sl s id off n) = rds off n (ob id) := by simp only [rd, rds]; cases ob id <;> rfl
theorem okR_i {k : IntKind} {n : Int} : okR ob (.i k n) = True := rfl
theorem okR_b {x : Bool} : okR ob (.b x) = True := rfl
theorem okR_s {l : List UInt8} : okR ob (.s l) = True := rfl
theorem okR_l {s : Nat} {cs : List V} : okR ob (.l s cs) = True := rfl
theorem okR_g {cs : List V} : okR ob (.g cs) = True := rfl
theorem okR_t {cs : List V} : okR ob (.t cs) = True := rfl
theorem okR_ip {cs : List V} {k : Nat} : okR ob (.ip cs k) = True := rfl
theorem okR_c {v : Value} : okR ob (.c v) = True := rfl
theorem okR_nl : okR ob .nl = True := rfl
theorem okR_ow {s id n : Nat} : okR ob (.ow s id n) = True := rfl
theorem okR_sl {s id off n : Nat} : okR ob (.sl s id off n) = oks off n (ob id) := by simp only [okR, oks]; cases ob id <;> rfl
theorem okRs_nil : okRs ob [] = True := rfl
theorem okRs_cons {v : V} {r : List V} : okRs ob (v :: r) = (okR ob v ∧ okRs ob r) := rfl
theorem frz_i {k : IntKind} {n : Int} : frz ob (.i k n) = [] := rfl
theorem frz_b {x : Bool} : frz ob (.b x) = [] := rfl
theorem frz_str {l : List UInt8} : frz ob (.s l) = [] := rfl
theorem frz_l {s : Nat} {cs : List V} : frz ob (.l s cs) = [] := rfl
theorem frz_g {cs : List V} : frz ob (.g cs) = [] := rfl
theorem frz_t {cs : List V} : frz ob (.t cs) = [] := rfl
theorem frz_ip {cs : List V} {k : Nat} : frz ob (.ip cs k) = [] := rfl
theorem frz_c {v : Value} : frz ob (.c v) = [] := rfl
theorem frz_nl : frz ob .nl = [] := rfl
theorem frz_ow {s id n : Nat} : frz ob (.ow s id n) = fro id (ob id) := by simp only [frz, fro]; cases ob id <;> rfl
theorem frz_sl {s id off n : Nat} : frz ob (.sl s id off n) = fro id (ob id) := by simp only [frz, fro]; cases ob id <;> rfl
theorem okA_i {k : IntKind} {n : Int} : V.okArg (.i k n) = true := rfl
theorem okA_b {x : Bool} : V.okArg (.b x) = true := rfl
theorem okA_s {l : List UInt8} : V.okArg (.s l) = true := rfl
theorem okA_l {s : Nat} {cs : List V} : V.okArg (.l s cs) = true := rfl
theorem okA_g {cs : List V} : V.okArg (.g cs) = true := rfl
theorem okA_ip {cs : List V} {k : Nat} : V.okArg (.ip cs k) = true := rfl
theorem okA_c {v : Value} : V.okArg (.c v) = true := rfl
theorem okA_kn {v : Value} {x : V} : V.okArg (.kn v x) = true := rfl
theorem cells_g {cs : List V} : V.cells (.g cs) = cs := rfl
theorem cells_i {k : IntKind} {n : Int} : V.cells (.i k n) = [.i k n] := rfl
theorem cells_b {x : Bool} : V.cells (.b x) = [.b x] := rfl
theorem cells_s {l : List UInt8} : V.cells (.s l) = [.s l] := rfl
theorem cells_l {s : Nat} {cs : List V} : V.cells (.l s cs) = [.l s cs] := rfl
theorem cells_c {v : Value} : V.cells (.c v) = [.c v] := rfl
theorem rl_kn {nx : Nat} {v : Value} {x : V} : V.refLe nx (.kn v x) = true := rfl
theorem okR_kn {ob : Nat → Option Ob} {v : Value} {x : V} : okR ob (.kn v x) = True := rfl
theorem frz_kn {ob : Nat → Option Ob} {v : Value} {x : V} : frz ob (.kn v x) = [] := rfl
theorem cells_kn {v : Value} {x : V} : V.cells (.kn v x) = [.kn v x] := rfl
theorem cell_kn {a : Option Addr} {n c : Nat} {x : V} : V.cell (.kn (.slice a n c) x) = true := rfl
theorem cell_csl {a : Option Addr} {n c : Nat} : V.cell (.c (.slice a n c)) = true := rfl
theorem rd_kn {ob : Nat → Option Ob} {sz : Nat} {v : Value} {x : V} : rd ob sz (.kn v x) = .kn v x := rfl
theorem unk_kn {v : Value} {s : Nat} {cs : List V} : unk (.kn v (.l s cs)) = .l s cs := rfl
theorem unk_l {s : Nat} {cs : List V} : unk (.l s cs) = .l s cs := rfl
theorem unk_ow {s j n : Nat} : unk (.ow s j n) = .ow s j n := rfl
theorem unk_sl {s j o n : Nat} : unk (.sl s j o n) = .sl s j o n := rfl
theorem unk_nl : unk .nl = .nl := rfl
theorem cell_i {k : IntKind} {n : Int} : V.cell (.i k n) = true := rfl
theorem cell_b {x : Bool} : V.cell (.b x) = true := rfl
theorem cell_s {l : List UInt8} : V.cell (.s l) = true := rfl
theorem cell_l {s : Nat} {cs : List V} : V.cell (.l s cs) = true := rfl
theorem sA_nil {cs : List V} {k : Nat} : setAt cs k [] = cs := rfl
theorem sA_cons {cs : List V} {k : Nat} {v : V} {r : List V} : setAt cs k (v :: r) = setAt (cs.set k v) (k + 1) r := rfl
theorem sAll_nil {cs : List V} : setAll cs [] = cs := rfl
theorem sAll_cons {cs : List V} {k : Nat} {vs : List V} {r : List (Nat × List V)} : setAll cs ((k, vs) :: r) = setAll (setAt cs k vs) r := rfl
theorem fA_nil {n : Nat} : fitAll n [] = true := rfl
theorem fA_cons {n k : Nat} {vs : List V} {r : List (Nat × List V)} : fitAll n ((k, vs) :: r) = (decide (k + vs.length ≤ n) && vs.all V.cell && fitAll n r) := rfl
theorem all_nil (p : V → Bool) : ([] : List V).all p = true := rfl
theorem all_cons (p : V → Bool) (v : V) (r : List V) : (v :: r).all p = (p v && r.all p) := rfl
theorem allq_nil (p : Nat × Option Ob → Bool) : ([] : List (Nat × Option Ob)).all p = true := rfl
theorem allq_cons (p : Nat × Option Ob → Bool) (v : Nat × Option Ob) (r : List (Nat × Option Ob)) : (v :: r).all p = (p v && r.all p) := rfl
theorem len_nil : ([] : List V).length = 0 := rfl
theorem len_cons (v : V) (r : List V) : (v :: r).length = r.length + 1 := rfl
theorem set_z (v u : V) (r : List V) : (v :: r).set 0 u = u :: r := rfl
theorem set_s (v u : V) (r : List V) (n : Nat) : (v :: r).set (n + 1) u = v :: r.set n u := rfl
theorem getD_z (v u : V) (r : List V) : (v :: r).getD 0 u = v := rfl
theorem getD_s (v u : V) (r : List V) (n : Nat) : (v :: r).getD (n + 1) u = r.getD n u := rfl
end
section
variable {F G : Nat → List V → V → Prop} {dr m : Bool} {d : Option Nat} {r : List AO} {s : St} {K : St → Prop}
theorem bld_eq {ob : Nat → Option Ob} {zero : List V} {ps : List (Nat × Nat × V)} : bldp F G dr m ob zero ps d r s K = chk (okRs ob (ps.map fun p => p.2.2) ∧ fitAll zero.length (ps.map fun p => (p.1, (rd ob 1 p.2.2).cells)) = true ∧ (ps.all fun p => (rd ob 1 p.2.2).cells.length == p.2.1) = true)
    (fin F G dr m d (.g (setAll zero (ps.map fun p => (p.1, (rd ob 1 p.2.2).cells)))) (ps.flatMap fun p => frz ob p.2.2) r s K) := rfl
theorem bsl_eq {ob : Nat → Option Ob} {e sz n : Nat} {zero : List V} {ps : List (Nat × V)} : bslp F G dr m ob e sz n zero ps d r s K = chk (okRs ob (ps.map fun p => p.2) ∧ fitAll zero.length (ps.map fun p => (p.1 * sz, (rd ob 1 p.2).cells)) = true ∧ (ps.all fun p => (rd ob 1 p.2).cells.length == sz) = true)
    (fin F G dr m d (.ow sz s.nx n) ((s.nx, some { e, sz, cs := setAll zero (ps.map fun p => (p.1 * sz, (rd ob 1 p.2).cells)), mu := true, isv := false }) :: ps.flatMap fun p => frz ob p.2) r s K) := rfl
end
def V.nf : V → Bool
  | .i _ _ | .b _ | .s _ => false
  | _ => true
def anyNF : List V → Bool
  | [] => false
  | v :: r => v.nf || anyNF r
theorem anyNF_eq (cs : List V) : (cs.any fun x => match x with | .i _ _ | .b _ | .s _ => false | _ => true) = anyNF cs := by
  induction cs with
  | nil => rfl
  | cons v r ih => simp only [List.any_cons, anyNF, ih]; cases v <;> rfl
theorem hasL_t {cs : List V} : V.hasL (.t cs) = anyNF cs := anyNF_eq cs
theorem hasL_g {cs : List V} : V.hasL (.g cs) = anyNF cs := anyNF_eq cs
theorem hasL_o {e z : Nat} {cs : List V} : V.hasL (.o e z cs) = anyNF cs := anyNF_eq cs
theorem aNF_nil : anyNF [] = false := rfl
theorem aNF_cons {v : V} {r : List V} : anyNF (v :: r) = (v.nf || anyNF r) := rfl
theorem nf_i {k : IntKind} {n : Int} : V.nf (.i k n) = false := rfl
theorem nf_b {x : Bool} : V.nf (.b x) = false := rfl
theorem nf_s {l : List UInt8} : V.nf (.s l) = false := rfl
theorem nf_l {z : Nat} {cs : List V} : V.nf (.l z cs) = true := rfl
theorem nf_g {cs : List V} : V.nf (.g cs) = true := rfl
theorem nf_c {v : Value} : V.nf (.c v) = true := rfl
theorem or_f (x : Bool) : (false || x) = x := rfl
theorem or_t (x : Bool) : (true || x) = true := rfl
theorem rl_i {nx : Nat} {k : IntKind} {n : Int} : V.refLe nx (.i k n) = true := rfl
theorem rl_b {nx : Nat} {x : Bool} : V.refLe nx (.b x) = true := rfl
theorem rl_s {nx : Nat} {l : List UInt8} : V.refLe nx (.s l) = true := rfl
theorem rl_l {nx z : Nat} {cs : List V} : V.refLe nx (.l z cs) = true := rfl
theorem rl_g {nx : Nat} {cs : List V} : V.refLe nx (.g cs) = true := rfl
theorem rl_t {nx : Nat} {cs : List V} : V.refLe nx (.t cs) = true := rfl
theorem rl_ip {nx : Nat} {cs : List V} {k : Nat} : V.refLe nx (.ip cs k) = true := rfl
theorem rl_nl {nx : Nat} : V.refLe nx .nl = true := rfl
theorem rl_un {nx : Nat} : V.refLe nx .un = true := rfl
theorem rl_any {nx : Nat} : V.refLe nx .any = true := rfl
theorem rl_c {nx : Nat} {v : Value} : V.refLe nx (.c v) = true := rfl
theorem rl_ow {nx z j n : Nat} (h : j ≤ nx) : V.refLe nx (.ow z j n) = true := by simp [V.refLe, h]
theorem rl_sl {nx z j off n : Nat} (h : j ≤ nx) : V.refLe nx (.sl z j off n) = true := by simp [V.refLe, h]
theorem rl_pt {nx j off : Nat} (h : j ≤ nx) : V.refLe nx (.pt j off) = true := by simp [V.refLe, h]
theorem Sw : type_of% (And.intro (@hasL_t) (
  And.intro (@hasL_g) (
  And.intro (@hasL_o) (
  And.intro (@aNF_nil) (
  And.intro (@aNF_cons) (
  And.intro (@nf_i) (
  And.intro (@nf_b) (
  And.intro (@nf_s) (
  And.intro (@nf_l) (
  And.intro (@nf_g) (
  And.intro (@nf_c) (
  And.intro (@or_f) (
  And.intro (@or_t) (
  And.intro (@rl_i) (
  And.intro (@rl_b) (
  And.intro (@rl_s) (
  And.intro (@rl_l) (
  And.intro (@rl_g) (
  And.intro (@rl_t) (
  And.intro (@rl_ip) (
  And.intro (@rl_nl) (
  And.intro (@rl_un) (
  And.intro (@rl_any) (
  And.intro (@rl_c) (
  And.intro (@rl_ow) (
  And.intro (@rl_sl) (
  And.intro (@rl_pt) (
  And.intro (@rdo_s) (
  And.intro (@rds_s) (
  And.intro (@fro_s) (
  And.intro (@oks_s) (
  And.intro (@rd_i) (
  And.intro (@rd_b) (
  And.intro (@rd_s) (
  And.intro (@rd_l) (
  And.intro (@rd_g) (
  And.intro (@rd_t) (
  And.intro (@rd_ip) (
  And.intro (@rd_c) (
  And.intro (@rd_nl) (
  And.intro (@rd_ow) (
  And.intro (@rd_sl) (
  And.intro (@okR_i) (
  And.intro (@okR_b) (
  And.intro (@okR_s) (
  And.intro (@okR_l) (
  And.intro (@okR_g) (
  And.intro (@okR_t) (
  And.intro (@okR_ip) (
  And.intro (@okR_c) (
  And.intro (@okR_nl) (
  And.intro (@okR_ow) (
  And.intro (@okR_sl) (
  And.intro (@okRs_nil) (
  And.intro (@okRs_cons) (
  And.intro (@frz_i) (
  And.intro (@frz_b) (
  And.intro (@frz_str) (
  And.intro (@frz_l) (
  And.intro (@frz_g) (
  And.intro (@frz_t) (
  And.intro (@frz_ip) (
  And.intro (@frz_c) (
  And.intro (@frz_nl) (
  And.intro (@frz_ow) (
  And.intro (@frz_sl) (
  And.intro (@okA_i) (
  And.intro (@okA_b) (
  And.intro (@okA_s) (
  And.intro (@okA_l) (
  And.intro (@okA_g) (
  And.intro (@okA_ip) (
  And.intro (And.intro (@okA_c) (@okA_kn)) (
  And.intro (@cells_g) (
  And.intro (@cells_i) (
  And.intro (@cells_b) (
  And.intro (@cells_s) (
  And.intro (@cells_l) (
  And.intro (And.intro (@cells_c) (And.intro (@cells_kn) (And.intro (@cell_kn) (And.intro (@cell_csl) (And.intro (@rd_kn) (And.intro (@rl_kn) (And.intro (@okR_kn) (@frz_kn)))))))) (
  And.intro (@cell_i) (
  And.intro (@cell_b) (
  And.intro (@cell_s) (
  And.intro (@cell_l) (
  And.intro (@sA_nil) (
  And.intro (@sA_cons) (
  And.intro (@sAll_nil) (
  And.intro (@sAll_cons) (
  And.intro (@fA_nil) (
  And.intro (@fA_cons) (
  And.intro (@all_nil) (
  And.intro (@all_cons) (
  And.intro (@allq_nil) (
  And.intro (@allq_cons) (
  And.intro (@len_nil) (
  And.intro (@len_cons) (
  And.intro (@set_z) (
  And.intro (@set_s) (
  And.intro (@getD_z) (
  And.intro (@getD_s) (
  And.intro (@bld_eq) (
  And.intro (@bsl_eq) (
  And.intro (@rg_nil) (
  And.intro (@rg_cons) (
  And.intro (@rg_consg) (
  And.intro (@gdo_tt) (
  And.intro (@gdo_ft) (
  And.intro (@gdo_tf) (
  And.intro (@gdo_ff) (
  And.intro (@gdo_un) (
  And.intro (@fin_f) (
  And.intro (@fin_t) (
  And.intro (@ldp_f) (
  And.intro (And.intro (@ldp_t) (@rfo_eq)) (
  And.intro (And.intro (@stp_s) (And.intro (@stkp_s) (And.intro (@go_stk_pt) (And.intro (@isRef_ow) (@isRef_nl))))) (
  And.intro (@appq_s) (
  And.intro (@appp_nl) (
  And.intro (@appp_ow) (
  And.intro (@go_mv) (
  And.intro (@go_pick_t) (
  And.intro (@go_pick_f) (
  And.intro (@go_bin_add) (
  And.intro (@go_bin_sub) (
  And.intro (@go_bin_mul) (
  And.intro (@go_bin_and) (
  And.intro (@go_bin_or) (
  And.intro (@go_bin_xor) (
  And.intro (@go_bin_andNot) (
  And.intro (@go_bin_eql) (
  And.intro (@go_bin_neq) (
  And.intro (@go_bin_lss) (
  And.intro (@go_bin_leq) (
  And.intro (@go_bin_gtr) (
  And.intro (@go_bin_geq) (
  And.intro (@go_bin_quo) (
  And.intro (@go_bin_rem) (
  And.intro (@go_bin_shl) (
  And.intro (@go_bin_shr) (
  And.intro (@go_str_add) (
  And.intro (@go_str_eql) (
  And.intro (@go_str_neq) (
  And.intro (@go_eqb) (
  And.intro (@go_un_not) (
  And.intro (@go_un_neg) (
  And.intro (@go_un_xor) (
  And.intro (@go_cvt) (
  And.intro (@go_six) (
  And.intro (@go_idx_l) (
  And.intro (@go_idx_ow) (
  And.intro (@go_idx_sl) (
  And.intro (@go_ld_ip) (
  And.intro (@go_ldg_ip) (
  And.intro (@go_ld_pt) (
  And.intro (@go_st_pt) (
  And.intro (@go_fad_pt) (
  And.intro (@go_fad_ip) (
  And.intro (@go_fld) (
  And.intro (@go_fldg) (
  And.intro (@go_bld) (
  And.intro (@go_bsl) (
  And.intro (@go_mk) (
  And.intro (@go_sub_l0) (
  And.intro (@go_sub_l1) (
  And.intro (@go_sub_l2) (
  And.intro (@go_sub_l3) (
  And.intro (@go_sub_ow0) (
  And.intro (@go_sub_ow1) (
  And.intro (@go_sub_ow2) (
  And.intro (@go_sub_ow3) (
  And.intro (@go_sub_sl0) (
  And.intro (@go_sub_sl1) (
  And.intro (@go_sub_sl2) (
  And.intro (@go_sub_sl3) (
  And.intro (And.intro (@go_sub_kn) (And.intro (@unk_kn) (And.intro (@unk_l) (And.intro (@unk_ow) (And.intro (@unk_sl) (And.intro (@unk_nl) (@go_sub_nl0))))))) (
  And.intro (@go_sub_nl1) (
  And.intro (@go_sub_nl2) (
  And.intro (@go_sub_nl3) (
  And.intro (@go_ssub0) (
  And.intro (@go_ssub1) (
  And.intro (@go_ssub2) (
  And.intro (@go_ssub3) (
  And.intro (@go_slen) (
  And.intro (@go_len_l) (
  And.intro (@go_len_ow) (
  And.intro (@go_len_sl) (
  And.intro (@go_len_nl) (
  And.intro (@go_app) (
  And.intro (@go_al) (
  And.intro (@go_ext) (
  And.intro (@go_nc_pt) (
  And.intro (@go_nc_ip) (
  And.intro (@go_mm) (
  And.intro (@go_call) (
  And.intro (@go_xcall) (
  And.intro (@go_isn_nl) (
  And.intro (@go_isn_l) (
  And.intro (@go_isn_ow) (
  And.intro (@clr_o) (
  And.intro (@clr_i) (
  And.intro (@clr_b) (
  And.intro (@clr_s) (
  And.intro (@clr_l) (
  And.intro (@clr_t) (
  And.intro (@clr_g) (
  And.intro (@aft_s) (
  And.intro (@aft_n) (
  And.intro (@val_t) (
  And.intro (@val_k) (
  And.intro (@get_t) (
  And.intro (@ob_t) (
  And.intro (@nx_t) (
  And.intro (@lo_cons) (
  And.intro (@lo_nil) (
  And.intro (@chk_true) (
  And.intro (@chk_and) (
  And.intro (@lk_eq) (
  And.intro (@nil_app) (
  And.intro (@cons_app) (
  And.intro (@decide_true) (
  @decide_false))))))))))))))))))))))))))))))))))))))))))))))))))))))))))))))))))))))))))))))))))))))))))))))))))))))))))))))))))))))))))))))))))))))))))))))))))))))))))))))))))))))))))))))))))))))))))))))))))))))))))))))))))))))))))) :=
  And.intro (@hasL_t) (
  And.intro (@hasL_g) (
  And.intro (@hasL_o) (
  And.intro (@aNF_nil) (
  And.intro (@aNF_cons) (
  And.intro (@nf_i) (
  And.intro (@nf_b) (
  And.intro (@nf_s) (
  And.intro (@nf_l) (
  And.intro (@nf_g) (
  And.intro (@nf_c) (
  And.intro (@or_f) (
  And.intro (@or_t) (
  And.intro (@rl_i) (
  And.intro (@rl_b) (
  And.intro (@rl_s) (
  And.intro (@rl_l) (
  And.intro (@rl_g) (
  And.intro (@rl_t) (
  And.intro (@rl_ip) (
  And.intro (@rl_nl) (
  And.intro (@rl_un) (
  And.intro (@rl_any) (
  And.intro (@rl_c) (
  And.intro (@rl_ow) (
  And.intro (@rl_sl) (
  And.intro (@rl_pt) (
  And.intro (@rdo_s) (
  And.intro (@rds_s) (
  And.intro (@fro_s) (
  And.intro (@oks_s) (
  And.intro (@rd_i) (
  And.intro (@rd_b) (
  And.intro (@rd_s) (
  And.intro (@rd_l) (
  And.intro (@rd_g) (
  And.intro (@rd_t) (
  And.intro (@rd_ip) (
  And.intro (@rd_c) (
  And.intro (@rd_nl) (
  And.intro (@rd_ow) (
  And.intro (@rd_sl) (
  And.intro (@okR_i) (
  And.intro (@okR_b) (
  And.intro (@okR_s) (
  And.intro (@okR_l) (
  And.intro (@okR_g) (
  And.intro (@okR_t) (
  And.intro (@okR_ip) (
  And.intro (@okR_c) (
  And.intro (@okR_nl) (
  And.intro (@okR_ow) (
  And.intro (@okR_sl) (
  And.intro (@okRs_nil) (
  And.intro (@okRs_cons) (
  And.intro (@frz_i) (
  And.intro (@frz_b) (
  And.intro (@frz_str) (
  And.intro (@frz_l) (
  And.intro (@frz_g) (
  And.intro (@frz_t) (
  And.intro (@frz_ip) (
  And.intro (@frz_c) (
  And.intro (@frz_nl) (
  And.intro (@frz_ow) (
  And.intro (@frz_sl) (
  And.intro (@okA_i) (
  And.intro (@okA_b) (
  And.intro (@okA_s) (
  And.intro (@okA_l) (
  And.intro (@okA_g) (
  And.intro (@okA_ip) (
  And.intro (And.intro (@okA_c) (@okA_kn)) (
  And.intro (@cells_g) (
  And.intro (@cells_i) (
  And.intro (@cells_b) (
  And.intro (@cells_s) (
  And.intro (@cells_l) (
  And.intro (And.intro (@cells_c) (And.intro (@cells_kn) (And.intro (@cell_kn) (And.intro (@cell_csl) (And.intro (@rd_kn) (And.intro (@rl_kn) (And.intro (@okR_kn) (@frz_kn)))))))) (
  And.intro (@cell_i) (
  And.intro (@cell_b) (
  And.intro (@cell_s) (
  And.intro (@cell_l) (
  And.intro (@sA_nil) (
  And.intro (@sA_cons) (
  And.intro (@sAll_nil) (
  And.intro (@sAll_cons) (
  And.intro (@fA_nil) (
  And.intro (@fA_cons) (
  And.intro (@all_nil) (
  And.intro (@all_cons) (
  And.intro (@allq_nil) (
  And.intro (@allq_cons) (
  And.intro (@len_nil) (
  And.intro (@len_cons) (
  And.intro (@set_z) (
  And.intro (@set_s) (
  And.intro (@getD_z) (
  And.intro (@getD_s) (
  And.intro (@bld_eq) (
  And.intro (@bsl_eq) (
  And.intro (@rg_nil) (
  And.intro (@rg_cons) (
  And.intro (@rg_consg) (
  And.intro (@gdo_tt) (
  And.intro (@gdo_ft) (
  And.intro (@gdo_tf) (
  And.intro (@gdo_ff) (
  And.intro (@gdo_un) (
  And.intro (@fin_f) (
  And.intro (@fin_t) (
  And.intro (@ldp_f) (
  And.intro (And.intro (@ldp_t) (@rfo_eq)) (
  And.intro (And.intro (@stp_s) (And.intro (@stkp_s) (And.intro (@go_stk_pt) (And.intro (@isRef_ow) (@isRef_nl))))) (
  And.intro (@appq_s) (
  And.intro (@appp_nl) (
  And.intro (@appp_ow) (
  And.intro (@go_mv) (
  And.intro (@go_pick_t) (
  And.intro (@go_pick_f) (
  And.intro (@go_bin_add) (
  And.intro (@go_bin_sub) (
  And.intro (@go_bin_mul) (
  And.intro (@go_bin_and) (
  And.intro (@go_bin_or) (
  And.intro (@go_bin_xor) (
  And.intro (@go_bin_andNot) (
  And.intro (@go_bin_eql) (
  And.intro (@go_bin_neq) (
  And.intro (@go_bin_lss) (
  And.intro (@go_bin_leq) (
  And.intro (@go_bin_gtr) (
  And.intro (@go_bin_geq) (
  And.intro (@go_bin_quo) (
  And.intro (@go_bin_rem) (
  And.intro (@go_bin_shl) (
  And.intro (@go_bin_shr) (
  And.intro (@go_str_add) (
  And.intro (@go_str_eql) (
  And.intro (@go_str_neq) (
  And.intro (@go_eqb) (
  And.intro (@go_un_not) (
  And.intro (@go_un_neg) (
  And.intro (@go_un_xor) (
  And.intro (@go_cvt) (
  And.intro (@go_six) (
  And.intro (@go_idx_l) (
  And.intro (@go_idx_ow) (
  And.intro (@go_idx_sl) (
  And.intro (@go_ld_ip) (
  And.intro (@go_ldg_ip) (
  And.intro (@go_ld_pt) (
  And.intro (@go_st_pt) (
  And.intro (@go_fad_pt) (
  And.intro (@go_fad_ip) (
  And.intro (@go_fld) (
  And.intro (@go_fldg) (
  And.intro (@go_bld) (
  And.intro (@go_bsl) (
  And.intro (@go_mk) (
  And.intro (@go_sub_l0) (
  And.intro (@go_sub_l1) (
  And.intro (@go_sub_l2) (
  And.intro (@go_sub_l3) (
  And.intro (@go_sub_ow0) (
  And.intro (@go_sub_ow1) (
  And.intro (@go_sub_ow2) (
  And.intro (@go_sub_ow3) (
  And.intro (@go_sub_sl0) (
  And.intro (@go_sub_sl1) (
  And.intro (@go_sub_sl2) (
  And.intro (@go_sub_sl3) (
  And.intro (And.intro (@go_sub_kn) (And.intro (@unk_kn) (And.intro (@unk_l) (And.intro (@unk_ow) (And.intro (@unk_sl) (And.intro (@unk_nl) (@go_sub_nl0))))))) (
  And.intro (@go_sub_nl1) (
  And.intro (@go_sub_nl2) (
  And.intro (@go_sub_nl3) (
  And.intro (@go_ssub0) (
  And.intro (@go_ssub1) (
  And.intro (@go_ssub2) (
  And.intro (@go_ssub3) (
  And.intro (@go_slen) (
  And.intro (@go_len_l) (
  And.intro (@go_len_ow) (
  And.intro (@go_len_sl) (
  And.intro (@go_len_nl) (
  And.intro (@go_app) (
  And.intro (@go_al) (
  And.intro (@go_ext) (
  And.intro (@go_nc_pt) (
  And.intro (@go_nc_ip) (
  And.intro (@go_mm) (
  And.intro (@go_call) (
  And.intro (@go_xcall) (
  And.intro (@go_isn_nl) (
  And.intro (@go_isn_l) (
  And.intro (@go_isn_ow) (
  And.intro (@clr_o) (
  And.intro (@clr_i) (
  And.intro (@clr_b) (
  And.intro (@clr_s) (
  And.intro (@clr_l) (
  And.intro (@clr_t) (
  And.intro (@clr_g) (
  And.intro (@aft_s) (
  And.intro (@aft_n) (
  And.intro (@val_t) (
  And.intro (@val_k) (
  And.intro (@get_t) (
  And.intro (@ob_t) (
  And.intro (@nx_t) (
  And.intro (@lo_cons) (
  And.intro (@lo_nil) (
  And.intro (@chk_true) (
  And.intro (@chk_and) (
  And.intro (@lk_eq) (
  And.intro (@nil_app) (
  And.intro (@cons_app) (
  And.intro (@decide_true) (
  @decide_false))))))))))))))))))))))))))))))))))))))))))))))))))))))))))))))))))))))))))))))))))))))))))))))))))))))))))))))))))))))))))))))))))))))))))))))))))))))))))))))))))))))))))))))))))))))))))))))))))))))))))))))))))))))))))
section
variable {s : St} {r : List (Nat × Nat)} {nx t : Nat}
theorem le_mk {env : List (Nat × V)} {obs : List (Nat × Option Ob)} : s.le r ⟨env, obs, nx⟩ = (leE s r nx env ∧ leO s r nx obs ∧ leN r obs) := rfl
theorem leE_nil : leE s r nx [] = True := rfl
theorem leE_cons {v : V} {l : List (Nat × V)} : leE s r nx ((t, v) :: l) = (leV s r nx t v ∧ leE s r nx l) := rfl
theorem leO_nil : leO s r nx [] = True := rfl
theorem leO_cons {o : Option Ob} {l : List (Nat × Option Ob)} : leO s r nx ((t, o) :: l) = (t < nx ∧ s.ob (rn r t) = o ∧ refN o ∧ leO s r nx l) := rfl
theorem leN_nil : leN r [] = True := rfl
theorem leN_cons {o : Option Ob} {l : List (Nat × Option Ob)} : leN r ((t, o) :: l) = ((l.all fun p => rn r p.1 != rn r t) = true ∧ leN r l) := rfl
theorem rn_nil : rn [] t = t := rfl
theorem rn_cons {k v : Nat} : rn ((k, v) :: r) t = if k = t then v else rn r t := rfl
theorem leV_any : leV s r nx t .any = True := rfl
theorem leV_i {k : IntKind} {n : Int} : leV s r nx t (.i k n) = (s.get t = .i k n) := rfl
theorem leV_b {x : Bool} : leV s r nx t (.b x) = (s.get t = .b x) := rfl
theorem leV_s {l : List UInt8} : leV s r nx t (.s l) = (s.get t = .s l) := rfl
theorem leV_l {z : Nat} {cs : List V} : leV s r nx t (.l z cs) = (s.get t = .l z cs) := rfl
theorem leV_g {cs : List V} : leV s r nx t (.g cs) = (s.get t = .g cs) := rfl
theorem leV_t {cs : List V} : leV s r nx t (.t cs) = (s.get t = .t cs) := rfl
theorem leV_nl : leV s r nx t .nl = (s.get t = .nl) := rfl
theorem leV_c {v : Value} : leV s r nx t (.c v) = (s.get t = .c v) := rfl
theorem leV_ow {z i n : Nat} : leV s r nx t (.ow z i n) = (i < nx ∧ s.get t = .ow z (rn r i) n) := rfl
theorem leV_sl {z i off n : Nat} : leV s r nx t (.sl z i off n) = (i < nx ∧ asSl (s.get t) = .sl z (rn r i) off n) := rfl
theorem leV_pt {i off : Nat} : leV s r nx t (.pt i off) = (i < nx ∧ s.get t = .pt (rn r i) off) := rfl
theorem mats_nil : St.mats [] s = s := rfl
theorem mats_cons {e z : Nat} {env : List (Nat × V)} {obs : List (Nat × Option Ob)} {l : List (Nat × Nat × Nat)} : St.mats ((t, e, z) :: l) ⟨env, obs, nx⟩ = St.mats l ⟨(t, .ow z nx 0) :: env, (nx, some { e, sz := z, cs := [], mu := true, isv := false }) :: obs, nx + 1⟩ := rfl
theorem matOk_nil : St.matOk [] s = True := rfl
theorem matOk_cons {e z : Nat} {env : List (Nat × V)} {obs : List (Nat × Option Ob)} {l : List (Nat × Nat × Nat)} : St.matOk ((t, e, z) :: l) ⟨env, obs, nx⟩ = (lk env t = .nl ∧ 0 < z ∧ St.matOk l ⟨(t, .ow z nx 0) :: env, (nx, some { e, sz := z, cs := [], mu := true, isv := false }) :: obs, nx + 1⟩) := rfl
theorem ow_eq {z i n z' i' n' : Nat} : (V.ow z i n = V.ow z' i' n') = (z = z' ∧ i = i' ∧ n = n') := by simp
theorem i_eq {k k' : IntKind} {n n' : Int} : (V.i k n = V.i k' n') = (k = k' ∧ n = n') := by simp
theorem b_eq {x y : Bool} : (V.b x = V.b y) = (x = y) := by simp
theorem l_eq {z z' : Nat} {cs cs' : List V} : (V.l z cs = V.l z' cs') = (z = z' ∧ cs = cs') := by simp
theorem o_eq {e e' z z' : Nat} {cs cs' : List V} {m m' v v' : Bool} : ((some ⟨e, z, cs, m, v⟩ : Option Ob) = some ⟨e', z', cs', m', v'⟩) = (e = e' ∧ z = z' ∧ cs = cs' ∧ m = m' ∧ v = v') := by simp
end
theorem Sv : type_of% (And.intro @vm_nil (And.intro @vm_b (And.intro @vm_seq (And.intro @vm_blk (And.intro @vm_skip (And.intro @vm_ret (And.intro @vm_exit (And.intro @vmx_nil (And.intro @vmx_b (And.intro @vmx_c (And.intro @vm_cond (And.intro @vmc_t (And.intro @vmc_f (And.intro @val_t (And.intro @val_k (And.intro @aparts_nil (And.intro @aparts_cons (And.intro @get_t (And.intro @ref_i (And.intro @ref_b (And.intro @ref_s (And.intro @ref_l (And.intro @ref_g (And.intro @ref_t (And.intro @ref_ip (And.intro @ref_nl (And.intro @ref_un (And.intro @ref_any (And.intro (And.intro @ref_c @ref_kn) (And.intro @ref_pt (And.intro @ref_ow (And.intro @ref_sl (And.intro @apr_n1 (And.intro @apr_n2 (And.intro @apr_ss (@lk_eq)))))))))))))))))))))))))))))))))))) :=
  And.intro @vm_nil (And.intro @vm_b (And.intro @vm_seq (And.intro @vm_blk (And.intro @vm_skip (And.intro @vm_ret (And.intro @vm_exit (And.intro @vmx_nil (And.intro @vmx_b (And.intro @vmx_c (And.intro @vm_cond (And.intro @vmc_t (And.intro @vmc_f (And.intro @val_t (And.intro @val_k (And.intro @aparts_nil (And.intro @aparts_cons (And.intro @get_t (And.intro @ref_i (And.intro @ref_b (And.intro @ref_s (And.intro @ref_l (And.intro @ref_g (And.intro @ref_t (And.intro @ref_ip (And.intro @ref_nl (And.intro @ref_un (And.intro @ref_any (And.intro (And.intro @ref_c @ref_kn) (And.intro @ref_pt (And.intro @ref_ow (And.intro @ref_sl (And.intro @apr_n1 (And.intro @apr_n2 (And.intro @apr_ss (@lk_eq)))))))))))))))))))))))))))))))))))
theorem Sl : type_of% (And.intro (@mats_nil) (
  And.intro (@mats_cons) (
  And.intro (@matOk_nil) (
  And.intro (@matOk_cons) (
  And.intro (@le_mk) (
  And.intro (@leE_nil) (
  And.intro (@leE_cons) (
  And.intro (@leO_nil) (
  And.intro (And.intro (@leO_cons) (And.intro (@refN_s) (And.intro (@refN_n) (@rfo_eq)))) (
  And.intro (@leN_nil) (
  And.intro (@leN_cons) (
  And.intro (@rn_nil) (
  And.intro (@rn_cons) (
  And.intro (@leV_any) (
  And.intro (@leV_i) (
  And.intro (@leV_b) (
  And.intro (@leV_s) (
  And.intro (@leV_l) (
  And.intro (@leV_g) (
  And.intro (@leV_t) (
  And.intro (@leV_nl) (
  And.intro (@leV_c) (
  And.intro (@leV_ow) (
  And.intro (@leV_sl) (
  And.intro (@leV_pt) (
  And.intro (@ow_eq) (
  And.intro (@i_eq) (
  And.intro (@b_eq) (
  And.intro (@l_eq) (
  @o_eq)))))))))))))))))))))))))))))) :=
  And.intro (@mats_nil) (
  And.intro (@mats_cons) (
  And.intro (@matOk_nil) (
  And.intro (@matOk_cons) (
  And.intro (@le_mk) (
  And.intro (@leE_nil) (
  And.intro (@leE_cons) (
  And.intro (@leO_nil) (
  And.intro (And.intro (@leO_cons) (And.intro (@refN_s) (And.intro (@refN_n) (@rfo_eq)))) (
  And.intro (@leN_nil) (
  And.intro (@leN_cons) (
  And.intro (@rn_nil) (
  And.intro (@rn_cons) (
  And.intro (@leV_any) (
  And.intro (@leV_i) (
  And.intro (@leV_b) (
  And.intro (@leV_s) (
  And.intro (@leV_l) (
  And.intro (@leV_g) (
  And.intro (@leV_t) (
  And.intro (@leV_nl) (
  And.intro (@leV_c) (
  And.intro (@leV_ow) (
  And.intro (@leV_sl) (
  And.intro (@leV_pt) (
  And.intro (@ow_eq) (
  And.intro (@i_eq) (
  And.intro (@b_eq) (
  And.intro (@l_eq) (
  @o_eq)))))))))))))))))))))))))))))
def fRc (i : Nat) (v : V) (l : List (Nat × Nat)) : List (Nat × Nat) :=
  match v with
  | .ow _ j _ | .sl _ j _ _ | .pt j _ => (i, j) :: l
  | _ => l
def fR (s : St) : List (Nat × V) → List (Nat × Nat)
  | [] => []
  | (t, .ow _ i _) :: r | (t, .sl _ i _ _) :: r | (t, .pt i _) :: r => fRc i (s.get t) (fR s r)
  | _ :: r => fR s r
def St.leA (s s' : St) : Prop := s.le (fR s s'.env) s'
section
variable {F G : Nat → List V → V → Prop} {s : St} {Q : Ex → St → Prop} {k : List Fr}
theorem leA_mk {env env' : List (Nat × V)} {obs obs' : List (Nat × Option Ob)} {nx nx' : Nat} : St.leA ⟨env, obs, nx⟩ ⟨env', obs', nx'⟩ = St.le ⟨env, obs, nx⟩ (fR ⟨env, obs, nx⟩ env') ⟨env', obs', nx'⟩ := rfl
theorem fR_nil : fR s [] = [] := rfl
theorem fR_ow {t z i n : Nat} {r : List (Nat × V)} : fR s ((t, .ow z i n) :: r) = fRc i (s.get t) (fR s r) := rfl
theorem fR_sl {t z i o n : Nat} {r : List (Nat × V)} : fR s ((t, .sl z i o n) :: r) = fRc i (s.get t) (fR s r) := rfl
theorem fR_pt {t i o : Nat} {r : List (Nat × V)} : fR s ((t, .pt i o) :: r) = fRc i (s.get t) (fR s r) := rfl
theorem fR_i {t : Nat} {k : IntKind} {n : Int} {r : List (Nat × V)} : fR s ((t, .i k n) :: r) = fR s r := rfl
theorem fR_b {t : Nat} {x : Bool} {r : List (Nat × V)} : fR s ((t, .b x) :: r) = fR s r := rfl
theorem fR_s {t : Nat} {l : List UInt8} {r : List (Nat × V)} : fR s ((t, .s l) :: r) = fR s r := rfl
theorem fR_l {t z : Nat} {cs : List V} {r : List (Nat × V)} : fR s ((t, .l z cs) :: r) = fR s r := rfl
theorem fR_g {t : Nat} {cs : List V} {r : List (Nat × V)} : fR s ((t, .g cs) :: r) = fR s r := rfl
theorem fR_t {t : Nat} {cs : List V} {r : List (Nat × V)} : fR s ((t, .t cs) :: r) = fR s r := rfl
theorem fR_nl {t : Nat} {r : List (Nat × V)} : fR s ((t, .nl) :: r) = fR s r := rfl
theorem fR_c {t : Nat} {v : Value} {r : List (Nat × V)} : fR s ((t, .c v) :: r) = fR s r := rfl
theorem fR_any {t : Nat} {r : List (Nat × V)} : fR s ((t, .any) :: r) = fR s r := rfl
theorem fRc_ow {i z j n : Nat} {l : List (Nat × Nat)} : fRc i (.ow z j n) l = (i, j) :: l := rfl
theorem fRc_sl {i z j o n : Nat} {l : List (Nat × Nat)} : fRc i (.sl z j o n) l = (i, j) :: l := rfl
theorem asSl_ow {z i n : Nat} : asSl (.ow z i n) = .sl z i 0 n := rfl
theorem asSl_sl {z i o n : Nat} : asSl (.sl z i o n) = .sl z i o n := rfl
theorem sl_eq {z i o n z' i' o' n' : Nat} : (V.sl z i o n = V.sl z' i' o' n') = (z = z' ∧ i = i' ∧ o = o' ∧ n = n') := by simp
theorem fRc_pt {i j o : Nat} {l : List (Nat × Nat)} : fRc i (.pt j o) l = (i, j) :: l := rfl
theorem Sa0 : type_of% (And.intro (@leA_mk) (And.intro (@fR_nil) (And.intro (@fR_ow) (And.intro (@fR_sl) (And.intro (@fR_pt) (And.intro (@fR_i) (And.intro (@fR_b) (And.intro (@fR_s) (And.intro (@fR_l) (And.intro (@fR_g) (And.intro (@fR_t) (And.intro (@fR_nl) (And.intro (@fR_c) (And.intro (@fR_any) (And.intro (@fRc_ow) (And.intro (@fRc_sl) (And.intro (@fRc_pt) (And.intro (@asSl_ow) (And.intro (@asSl_sl) (@sl_eq)))))))))))))))))))) :=
  And.intro (@leA_mk) (And.intro (@fR_nil) (And.intro (@fR_ow) (And.intro (@fR_sl) (And.intro (@fR_pt) (And.intro (@fR_i) (And.intro (@fR_b) (And.intro (@fR_s) (And.intro (@fR_l) (And.intro (@fR_g) (And.intro (@fR_t) (And.intro (@fR_nl) (And.intro (@fR_c) (And.intro (@fR_any) (And.intro (@fRc_ow) (And.intro (@fRc_sl) (And.intro (@fRc_pt) (And.intro (@asSl_ow) (And.intro (@asSl_sl) (@sl_eq)))))))))))))))))))
theorem leV_f {s : St} {r : List (Nat × Nat)} {nx t : Nat} {n : Int} : leV s r nx t (.f n) = (s.get t = .f n) := rfl
theorem leV_z {s : St} {r : List (Nat × Nat)} {nx t : Nat} {a b : Int} : leV s r nx t (.z a b) = (s.get t = .z a b) := rfl
theorem f_eq {a b : Int} : (V.f a = V.f b) = (a = b) := by simp
theorem z_eq {a b c e : Int} : (V.z a b = V.z c e) = (a = c ∧ b = e) := by simp
theorem fR_f {t : Nat} {n : Int} {r : List (Nat × V)} : fR s ((t, .f n) :: r) = fR s r := rfl
theorem fR_z {t : Nat} {a b : Int} {r : List (Nat × V)} : fR s ((t, .z a b) :: r) = fR s r := rfl
theorem Sa : type_of% (And.intro Sa0 (And.intro (@leV_f) (And.intro (@leV_z) (And.intro (@f_eq) (And.intro (@z_eq) (And.intro (@fR_f) (@fR_z))))))) :=
  And.intro Sa0 (And.intro (@leV_f) (And.intro (@leV_z) (And.intro (@f_eq) (And.intro (@z_eq) (And.intro (@fR_f) (@fR_z))))))
theorem vm_loopA {c : AC} (ms : List (Nat × Nat × Nat)) (X : Type) (mk : X → St) (I : X → Prop) (μ : X → Nat) (x0 : X) (h0 : I x0) (hms : St.matOk ms s) (hle : (St.mats ms s).leA (mk x0))
    (round : ∀ x, I x → ∀ Q' : Ex → St → Prop, (∀ s' x', I x' → μ x' < μ x → s'.leA (mk x') → Q' .normal s') → (∀ i s', vm.vmx F G i k Q s' → Q' (.exit i) s') → (∀ s', Q .ret s' → Q' .ret s') → vm F G [.c c] Q' (mk x)) :
    vm F G (.c (.loop c) :: k) Q s :=
  vm_loopM ms X mk I μ x0 _ h0 hms hle fun x hx Q' hQ he hr => round x hx Q' (fun s' x' h1 h2 h3 => hQ s' x' _ h1 h2 h3) he hr
end
section
variable {F G : Nat → List V → V → Prop} {dr m : Bool} {d : Option Nat} {r : List AO} {s : St} {K : St → Prop} {ob : Nat → Option Ob}
theorem bxp_eq {e : Nat} {v : V} {cs : List V} : bxp F G dr m ob e v cs d r s K = chk (okR ob v ∧ cs.all V.cell = true) (fin F G dr m d (.pt s.nx 0) ((s.nx, some { e, sz := cs.length, cs := cs, mu := true, isv := true }) :: frz ob v) r s K) := rfl
theorem purp_eq {p : PO} {vs us : List V} : purp F G dr m p vs us d r s K = chk (okRs s.ob vs) (purq F G dr m (pureV p us) d r s K) := rfl
end
theorem pure_eqs {neg : Bool} {ks : List Nat} {xs ys : List V} : pureV (.eqs neg ks) [.g xs, .g ys] = (eqcs ks xs ys).map fun t => .b (if neg then !t else t) := rfl
theorem pure_b2s {cs : List V} : pureV .b2s [.l 1 cs] = (bytesOf cs).map .s := rfl
theorem pure_s2b {e : Nat} {l : List UInt8} (h : l.length ≤ 9223372036854775807) : pureV (.s2b e) [.s l] = some (.l 1 (Bt l)) := by simp [pureV, h]
theorem eqcs_nil : eqcs [] [] [] = some true := rfl
theorem eqcs_cons {k : Nat} {ks : List Nat} {x y : V} {r q : List V} : eqcs (k :: ks) (x :: r) (y :: q) = both (eqc k x y) (eqcs ks r q) := rfl
theorem both_ss {a b : Bool} : both (some a) (some b) = some (a && b) := rfl
theorem eqc_i {k : IntKind} {a b : Int} : eqc 1 (.i k a) (.i k b) = some (decide (a = b)) := by simp [eqc]
theorem eqc_b {a b : Bool} : eqc 0 (.b a) (.b b) = some (a == b) := rfl
theorem eqc_s {a b : List UInt8} : eqc 2 (.s a) (.s b) = some (a == b) := rfl
theorem bytesOf_Bt (l : List UInt8) : bytesOf (Bt l) = some l := by
  induction l with
  | nil => rfl
  | cons c r ih =>
    have h1 : (c.toNat : Int) < 256 := by have := c.toNat_lt; omega
    show (match bytesOf (Bt r) with | some l => if 0 ≤ (c.toNat : Int) ∧ (c.toNat : Int) < 256 then some (UInt8.ofNat (c.toNat : Int).toNat :: l) else none | none => none) = _
    rw [ih]
    simp only []
    rw [if_pos ⟨by omega, h1⟩]
    simp
theorem Bt_len (l : List UInt8) : (Bt l).length = l.length := by simp [Bt]
theorem Bt_nf (l : List UInt8) : anyNF (Bt l) = false := by
  induction l with
  | nil => rfl
  | cons x r ih => simpa [Bt, anyNF, V.nf] using ih
theorem Sx : type_of% (And.intro (@go_ext0) (And.intro (@go_ext1) (And.intro (@go_ext2) (And.intro (@clr_to) (And.intro (@go_aix_ip) (And.intro (@go_aix_pt) (And.intro (@go_asl0) (And.intro (@go_asl1) (And.intro (@go_asl2) (And.intro (@go_asl3) (And.intro (@go_cpy) (And.intro (@cpyp_sl) (And.intro (@cpyq_s) (And.intro (@asSl_ow) (And.intro (@asSl_sl) (And.intro (@clr_fr) (And.intro (@go_bx) (And.intro (@go_pur) (And.intro (@bxp_eq) (And.intro (@purp_eq) (And.intro (@purq_s) (And.intro (@pure_eqs) (And.intro (@pure_b2s) (And.intro (@eqcs_nil) (And.intro (@eqcs_cons) (And.intro (@both_ss) (And.intro (@eqc_i) (And.intro (@eqc_b) (And.intro (@eqc_s) (And.intro bytesOf_Bt (And.intro Bt_len Bt_nf))))))))))))))))))))))))))))))) :=
  And.intro (@go_ext0) (And.intro (@go_ext1) (And.intro (@go_ext2) (And.intro (@clr_to) (And.intro (@go_aix_ip) (And.intro (@go_aix_pt) (And.intro (@go_asl0) (And.intro (@go_asl1) (And.intro (@go_asl2) (And.intro (@go_asl3) (And.intro (@go_cpy) (And.intro (@cpyp_sl) (And.intro (@cpyq_s) (And.intro (@asSl_ow) (And.intro (@asSl_sl) (And.intro (@clr_fr) (And.intro (@go_bx) (And.intro (@go_pur) (And.intro (@bxp_eq) (And.intro (@purp_eq) (And.intro (@purq_s) (And.intro (@pure_eqs) (And.intro (@pure_b2s) (And.intro (@eqcs_nil) (And.intro (@eqcs_cons) (And.intro (@both_ss) (And.intro (@eqc_i) (And.intro (@eqc_b) (And.intro (@eqc_s) (And.intro bytesOf_Bt (And.intro Bt_len Bt_nf))))))))))))))))))))))))))))))
theorem Sb : (∀ {α β : Type} {f : α → β}, List.map f [] = []) ∧ (∀ {α β : Type} {f : α → β} {a : α} {l : List α}, List.map f (a :: l) = f a :: List.map f l) ∧
    (∀ {α β : Type} {f : α → β} {a : α}, Option.map f (some a) = some (f a)) ∧ (∀ {α β : Type} {f : α → β}, Option.map f none = none) ∧
    (∀ {α : Type} {p : α → Bool}, List.all [] p = true) ∧ (∀ {α : Type} {p : α → Bool} {a : α} {l : List α}, List.all (a :: l) p = (p a && List.all l p)) ∧
    (∀ {α β : Type} {f : α → List β}, List.flatMap f [] = []) ∧ (∀ {α β : Type} {f : α → List β} {a : α} {l : List α}, List.flatMap f (a :: l) = f a ++ List.flatMap f l) ∧
    (∀ b : Bool, (b && true) = b) ∧ (∀ b : Bool, (true && b) = b) ∧ (∀ b : Bool, (b && b) = b) ∧ (∀ {α : Type} {a : α}, List.replicate 0 a = []) ∧ (∀ {α : Type}, ([] : List (List α)).flatten = []) ∧
    (∀ p : Prop, (p ∧ True) = p) ∧ (∀ p : Prop, (True ∧ p) = p) ∧ ((!true) = false) ∧ ((!false) = true) ∧ ((¬ True) = False) ∧ ((¬ False) = True) ∧
    (∀ {α : Type} {a : List α}, a ++ [] = a) ∧ (∀ n : Nat, (n ≤ n) = True) ∧ (∀ a : Int, - -a = a) ∧
    (∀ {α : Type} {a : List α}, a.drop 0 = a) ∧ (∀ {α : Type} {a : α} {l : List α} {n : Nat}, (a :: l).drop (n + 1) = l.drop n) ∧ (∀ {α : Type} {n : Nat}, ([] : List α).drop n = []) ∧
    (∀ {α : Type} {a : List α}, a.take 0 = []) ∧ (∀ {α : Type} {a : α} {l : List α} {n : Nat}, (a :: l).take (n + 1) = a :: l.take n) ∧ (∀ {α : Type} {n : Nat}, ([] : List α).take n = []) :=
  ⟨List.map_nil, List.map_cons, Option.map_some _ _, Option.map_none _, List.all_nil, List.all_cons, List.flatMap_nil, List.flatMap_cons, Bool.and_true, Bool.true_and, Bool.and_self, List.replicate_zero, List.flatten_nil,
    and_true, true_and, Bool.not_true, Bool.not_false, not_true_eq_false, not_false_eq_true, List.append_nil _, fun n => eq_true (Nat.le_refl n), Int.neg_neg, List.drop_zero, List.drop_succ_cons, List.drop_nil, List.take_zero, List.take_succ_cons, List.take_nil⟩
section
variable {F G : Nat → List V → V → Prop} {dr m : Bool} {d : Option Nat} {r : List AO} {s : St} {K : St → Prop}
theorem clp_of {f : Nat} {args : List (Nat × V)} (res : V) (vs : List V) (hf : F f vs res) (hv : (args.map fun p => rd s.ob p.1 p.2) = vs)
    (hk : chk (okRs s.ob (args.map fun p => p.2)) (chk ((args.all fun p => (rd s.ob p.1 p.2).okArg) = true) (clr F G dr m args res d r s K))) : clp F G dr m f args d r s K :=
  clp_mk res vs hk.1 hk.2.1 hv hf hk.2.2
theorem clp_ofn {f : Nat} {args : List (Nat × V)} (res : V) (vs : List V) (hf : F f vs res) (hv : (args.map fun p => rdb true s.ob p.1 p.2) = vs)
    (hk : chk (okRs s.ob (args.map fun p => p.2)) (chk ((args.all fun p => (rd s.ob p.1 p.2).okArg) = true) (clr F G dr m args res d r s K))) : clp F G dr m f args d r s K :=
  ⟨⟨hk.1, hk.2.1⟩, true, res, hv ▸ hf, hk.2.2⟩
end
section
variable (F G : Nat → List V → V → Prop) (dr m : Bool)
def clq (f : Nat) (vs : List V) (args : List (Nat × V)) (d : Option Nat) (r : List AO) (s : St) (K : St → Prop) : Prop :=
  ∃ res, F f vs res ∧ chk (okRs s.ob (args.map fun p => p.2)) (chk ((args.all fun p => (rd s.ob p.1 p.2).okArg) = true) (clr F G dr m args res d r s K))
end
section
variable {F G : Nat → List V → V → Prop} {dr m : Bool} {d : Option Nat} {r : List AO} {s : St} {K : St → Prop}
theorem clp_q {f : Nat} {args : List (Nat × V)} (h : clq F G dr m f (args.map fun p => rd s.ob p.1 p.2) args d r s K) : clp F G dr m f args d r s K :=
  let ⟨res, hf, hk⟩ := h
  clp_of res _ hf rfl hk
theorem clq_mk {f : Nat} {vs : List V} {res : V} {args : List (Nat × V)} (hf : F f vs res) (hk : chk (okRs s.ob (args.map fun p => p.2)) (chk ((args.all fun p => (rd s.ob p.1 p.2).okArg) = true) (clr F G dr m args res d r s K))) : clq F G dr m f vs args d r s K := ⟨res, hf, hk⟩
end
section
variable {ob : Nat → Option Ob} {z : Nat}
theorem rdd_f {n : Int} : rd ob z (.f n) = .f n := rfl
theorem rdd_z {a b : Int} : rd ob z (.z a b) = .z a b := rfl
theorem okR_f {n : Int} : okR ob (.f n) = True := rfl
theorem okR_z {a b : Int} : okR ob (.z a b) = True := rfl
theorem frz_f {n : Int} : frz ob (.f n) = [] := rfl
theorem frz_z {a b : Int} : frz ob (.z a b) = [] := rfl
theorem okA_f {n : Int} : V.okArg (.f n) = true := rfl
theorem okA_z {a b : Int} : V.okArg (.z a b) = true := rfl
theorem rl_f {nx : Nat} {n : Int} : V.refLe nx (.f n) = true := rfl
theorem rl_z {nx : Nat} {a b : Int} : V.refLe nx (.z a b) = true := rfl
theorem nf_f {n : Int} : V.nf (.f n) = true := rfl
theorem nf_z {a b : Int} : V.nf (.z a b) = true := rfl
end
section
variable {F G : Nat → List V → V → Prop} {dr m : Bool} {d : Option Nat} {r : List AO} {s : St} {K : St → Prop}
theorem clr_f {args : List (Nat × V)} {n : Int} : clr F G dr m args (.f n) d r s K = fin F G dr m d (.f n) [] r s K := rfl
theorem clr_z {args : List (Nat × V)} {a b : Int} : clr F G dr m args (.z a b) d r s K = fin F G dr m d (.z a b) [] r s K := rfl
end
theorem pure_i2f {k : IntKind} {n : Int} (h : n.natAbs < 9007199254740992) : pureV (.nm .i2f) [.i k n] = some (.f n) := if_pos h
theorem pure_f2i {n : Int} (h : -9223372036854775808 ≤ n ∧ n ≤ 9223372036854775807) : pureV (.nm (.f2i .i64)) [.f n] = some (.i .i64 n) := if_pos h
theorem pure_mkz {a b : Int} : pureV (.nm .mkz) [.f a, .f b] = some (.z a b) := rfl
theorem pure_re {a b : Int} : pureV (.nm .re) [.z a b] = some (.f a) := rfl
theorem pure_im {a b : Int} : pureV (.nm .im) [.z a b] = some (.f b) := rfl
theorem pure_zadd {a b c e : Int} (h : (a + c).natAbs < 9007199254740992 ∧ (b + e).natAbs < 9007199254740992) : pureV (.nm .zadd) [.z a b, .z c e] = some (.z (a + c) (b + e)) := if_pos h
theorem pure_zsub {a b c e : Int} (h : (a - c).natAbs < 9007199254740992 ∧ (b - e).natAbs < 9007199254740992) : pureV (.nm .zsub) [.z a b, .z c e] = some (.z (a - c) (b - e)) := if_pos h
theorem pure_zmul {a b c e : Int} (h : (a * c).natAbs + (b * e).natAbs < 9007199254740992 ∧ (a * e).natAbs + (b * c).natAbs < 9007199254740992) : pureV (.nm .zmul) [.z a b, .z c e] = some (.z (a * c - b * e) (a * e + b * c)) := if_pos h
theorem Sg : type_of% (And.intro (@rdd_f) (And.intro (@rdd_z) (And.intro (@okR_f) (And.intro (@okR_z) (And.intro (@frz_f) (And.intro (@frz_z) (And.intro (@okA_f) (And.intro (@okA_z) (And.intro (@rl_f) (And.intro (@rl_z) (And.intro (@nf_f) (And.intro (@nf_z) (And.intro (@clr_f) (And.intro (@clr_z) (And.intro (@pure_i2f) (And.intro (@pure_f2i) (And.intro (@pure_mkz) (And.intro (@pure_re) (And.intro (@pure_im) (And.intro (@pure_zadd) (And.intro (@pure_zsub) (And.intro (@pure_zmul) (@go_un_fneg))))))))))))))))))))))) :=
  And.intro (@rdd_f) (And.intro (@rdd_z) (And.intro (@okR_f) (And.intro (@okR_z) (And.intro (@frz_f) (And.intro (@frz_z) (And.intro (@okA_f) (And.intro (@okA_z) (And.intro (@rl_f) (And.intro (@rl_z) (And.intro (@nf_f) (And.intro (@nf_z) (And.intro (@clr_f) (And.intro (@clr_z) (And.intro (@pure_i2f) (And.intro (@pure_f2i) (And.intro (@pure_mkz) (And.intro (@pure_re) (And.intro (@pure_im) (And.intro (@pure_zadd) (And.intro (@pure_zsub) (And.intro (@pure_zmul) (@go_un_fneg))))))))))))))))))))))
section
variable (F G : Nat → List V → V → Prop) (dr m : Bool)
def mcr (f k j : Nat) (o : Ob) (vs : List V) (args : List (Nat × V)) (d : Option Nat) (r : List AO) (s : St) (K : St → Prop) : Prop :=
  ∃ res cs', F f vs (.mu res cs') ∧ chk (okRs s.ob (args.map fun p => p.2)) (chk ((args.all fun p => (rd s.ob p.1 p.2).okArg) = true) (chk (o.mu = true) (chk (o.isv = false) (chk (((args.eraseIdx k).all fun p => (frz s.ob p.2).all fun q => q.1 != j) = true)
    (chk (res.hasL = false) (fin F G dr m d res ((j, some { o with cs := cs' }) :: (args.eraseIdx k).flatMap fun p => frz s.ob p.2) r s K))))))
end
section
variable {F G : Nat → List V → V → Prop} {dr m : Bool} {d : Option Nat} {r : List AO} {s : St} {K : St → Prop}
theorem mcp_ow {f k z j n : Nat} {args : List (Nat × V)} : mcp F G dr m f k (some (.ow z j n)) args d r s K = mcq F G dr m (s.ob j) f k j args d r s K := rfl
theorem mcq_q {f k j : Nat} {o : Ob} {args : List (Nat × V)} (h : mcr F G dr m f k j o ((args.map fun p => rd s.ob p.1 p.2).set k (.o o.e o.sz o.cs)) args d r s K) : mcq F G dr m (some o) f k j args d r s K := by
  obtain ⟨res, cs', h1, h2, h3, h4, h5, h6, h7, h8⟩ := h
  exact ⟨⟨h2, h3, h4, h5, h6⟩, res, cs', h1, h7, h8⟩
theorem mcr_mk {f k j : Nat} {o : Ob} {vs : List V} {res : V} {cs' : List V} {args : List (Nat × V)} (hf : F f vs (.mu res cs')) (h : chk (okRs s.ob (args.map fun p => p.2)) (chk ((args.all fun p => (rd s.ob p.1 p.2).okArg) = true) (chk (o.mu = true) (chk (o.isv = false) (chk (((args.eraseIdx k).all fun p => (frz s.ob p.2).all fun q => q.1 != j) = true)
    (chk (res.hasL = false) (fin F G dr m d res ((j, some { o with cs := cs' }) :: (args.eraseIdx k).flatMap fun p => frz s.ob p.2) r s K))))))) : mcr F G dr m f k j o vs args d r s K := ⟨res, cs', hf, h⟩
end
theorem setV_0 {v x : V} {r : List V} : (v :: r).set 0 x = x :: r := rfl
theorem setV_s {v x : V} {r : List V} {n : Nat} : (v :: r).set (n + 1) x = v :: r.set n x := rfl
theorem eraV_0 {v : Nat × V} {r : List (Nat × V)} : (v :: r).eraseIdx 0 = r := rfl
theorem eraV_s {v : Nat × V} {r : List (Nat × V)} {n : Nat} : (v :: r).eraseIdx (n + 1) = v :: r.eraseIdx n := rfl
theorem getV_0 {v : Nat × V} {r : List (Nat × V)} : (v :: r)[0]? = some v := rfl
theorem getV_s {v : Nat × V} {r : List (Nat × V)} {n : Nat} : (v :: r)[n + 1]? = r[n]? := rfl
theorem hasL_t0 : V.hasL (.t []) = false := rfl
theorem mapS {v : Nat × V} {g : Nat × V → V} : (some v).map g = some (g v) := rfl
section
variable {ob : Nat → Option Ob} {z : Nat}
theorem okR_fc {f : Nat} {cs : List V} : okR ob (.fc f cs) = True := rfl
theorem rd_fc {f : Nat} {cs : List V} : rd ob z (.fc f cs) = .fc f cs := rfl
theorem frz_fc {f : Nat} {cs : List V} : frz ob (.fc f cs) = [] := rfl
theorem okA_fc {f : Nat} {cs : List V} : V.okArg (.fc f cs) = true := rfl
theorem rl_fc {nx f : Nat} {cs : List V} : V.refLe nx (.fc f cs) = true := rfl
theorem nf_fc {f : Nat} {cs : List V} : V.nf (.fc f cs) = true := rfl
end
theorem Sm : type_of% (And.intro @go_mcall (And.intro @mcp_ow (And.intro @setV_0 (And.intro @setV_s (And.intro @eraV_0 (And.intro @eraV_s (And.intro @getV_0 (And.intro @getV_s (And.intro hasL_t0 (And.intro @mapS (And.intro @go_dcall (And.intro @go_aps_nl (And.intro @go_aps_ow (And.intro @apsq_s (And.intro @go_dcallc (And.intro @snoc_nil (And.intro @snoc_cons (And.intro @go_ocall (And.intro @ocp_s (And.intro @go_clo (And.intro @clop_s (And.intro @okR_fc (And.intro @rd_fc (And.intro @frz_fc (And.intro @okA_fc (And.intro @rl_fc (And.intro @nf_fc (And.intro Bool.true_or (And.intro Bool.or_true (And.intro Bool.false_or (And.intro Bool.or_false (dyn_laws)))))))))))))))))))))))))))))))) := And.intro @go_mcall (And.intro @mcp_ow (And.intro @setV_0 (And.intro @setV_s (And.intro @eraV_0 (And.intro @eraV_s (And.intro @getV_0 (And.intro @getV_s (And.intro hasL_t0 (And.intro @mapS (And.intro @go_dcall (And.intro @go_aps_nl (And.intro @go_aps_ow (And.intro @apsq_s (And.intro @go_dcallc (And.intro @snoc_nil (And.intro @snoc_cons (And.intro @go_ocall (And.intro @ocp_s (And.intro @go_clo (And.intro @clop_s (And.intro @okR_fc (And.intro @rd_fc (And.intro @frz_fc (And.intro @okA_fc (And.intro @rl_fc (And.intro @nf_fc (And.intro Bool.true_or (And.intro Bool.or_true (And.intro Bool.false_or (And.intro Bool.or_false (dyn_laws)))))))))))))))))))))))))))))))
theorem init_eq {args : List V} : initS args = ⟨initE 0 args, [], 0⟩ := rfl
theorem S0 : type_of% (And.intro Sm (And.intro Sg (And.intro Sw (And.intro Sx (And.intro Sb (And.intro (@pure_s2b) (And.intro (@decide_eq_true_eq) (And.intro (@decide_true) (And.intro (@decide_false) (And.intro (@chk_of) (@Int.cast_ofNat_Int))))))))))) :=
  And.intro Sm (And.intro Sg (And.intro Sw (And.intro Sx (And.intro Sb (And.intro (@pure_s2b) (And.intro (@decide_eq_true_eq) (And.intro (@decide_true) (And.intro (@decide_false) (And.intro (@chk_of) (@Int.cast_ofNat_Int))))))))))
end Go.Proofs.Ytdaedplbhpiacaa.Ab
namespace Go.Proofs.Ytdaedplbhpiacaa.Ab
open Go Go.RowKit
set_option linter.unusedSimpArgs false
set_option linter.unusedVariables false
set_option maxHeartbeats 10000000
theorem ownsRow_l {w : World} {B e sz n : Nat} {v : Value} {xs : List Value} {cs : List V} {H : Nat → Prop} (hsz : 0 < sz) (ho : w.ownsRow B e sz v n xs) (hr : RepAll w H xs cs) (hm : n ≤ maxLen) (hH : ∀ b, blk v = some b → H b) : Rep0 w H v (.l sz cs) := by
  have ho' := ho
  rcases ho.2 with ⟨rfl, rfl⟩ | ⟨g, cap, cur, rfl, hb, hh, hnc, hcm, hcs, htake⟩
  · have h0 : cs.length = 0 := by rw [← hr.1, ho.1, Nat.zero_mul]
    exact .l none 0 0 sz cs (fun _ => undef) 0 0 hsz (by rw [h0, Nat.zero_mul]) (Nat.zero_le _) (Nat.le_refl _) (.inl (List.eq_nil_of_length_eq_zero h0)) (fun j hj => by omega) (fun j x hx => by
      have := (List.getElem?_eq_some_iff.1 hx).1; omega)
  · refine .l _ n cap sz cs (fun j => xs.getD j undef) g 0 hsz (by rw [← hr.1, ho.1]) hm hnc (.inr ⟨rfl, hH g rfl⟩) (fun j hj => ?_) (fun j x hx => ?_)
    · have hj' : j < xs.length := by rw [hr.1]; exact hj
      rw [Nat.zero_add, ho'.cellAt j (by rw [← ho.1]; exact hj'), List.getElem?_eq_getElem hj', List.getD_eq_getElem?_getD, List.getElem?_eq_getElem hj']; rfl
    · have hj : j < cs.length := (List.getElem?_eq_some_iff.1 hx).1
      have hj' : j < xs.length := by rw [hr.1]; exact hj
      have := hr.2 j xs[j] x (List.getElem?_eq_getElem hj') hx
      rw [List.getD_eq_getElem?_getD, List.getElem?_eq_getElem hj']; exact this
theorem AFun.frozen {P : Program} {J : World → Prop} {f : FuncId} {args : List V} {e sz : Nat} {cs : List V} (h : AFun P J f args (.o e sz cs)) : AFun P J f args (.l sz cs) := .of0 rfl fun w H vs hJ hT hH hr => by
  refine (h w H vs hJ hT hH hr).mono ?_
  rintro x w' ⟨v, rfl, hb, N, hN, hres⟩
  rcases hres with hres | ⟨e', sz', cs', n, xs, h1, hsz, ho, hra, _, hm, hno⟩ | ⟨r', h, _⟩
  · cases hres
  · cases h1
    refine ⟨v, rfl, hb, fun b => N b ∨ blk v = some b, fun b hb' => ?_, .inl ?_⟩
    · rcases hb' with h2 | h2
      · exact hN b h2
      · rcases ho.2 with ⟨rfl, _⟩ | ⟨g, cap, cur, rfl, hbg, hh, _⟩
        · cases h2
        · cases h2
          exact ⟨hbg, (Array.getElem?_eq_some_iff.1 hh).1⟩
    · exact ownsRow_l hsz ho (hra.mono (fun b h => h.elim .inl fun h => .inr (.inl h)) (fun _ _ => rfl)) hm (fun b h => .inr (.inr h))
  · cases h
end Go.Proofs.Ytdaedplbhpiacaa.Ab
namespace Go.Proofs.Ytdaedplbhpiacaa.Ab
open Go Go.RowKit
set_option linter.unusedVariables false
theorem ai {a b : Prop} (x : a) (y : b) : a ∧ b := ⟨x, y⟩
theorem wkQ {B p q : Prop} (b : B) (k : q) (h : PLift B → PLift q → p := by
  intro bz hq
  repeat first | (refine hK _ ?_; clear hK K) | simp only [Sv, ↓reduceIte, Nat.reduceEqDiff] | ((first | refine vm_reg (fun K hK => ?_) | refine vm_dreg (fun K hK => ?_) | refine vm_dregx (fun K hK => ?_) | refine clp_q ?_ | (apply clq_mk; assumption) | refine mcq_q ?_ | (apply mcr_mk; assumption) | (apply ocr_mk; assumption)); simp (disch := (first | omega | assumption)) only [S1, ↓reduceIte, Nat.reduceEqDiff, Nat.reduceAdd, Nat.reduceMul, Nat.reduceDiv, AOp.sb, AOp.mut, frzf, ↓Bool.false_eq_true, beq_self_eq_true, ite_self, Nat.reduceLeDiff, Int.reduceEq, Int.reduceSub, Int.reduceAdd, Int.reduceNeg, Int.reduceLT, Int.reduceLE, Nat.reduceLT, bz.down])
  exact hq.down) : p := h ⟨b⟩ ⟨k⟩
theorem spQ {B p q : Prop} (b : B) (k : q) (h : PLift B → PLift q → p := by
  intro bz hq
  repeat first | (refine hK _ ?_; clear hK K) | ((first | refine vm_reg (fun K hK => ?_) | refine vm_dreg (fun K hK => ?_) | refine vm_dregx (fun K hK => ?_)); simp (disch := (first | omega | assumption)) only [S1, ↓reduceIte, Nat.reduceEqDiff, Nat.reduceAdd, Nat.reduceMul, Nat.reduceDiv, AOp.sb, AOp.mut, frzf, ↓Bool.false_eq_true, beq_self_eq_true, ite_self, Nat.reduceLeDiff, Int.reduceEq, Int.reduceSub, Int.reduceAdd, Int.reduceNeg, Int.reduceLT, Int.reduceLE, Nat.reduceLT, bz.down]; refine hK _ ?_; clear hK K) | simp only [Sv, ↓reduceIte, Nat.reduceEqDiff]
  exact hq.down) : p := h ⟨b⟩ ⟨k⟩
theorem smQ {B p q : Prop} (b : B) (k : q) (h : PLift B → PLift q → p := by
  intro bz hq
  simp (disch := (first | omega | assumption)) only [S1, ↓reduceIte, Nat.reduceEqDiff, Nat.reduceAdd, Nat.reduceMul, Nat.reduceDiv, AOp.sb, AOp.mut, frzf, ↓Bool.false_eq_true, beq_self_eq_true, ite_self, Nat.reduceLeDiff, Int.reduceEq, Int.reduceSub, Int.reduceAdd, Int.reduceNeg, Int.reduceLT, Int.reduceLE, Nat.reduceLT, bz.down]
  exact hq.down) : p := h ⟨b⟩ ⟨k⟩
theorem wdQ {B p : Prop} (b : B) (h : PLift B → p := by
  intro bz
  repeat first | (refine hK _ ?_; clear hK K) | simp only [Sv, ↓reduceIte, Nat.reduceEqDiff] | ((first | refine vm_reg (fun K hK => ?_) | refine vm_dreg (fun K hK => ?_) | refine vm_dregx (fun K hK => ?_) | refine clp_q ?_ | (apply clq_mk; assumption) | refine mcq_q ?_ | (apply mcr_mk; assumption) | (apply ocr_mk; assumption)); simp (disch := (first | omega | assumption)) only [S1, ↓reduceIte, Nat.reduceEqDiff, Nat.reduceAdd, Nat.reduceMul, Nat.reduceDiv, AOp.sb, AOp.mut, frzf, ↓Bool.false_eq_true, beq_self_eq_true, ite_self, Nat.reduceLeDiff, Int.reduceEq, Int.reduceSub, Int.reduceAdd, Int.reduceNeg, Int.reduceLT, Int.reduceLE, Nat.reduceLT, bz.down])
  simp (disch := (first | omega | assumption)) only [retOk, retN, ret1, retF, ret1F, V.okArg, and_true, true_and, S1, ↓reduceIte, Nat.reduceEqDiff, Nat.reduceAdd, Nat.reduceMul, Nat.reduceDiv, AOp.sb, AOp.mut, frzf, ↓Bool.false_eq_true, beq_self_eq_true, ite_self, Nat.reduceLeDiff, Int.reduceEq, Int.reduceSub, Int.reduceAdd, Int.reduceNeg, Int.reduceLT, Int.reduceLE, Nat.reduceLT, bz.down]) : p := h ⟨b⟩
theorem wdO {B p q : Prop} (b : B) (k : q) (h : PLift B → PLift q → p := by
  intro bz hq
  repeat first | (refine hK _ ?_; clear hK K) | simp only [Sv, ↓reduceIte, Nat.reduceEqDiff] | ((first | refine vm_reg (fun K hK => ?_) | refine vm_dreg (fun K hK => ?_) | refine vm_dregx (fun K hK => ?_) | refine clp_q ?_ | (apply clq_mk; assumption) | refine mcq_q ?_ | (apply mcr_mk; assumption) | (apply ocr_mk; assumption)); simp (disch := (first | omega | assumption)) only [S1, ↓reduceIte, Nat.reduceEqDiff, Nat.reduceAdd, Nat.reduceMul, Nat.reduceDiv, AOp.sb, AOp.mut, frzf, ↓Bool.false_eq_true, beq_self_eq_true, ite_self, Nat.reduceLeDiff, Int.reduceEq, Int.reduceSub, Int.reduceAdd, Int.reduceNeg, Int.reduceLT, Int.reduceLE, Nat.reduceLT, bz.down])
  simp (disch := (first | omega | assumption)) only [retOk, retN, ret1, retF, ret1F, V.okArg, and_true, true_and, S1, ↓reduceIte, Nat.reduceEqDiff, Nat.reduceAdd, Nat.reduceMul, Nat.reduceDiv, AOp.sb, AOp.mut, frzf, ↓Bool.false_eq_true, beq_self_eq_true, ite_self, Nat.reduceLeDiff, Int.reduceEq, Int.reduceSub, Int.reduceAdd, Int.reduceNeg, Int.reduceLT, Int.reduceLE, Nat.reduceLT, bz.down]
  exact hq.down) : p := h ⟨b⟩ ⟨k⟩
theorem pdQ {B p : Prop} (b : B) (h : PLift B → p := by
  intro bz
  repeat first | (refine hK _ ?_; clear hK K) | simp only [Sv, ↓reduceIte, Nat.reduceEqDiff] | ((first | refine vm_reg (fun K hK => ?_) | refine vm_dreg (fun K hK => ?_) | refine vm_dregx (fun K hK => ?_)); simp (disch := (first | omega | assumption)) only [S1, ↓reduceIte, Nat.reduceEqDiff, Nat.reduceAdd, Nat.reduceMul, Nat.reduceDiv, AOp.sb, AOp.mut, frzf, ↓Bool.false_eq_true, beq_self_eq_true, ite_self, Nat.reduceLeDiff, Int.reduceEq, Int.reduceSub, Int.reduceAdd, Int.reduceNeg, Int.reduceLT, Int.reduceLE, Nat.reduceLT, bz.down])
  simp (disch := (first | omega | assumption)) only [retOk, retN, ret1, retF, ret1F, V.okArg, and_true, true_and, S1, ↓reduceIte, Nat.reduceEqDiff, Nat.reduceAdd, Nat.reduceMul, Nat.reduceDiv, AOp.sb, AOp.mut, frzf, ↓Bool.false_eq_true, beq_self_eq_true, ite_self, Nat.reduceLeDiff, Int.reduceEq, Int.reduceSub, Int.reduceAdd, Int.reduceNeg, Int.reduceLT, Int.reduceLE, Nat.reduceLT, bz.down]) : p := h ⟨b⟩
theorem rtQ {B p : Prop} (b : B) (h : PLift B → p := by
  intro bz
  simp (disch := (first | omega | assumption)) only [retOk, retN, ret1, retF, ret1F, V.okArg, and_true, true_and, S1, ↓reduceIte, Nat.reduceEqDiff, Nat.reduceAdd, Nat.reduceMul, Nat.reduceDiv, AOp.sb, AOp.mut, frzf, ↓Bool.false_eq_true, beq_self_eq_true, ite_self, Nat.reduceLeDiff, Int.reduceEq, Int.reduceSub, Int.reduceAdd, Int.reduceNeg, Int.reduceLT, Int.reduceLE, Nat.reduceLT, bz.down]) : p := h ⟨b⟩
theorem rtO {B p q : Prop} (b : B) (k : q) (h : PLift B → PLift q → p := by
  intro bz hq
  simp (disch := (first | omega | assumption)) only [retOk, retN, ret1, retF, ret1F, V.okArg, and_true, true_and, S1, ↓reduceIte, Nat.reduceEqDiff, Nat.reduceAdd, Nat.reduceMul, Nat.reduceDiv, AOp.sb, AOp.mut, frzf, ↓Bool.false_eq_true, beq_self_eq_true, ite_self, Nat.reduceLeDiff, Int.reduceEq, Int.reduceSub, Int.reduceAdd, Int.reduceNeg, Int.reduceLT, Int.reduceLE, Nat.reduceLT, bz.down]
  exact hq.down) : p := h ⟨b⟩ ⟨k⟩
theorem rsQ {B p : Prop} (b : B) (h : PLift B → p := by
  intro bz
  first | rfl | (simp (disch := (first | omega | assumption)) only [S1, ↓reduceIte, Nat.reduceEqDiff, Nat.reduceAdd, Nat.reduceMul, Nat.reduceDiv, AOp.sb, AOp.mut, frzf, ↓Bool.false_eq_true, beq_self_eq_true, ite_self, Nat.reduceLeDiff, Int.reduceEq, Int.reduceSub, Int.reduceAdd, Int.reduceNeg, Int.reduceLT, Int.reduceLE, Nat.reduceLT, bz.down])) : p := h ⟨b⟩
theorem leQ {p : Prop} (h : p := by
  simp (disch := (first | omega | assumption)) only [Sl, Sa, Sw, ↓reduceIte, Nat.reduceEqDiff, Nat.reduceLT, List.all_nil, List.all_cons, Nat.reduceBneDiff, Nat.reduceAdd, bne_iff_ne, ne_eq, reduceCtorEq, not_false_eq_true, not_true_eq_false, Bool.and_true, Bool.true_and, and_true, true_and, and_self]) : p := h
theorem ltQ {p : Prop} (h : p := by
  simp (disch := (first | omega | assumption)) only [Sl, Sa, Sw, ↓reduceIte, Nat.reduceEqDiff, Nat.reduceLT, List.all_nil, List.all_cons, Nat.reduceBneDiff, Nat.reduceAdd, bne_iff_ne, ne_eq, reduceCtorEq, not_false_eq_true, not_true_eq_false, Bool.and_true, Bool.true_and, and_true, true_and, and_self, i_eq]
  repeat' first | rfl | omega | (simp only [List.length_append, List.length_cons, List.length_nil]; done) | apply And.intro) : p := h
theorem lnilA : type_of% (ai (@List.length_nil V) (ai (@List.length_nil Nat) (@List.length_nil UInt8))) := ai (@List.length_nil V) (ai (@List.length_nil Nat) (@List.length_nil UInt8))
theorem lconsA : type_of% (ai (@List.length_cons V) (ai (@List.length_cons Nat) (@List.length_cons UInt8))) := ai (@List.length_cons V) (ai (@List.length_cons Nat) (@List.length_cons UInt8))
theorem nappA : type_of% (ai (@List.nil_append V) (ai (@List.nil_append Nat) (@List.nil_append UInt8))) := ai (@List.nil_append V) (ai (@List.nil_append Nat) (@List.nil_append UInt8))
theorem eqsA : (∀ a : Int, (a = a) = True) ∧ (∀ a : Nat, (a = a) = True) ∧ (∀ a : List UInt8, (a = a) = True) ∧ (∀ a : Bool, (a = a) = True) := ⟨fun a => eq_self a, fun a => eq_self a, fun a => eq_self a, fun a => eq_self a⟩
theorem neqA : (∀ a b : Int, (a ≠ b) = ¬(a = b)) ∧ (∀ a b : Nat, (a ≠ b) = ¬(a = b)) ∧ (∀ a b : Bool, (a ≠ b) = ¬(a = b)) := ⟨fun a b => rfl, fun a b => rfl, fun a b => rfl⟩
def qm (d s : Nat) : AO := ⟨some d, none, .mv (.t s)⟩
def qr (d : Nat) (o : AOp) : AO := ⟨some d, none, o⟩
def qn (o : AOp) : AO := ⟨none, none, o⟩
theorem mkQ {P : Program} {J : World → Prop} (hfol : P.follows .mixedOrders = true) (hJs : ∀ w e w', J w → BelE w e w' → J w') {f : FuncId} {fn : Func} {c : Code} {ts : List Nat} {args : List V} {r : V} (hf : P.funcs[f]? = some fn) (ac : AC)
    (k : vm (AFun P J) (XFun P) [.c ac] (fun e s => match e with | .normal => retOk s ts r | .ret => retOk s ts r | .exit _ => False) (initS args))
    (hb : fn.body = some c := by rfl) (hc : cCode P fn.ntmps c = some ac := by kernel_rfl) (hts : resSlots fn.results.toList = some ts := by rfl) (hn' : Nat.ble args.length fn.ntmps = true := by rfl) (hmu : r.isMu = false := by rfl) : AFun P J f args r :=
  AFun.mk hfol hJs hf hb hc hts hn' hmu (vm_start k)
end Go.Proofs.Ytdaedplbhpiacaa.Ab
