/-
  The abstract layer: regions whose order is open. First: what an operation gives hangs on its operands alone.
-/
import Derived.Test.YtngohbpgdeiodaaAb8
namespace Go.Proofs.Ytngohbpgdeiodaa.Ab
set_option linter.unusedSimpArgs false
set_option linter.unusedVariables false
open Go Go.RowKit

def AOp.xs : AOp → List X
  | .mv x | .un _ x | .cvt _ x | .ld _ _ x | .fad _ x | .fld _ _ _ x | .len x | .slen x | .ext x _ | .nc x | .isn _ x | .bx _ x => [x]
  | .pick c a b => [c, a, b]
  | .bin _ x y | .eqb _ x y | .six x y | .idx _ x y | .st _ x y | .mk _ _ _ _ x y | .app _ _ _ x y | .mm _ x y | .cpy _ x y => [x, y]
  | .bld _ ps => ps.map (·.2.2)
  | .bsl _ _ _ _ ps => ps.map (·.2)
  | .sub _ x lo hi | .ssub x lo hi => x :: (lo.toList ++ hi.toList)
  | .al _ _ | .bad => []
  | .call _ args => args.map (·.2)
  | .xcall _ args => args
  | .pur _ xs => xs

/-- It looks at objects, or makes some. -/
def AOp.tou : AOp → Bool
  | .ld .. | .st .. | .bld .. | .bsl .. | .mk .. | .app .. | .al .. | .call .. | .isn .. | .bx .. | .pur .. | .cpy .. | .bad => true
  | _ => false
/-- What it gives is fixed. -/
def AOp.det : AOp → Bool
  | .isn .. => false
  | _ => true
/-- It turns objects that are there. -/
def AOp.mut : AOp → Bool
  | .st .. | .app .. | .cpy .. => true
  | _ => false

def V.ref : V → Option Nat
  | .ow _ j _ | .sl _ j _ _ | .pt j _ => some j
  | _ => none

section congr
variable {ρ ρ' : X → V} {ob ob' : Nat → Option Ob}
theorem rd_congr {v : V} (h : ∀ j, v.ref = some j → ob j = ob' j) (sz : Nat) : rd ob sz v = rd ob' sz v := by
  cases v <;> simp only [rd] <;> (rw [h _ rfl])
theorem rdb_congr {v : V} (h : ∀ j, v.ref = some j → ob j = ob' j) (n : Bool) (sz : Nat) : rdb n ob sz v = rdb n ob' sz v := by
  unfold rdb
  split
  · rfl
  · exact rd_congr h sz
theorem asSl_ref {v : V} {s j off n : Nat} (h : asSl v = .sl s j off n) : v.ref = some j := by
  cases v <;> simp only [asSl] at h <;> cases h <;> rfl
theorem okR_congr {v : V} (h : ∀ j, v.ref = some j → ob j = ob' j) : okR ob v = okR ob' v := by
  cases v <;> simp only [okR] <;> (rw [h _ rfl])
theorem frz_congr {v : V} (h : ∀ j, v.ref = some j → ob j = ob' j) : frz ob v = frz ob' v := by
  cases v <;> simp only [frz] <;> (rw [h _ rfl])
theorem okRs_congr : ∀ {vs : List V}, (∀ v, v ∈ vs → ∀ j, v.ref = some j → ob j = ob' j) → okRs ob vs = okRs ob' vs
  | [], _ => rfl
  | v :: r, h => by simp only [okRs]; rw [okR_congr (h v List.mem_cons_self), okRs_congr fun u hu => h u (List.mem_cons_of_mem _ hu)]
theorem all_congr {α : Type} {l : List α} {p q : α → Bool} (h : ∀ x, x ∈ l → p x = q x) : l.all p = l.all q := by
  induction l with
  | nil => rfl
  | cons x r ih => simp only [List.all_cons]; rw [h x List.mem_cons_self, ih fun y hy => h y (List.mem_cons_of_mem _ hy)]
theorem flatMap_congr' {α β : Type} {l : List α} {p q : α → List β} (h : ∀ x, x ∈ l → p x = q x) : l.flatMap p = l.flatMap q := by
  induction l with
  | nil => rfl
  | cons x r ih => simp only [List.flatMap_cons]; rw [h x List.mem_cons_self, ih fun y hy => h y (List.mem_cons_of_mem _ hy)]

theorem ev_congr {F G : Nat → List V → V → Prop} {id : Nat} {K : V → List (Nat × Option Ob) → Prop} {o : AOp} (h : ∀ x, x ∈ o.xs → ρ x = ρ' x) (ho : o.tou = true → ∀ x, x ∈ o.xs → ∀ j, (ρ x).ref = some j → ob j = ob' j)
    (hv : ev F G ρ ob id K o) : ev F G ρ' ob' id K o := by
  have h2 : ∀ x y : X, (∀ z, z ∈ [x, y] → ρ z = ρ' z) → ρ x = ρ' x ∧ ρ y = ρ' y := fun x y h => ⟨h x (by simp), h y (by simp)⟩
  cases o <;> simp only [AOp.xs] at h ho
  case mv x => simp only [ev] at hv ⊢; rw [← h x (by simp)]; exact hv
  case un op x => simp only [ev] at hv ⊢; rw [← h x (by simp)]; exact hv
  case cvt k x => simp only [ev] at hv ⊢; rw [← h x (by simp)]; exact hv
  case fad k x => simp only [ev] at hv ⊢; rw [← h x (by simp)]; exact hv
  case fld a b c x => simp only [ev] at hv ⊢; rw [← h x (by simp)]; exact hv
  case len x => simp only [ev] at hv ⊢; rw [← h x (by simp)]; exact hv
  case slen x => simp only [ev] at hv ⊢; rw [← h x (by simp)]; exact hv
  case ext x i => simp only [ev] at hv ⊢; rw [← h x (by simp)]; exact hv
  case nc x => simp only [ev] at hv ⊢; rw [← h x (by simp)]; exact hv
  case isn n x => simp only [ev] at hv ⊢; rw [← h x (by simp)]; exact hv
  case pick c x y => simp only [ev] at hv ⊢; rw [← h c (by simp), ← h x (by simp), ← h y (by simp)]; exact hv
  case bin op x y => simp only [ev] at hv ⊢; rw [← (h2 x y h).1, ← (h2 x y h).2]; exact hv
  case eqb n x y => simp only [ev] at hv ⊢; rw [← (h2 x y h).1, ← (h2 x y h).2]; exact hv
  case six x y => simp only [ev] at hv ⊢; rw [← (h2 x y h).1, ← (h2 x y h).2]; exact hv
  case idx n x y => simp only [ev] at hv ⊢; rw [← (h2 x y h).1, ← (h2 x y h).2]; exact hv
  case mm n x y => simp only [ev] at hv ⊢; rw [← (h2 x y h).1, ← (h2 x y h).2]; exact hv
  case mk e sz b z x y => simp only [ev] at hv ⊢; rw [← (h2 x y h).1, ← (h2 x y h).2]; exact hv
  case al e z => exact hv
  case bx e x =>
    simp only [ev] at hv ⊢
    have hx := ho rfl x (by simp)
    rw [← h x (by simp), ← rd_congr hx, ← okR_congr hx, ← frz_congr hx]; exact hv
  case pur p xs =>
    simp only [ev] at hv ⊢
    have e : ∀ x, x ∈ xs → ρ' x = ρ x := fun x hx => (h x hx).symm
    have r : ∀ x, x ∈ xs → ∀ j, (ρ x).ref = some j → ob j = ob' j := fun x hx => ho rfl x hx
    rw [show xs.map ρ' = xs.map ρ from List.map_congr_left e,
      show (xs.map fun x => rd ob' 1 (ρ' x)) = xs.map fun x => rd ob 1 (ρ x) from List.map_congr_left fun x hx => by rw [e x hx, rd_congr (r x hx)],
      ← okRs_congr (ob := ob) (vs := xs.map ρ) fun v hv => by obtain ⟨x, hx, rfl⟩ := List.mem_map.1 hv; exact r x hx]
    exact hv
  case xcall f args => simp only [ev] at hv ⊢; rw [← List.map_congr_left h]; exact hv
  case ld ag n p =>
    simp only [ev] at hv ⊢
    rw [← h p (by simp)]
    have hj := ho rfl p (by simp)
    cases hp : ρ p <;> rw [hp] at hv hj <;> (try simp only [] at hv ⊢) <;> try exact hv
    rw [← hj _ rfl]; exact hv
  case st n p x =>
    simp only [ev] at hv ⊢
    rw [← (h2 p x h).1, ← (h2 p x h).2]
    have hj := ho rfl p (by simp)
    have hx := ho rfl x (by simp)
    rw [← rd_congr hx, ← okR_congr hx, ← frz_congr hx]
    cases hp : ρ p <;> rw [hp] at hv hj <;> (try simp only [] at hv ⊢) <;> try exact hv
    rw [← hj _ rfl]; exact hv
  case bld z ps =>
    simp only [ev] at hv ⊢
    have e : ∀ p, p ∈ ps → ρ' p.2.2 = ρ p.2.2 := fun p hp => (h _ (List.mem_map.2 ⟨p, hp, rfl⟩)).symm
    have r : ∀ p, p ∈ ps → ∀ j, (ρ p.2.2).ref = some j → ob j = ob' j := fun p hp => ho rfl _ (List.mem_map.2 ⟨p, hp, rfl⟩)
    rw [show (ps.map fun p => ρ' p.2.2) = ps.map fun p => ρ p.2.2 from List.map_congr_left e,
      show (ps.map fun p => (p.1, (rd ob' 1 (ρ' p.2.2)).cells)) = ps.map fun p => (p.1, (rd ob 1 (ρ p.2.2)).cells) from List.map_congr_left fun p hp => by rw [e p hp, rd_congr (r p hp)],
      show (ps.all fun p => (rd ob' 1 (ρ' p.2.2)).cells.length == p.2.1) = ps.all fun p => (rd ob 1 (ρ p.2.2)).cells.length == p.2.1 from all_congr fun p hp => by rw [e p hp, rd_congr (r p hp)],
      show (ps.flatMap fun p => frz ob' (ρ' p.2.2)) = ps.flatMap fun p => frz ob (ρ p.2.2) from flatMap_congr' fun p hp => by rw [e p hp, frz_congr (r p hp)],
      ← okRs_congr (ob := ob) (vs := ps.map fun p => ρ p.2.2) fun v hv => by obtain ⟨p, hp, rfl⟩ := List.mem_map.1 hv; exact r p hp]
    exact hv
  case bsl e0 sz n z ps =>
    simp only [ev] at hv ⊢
    have e : ∀ p, p ∈ ps → ρ' p.2 = ρ p.2 := fun p hp => (h _ (List.mem_map.2 ⟨p, hp, rfl⟩)).symm
    have r : ∀ p, p ∈ ps → ∀ j, (ρ p.2).ref = some j → ob j = ob' j := fun p hp => ho rfl _ (List.mem_map.2 ⟨p, hp, rfl⟩)
    rw [show (ps.map fun p => ρ' p.2) = ps.map fun p => ρ p.2 from List.map_congr_left e,
      show (ps.map fun p => (p.1 * sz, (rd ob' 1 (ρ' p.2)).cells)) = ps.map fun p => (p.1 * sz, (rd ob 1 (ρ p.2)).cells) from List.map_congr_left fun p hp => by rw [e p hp, rd_congr (r p hp)],
      show (ps.all fun p => (rd ob' 1 (ρ' p.2)).cells.length == sz) = ps.all fun p => (rd ob 1 (ρ p.2)).cells.length == sz from all_congr fun p hp => by rw [e p hp, rd_congr (r p hp)],
      show (ps.flatMap fun p => frz ob' (ρ' p.2)) = ps.flatMap fun p => frz ob (ρ p.2) from flatMap_congr' fun p hp => by rw [e p hp, frz_congr (r p hp)],
      ← okRs_congr (ob := ob) (vs := ps.map fun p => ρ p.2) fun v hv => by obtain ⟨p, hp, rfl⟩ := List.mem_map.1 hv; exact r p hp]
    exact hv
  case call f ps =>
    simp only [ev] at hv ⊢
    have e : ∀ p, p ∈ ps → ρ' p.2 = ρ p.2 := fun p hp => (h _ (List.mem_map.2 ⟨p, hp, rfl⟩)).symm
    have r : ∀ p, p ∈ ps → ∀ j, (ρ p.2).ref = some j → ob j = ob' j := fun p hp => ho rfl _ (List.mem_map.2 ⟨p, hp, rfl⟩)
    have key : ∀ n, (ps.map fun p => rdb n ob' p.1 (ρ' p.2)) = ps.map fun p => rdb n ob p.1 (ρ p.2) := fun n => List.map_congr_left fun p hp => by rw [e p hp, rdb_congr (r p hp)]
    simp only [key]
    rw [show (ps.map fun p => ρ' p.2) = ps.map fun p => ρ p.2 from List.map_congr_left e,
      show (ps.all fun p => (rd ob' p.1 (ρ' p.2)).okArg) = ps.all fun p => (rd ob p.1 (ρ p.2)).okArg from all_congr fun p hp => by rw [e p hp, rd_congr (r p hp)],
      show (ps.flatMap fun p => frz ob' (ρ' p.2)) = ps.flatMap fun p => frz ob (ρ p.2) from flatMap_congr' fun p hp => by rw [e p hp, frz_congr (r p hp)],
      ← okRs_congr (ob := ob) (vs := ps.map fun p => ρ p.2) fun v hv => by obtain ⟨p, hp, rfl⟩ := List.mem_map.1 hv; exact r p hp]
    exact hv
  case bad => exact hv
  case cpy sz s x =>
    simp only [ev] at hv ⊢
    rw [← (h2 s x h).1, ← (h2 s x h).2]
    have hj := ho rfl s (by simp)
    have hx := ho rfl x (by simp)
    rw [← rd_congr hx, ← okR_congr hx]
    cases hp : asSl (ρ s) <;> rw [hp] at hv <;> (try exact hv) <;> (cases hr : rd ob sz (ρ x) <;> rw [hr] at hv <;> (try exact hv))
    simp only [] at hv ⊢
    rw [← hj _ (asSl_ref hp)]; exact hv
  case app e sz b s x =>
    simp only [ev] at hv ⊢
    rw [← (h2 s x h).1, ← (h2 s x h).2]
    have hj := ho rfl s (by simp)
    have hx := ho rfl x (by simp)
    rw [← rd_congr hx, ← okR_congr hx]
    cases hp : ρ s <;> rw [hp] at hv hj <;> (try exact hv) <;> (cases hr : rd ob sz (ρ x) <;> rw [hr] at hv <;> (try exact hv))
    simp only [] at hv ⊢
    rw [← hj _ rfl]; exact hv
  case sub sz x lo hi =>
    have e1 : lo.map ρ' = lo.map ρ := by cases lo <;> simp at h ⊢; exact (h.2.1).symm
    have e2 : hi.map ρ' = hi.map ρ := by cases hi <;> simp at h ⊢; exact (h.2 _ (.inr rfl)).symm
    simp only [ev] at hv ⊢
    rw [e1, e2, ← h x (by simp)]; exact hv
  case ssub x lo hi =>
    have e1 : lo.map ρ' = lo.map ρ := by cases lo <;> simp at h ⊢; exact (h.2.1).symm
    have e2 : hi.map ρ' = hi.map ρ := by cases hi <;> simp at h ⊢; exact (h.2 _ (.inr rfl)).symm
    simp only [ev] at hv ⊢
    rw [e1, e2, ← h x (by simp)]; exact hv

theorem bi_split {op : BinOp} {k k' : IntKind} {a b : Int} {R : V → Prop} (h : bi op k a k' b R) : ∃ v, R v ∧ bi op k a k' b (fun v' => v' = v) := by
  cases op <;> simp only [bi] at h ⊢ <;> exact ⟨_, h.2, h.1, rfl⟩
theorem bs_split {op : BinOp} {a b : List UInt8} {R : V → Prop} (h : bs op a b R) : ∃ v, R v ∧ bs op a b (fun v' => v' = v) := by
  cases op <;> simp only [bs] at h ⊢ <;> first | exact ⟨_, h.2, h.1, rfl⟩ | exact ⟨_, h, rfl⟩ | exact h.elim

theorem ev_split {F G : Nat → List V → V → Prop} {ρ : X → V} {ob : Nat → Option Ob} {id : Nat} {K : V → List (Nat × Option Ob) → Prop} {o : AOp} (hd : o.det = true) (h : ev F G ρ ob id K o) :
    ∃ v up, K v up ∧ ev F G ρ ob id (fun v' up' => v' = v ∧ up' = up) o := by
  have c1 : ∀ {p : Prop} {v : V} {up : List (Nat × Option Ob)}, chk p (K v up) → ∃ v' up', K v' up' ∧ chk p (v = v' ∧ up = up') := fun h => ⟨_, _, h.2, h.1, rfl, rfl⟩
  cases o
  case isn n x => cases hd
  case mv x => exact ⟨_, _, h, rfl, rfl⟩
  case al e z => exact ⟨_, _, h, rfl, rfl⟩
  case bx e x => exact c1 h
  case pur p xs =>
    simp only [ev] at h ⊢
    obtain ⟨h0, h1⟩ := h
    cases hp : pureV p (xs.map fun x => rd ob 1 (ρ x)) with
    | none => rw [hp] at h1; exact h1.elim
    | some v => rw [hp] at h1; exact ⟨v, [], h1, h0, rfl, rfl⟩
  case bld z ps => exact c1 h
  case bsl e sz n z ps => exact c1 h
  case xcall f args => obtain ⟨r, h1, h2⟩ := h; exact ⟨_, _, h2, r, h1, rfl, rfl⟩
  case pick c x y =>
    simp only [ev] at h ⊢
    cases hc : ρ c <;> rw [hc] at h <;> (try exact h.elim)
    case b t =>
      cases t
      · exact ⟨_, _, h.2 rfl, cnd_mk (fun e => by cases e) (fun _ => ⟨rfl, rfl⟩)⟩
      · exact ⟨_, _, h.1 rfl, cnd_mk (fun _ => ⟨rfl, rfl⟩) (fun e => by cases e)⟩
  case bin op x y =>
    simp only [ev] at h ⊢
    cases hx : ρ x <;> rw [hx] at h <;> (try exact h.elim)
    case i k n =>
      cases hy : ρ y <;> rw [hy] at h <;> (try exact h.elim)
      case i k' m =>
        obtain ⟨v, h1, h2⟩ := bi_split h
        refine ⟨v, [], h1, ?_⟩
        have : (fun v' => v' = v) = fun v' => v' = v ∧ ([] : List (Nat × Option Ob)) = [] := by funext v'; simp
        show bi op k n k' m _
        rw [← this]; exact h2
    case s l =>
      cases hy : ρ y <;> rw [hy] at h <;> (try exact h.elim)
      case s l' =>
        obtain ⟨v, h1, h2⟩ := bs_split h
        refine ⟨v, [], h1, ?_⟩
        have : (fun v' => v' = v) = fun v' => v' = v ∧ ([] : List (Nat × Option Ob)) = [] := by funext v'; simp
        show bs op l l' _
        rw [← this]; exact h2
  case eqb neg x y =>
    simp only [ev] at h ⊢
    cases hx : ρ x <;> rw [hx] at h <;> (try exact h.elim)
    cases hy : ρ y <;> rw [hy] at h <;> (try exact h.elim)
    exact ⟨_, _, h, rfl, rfl⟩
  case un op x =>
    simp only [ev] at h ⊢
    cases op <;> cases hx : ρ x <;> rw [hx] at h <;> first | exact h.elim | exact ⟨_, _, h, rfl, rfl⟩
  case cvt k x =>
    simp only [ev] at h ⊢
    cases hx : ρ x <;> rw [hx] at h <;> first | exact h.elim | exact ⟨_, _, h, rfl, rfl⟩
  case six x y =>
    simp only [ev] at h ⊢
    cases hx : ρ x <;> rw [hx] at h <;> (try exact h.elim)
    cases hy : ρ y <;> rw [hy] at h <;> (try exact h.elim)
    exact c1 h
  case idx sz x y =>
    simp only [ev] at h ⊢
    cases hx : ρ x <;> rw [hx] at h <;> (try exact h.elim)
    all_goals
      cases hy : ρ y <;> rw [hy] at h <;> (try exact h.elim)
      exact c1 h
  case ld ag n p =>
    simp only [ev] at h ⊢
    cases hx : ρ p <;> rw [hx] at h <;> (try exact h.elim)
    · cases ag <;> exact c1 h
    · rename_i j k
      simp only [] at h ⊢
      cases hj : ob j <;> rw [hj] at h <;> (try exact h.elim)
      cases ag <;> exact c1 h
  case st n p x =>
    simp only [ev] at h ⊢
    cases hx : ρ p <;> rw [hx] at h <;> (try exact h.elim)
    rename_i j k
    simp only [] at h ⊢
    cases hj : ob j <;> rw [hj] at h <;> (try exact h.elim)
    exact c1 h
  case fad off p =>
    simp only [ev] at h ⊢
    cases hx : ρ p <;> rw [hx] at h <;> first | exact h.elim | exact ⟨_, _, h, rfl, rfl⟩
  case fld ag off n x =>
    simp only [ev] at h ⊢
    cases hx : ρ x <;> rw [hx] at h <;> (try exact h.elim)
    cases ag <;> exact c1 h
  case mk e sz b z x y =>
    simp only [ev] at h ⊢
    cases hx : ρ x <;> rw [hx] at h <;> (try exact h.elim)
    cases hy : ρ y <;> rw [hy] at h <;> (try exact h.elim)
    exact c1 h
  case sub sz x lo hi =>
    simp only [ev] at h ⊢
    cases hx : ρ x <;> rw [hx] at h <;> (try exact h.elim)
    all_goals
      simp only [] at h ⊢
      cases hl : lo.map ρ <;> cases hh : hi.map ρ <;> rw [hl, hh] at h <;> (try simp only [] at h ⊢)
      all_goals first
        | exact c1 h
        | exact ⟨_, _, h, rfl, rfl⟩
        | (rename_i v; cases v <;> first | exact h.elim | exact c1 h)
        | (rename_i v v'; cases v <;> cases v' <;> first | exact h.elim | exact c1 h)
  case ssub x lo hi =>
    simp only [ev] at h ⊢
    cases hx : ρ x <;> rw [hx] at h <;> (try exact h.elim)
    all_goals
      simp only [] at h ⊢
      cases hl : lo.map ρ <;> cases hh : hi.map ρ <;> rw [hl, hh] at h <;> (try simp only [] at h ⊢)
      all_goals first
        | exact c1 h
        | exact ⟨_, _, h, rfl, rfl⟩
        | (rename_i v; cases v <;> first | exact h.elim | exact c1 h)
        | (rename_i v v'; cases v <;> cases v' <;> first | exact h.elim | exact c1 h)
  case len x =>
    simp only [ev] at h ⊢
    cases hx : ρ x <;> rw [hx] at h <;> first | exact h.elim | exact ⟨_, _, h, rfl, rfl⟩
  case slen x =>
    simp only [ev] at h ⊢
    cases hx : ρ x <;> rw [hx] at h <;> first | exact h.elim | exact ⟨_, _, h, rfl, rfl⟩
  case nc x =>
    simp only [ev] at h ⊢
    cases hx : ρ x <;> rw [hx] at h <;> first | exact h.elim | exact ⟨_, _, h, rfl, rfl⟩
  case ext x i =>
    simp only [ev] at h ⊢
    cases hx : ρ x <;> rw [hx] at h <;> first | exact h.elim | exact c1 h
  case mm m x y =>
    simp only [ev] at h ⊢
    cases hx : ρ x <;> rw [hx] at h <;> (try exact h.elim)
    cases hy : ρ y <;> rw [hy] at h <;> (try exact h.elim)
    exact c1 h
  case app e sz b s x =>
    simp only [ev] at h ⊢
    cases hx : ρ s <;> rw [hx] at h <;> (try exact h.elim)
    · rename_i a j m
      cases hy : rd ob sz (ρ x) <;> rw [hy] at h <;> (try exact h.elim)
      simp only [] at h ⊢
      cases hj : ob j <;> rw [hj] at h <;> (try exact h.elim)
      exact c1 h
    · cases hy : rd ob sz (ρ x) <;> rw [hy] at h <;> (try exact h.elim)
      exact c1 h
  case call f args =>
    simp only [ev] at h ⊢
    obtain ⟨h0, n, r, h1, h2⟩ := h
    cases r
    case o e sz cs => exact ⟨_, _, h2.2, h0, n, .o e sz cs, h1, h2.1, rfl, rfl⟩
    all_goals exact ⟨_, _, h2, h0, n, _, h1, rfl, rfl⟩
  case bad => exact h.elim
  case cpy sz s x =>
    simp only [ev] at h ⊢
    cases hx : asSl (ρ s) <;> rw [hx] at h <;> (try exact h.elim)
    rename_i a j off m
    cases hy : rd ob sz (ρ x) <;> rw [hy] at h <;> (try exact h.elim)
    simp only [] at h ⊢
    cases hj : ob j <;> rw [hj] at h <;> (try exact h.elim)
    exact c1 h

end congr
end Go.Proofs.Ytngohbpgdeiodaa.Ab
