/-
  An abstract layer over the model: values without memory. A slice that nobody will write reads as a list ('V.l'); a slice or a variable of the call's own is an object with a number ('V.ow', 'V.sl', 'V.pt').
  This text: the values, what a concrete value has to do with an abstract one ('Rep'), objects, and that all of it stays while the world grows.
-/
import Derived.WalkKit
import Derived.Orders
namespace Go.Proofs.Ytngohbpgdeiodaa.Ab
set_option linter.unusedSimpArgs false
set_option linter.unusedVariables false
open Go Go.RowKit

inductive V where
  | i (k : IntKind) (n : Int)
  | b (x : Bool)
  | s (l : List UInt8)
  | l (sz : Nat) (cs : List V)
  | o (e sz : Nat) (cs : List V)
  | g (cs : List V)
  | t (vs : List V)
  | ip (cs : List V) (k : Nat)
  | ow (sz id n : Nat)
  | sl (sz id off n : Nat)
  | pt (id off : Nat)
  | nl
  | c (v : Value)
  | un
  | any
  | fr (x : V)
  deriving Inhabited

/-- One cell of memory holds it, and it speaks of no object. -/
def V.cell : V → Bool
  | .i _ _ | .b _ | .s _ | .l _ _ => true
  | .c v => v.oneCell'
  | _ => false

/-- Lists in it? -/
def V.hasL : V → Bool
  | .i _ _ | .b _ | .s _ | .c _ | .un | .any | .nl => false
  | .o _ _ cs => cs.any fun x => match x with | .i _ _ | .b _ | .s _ => false | _ => true
  | .g cs => cs.any fun x => match x with | .i _ _ | .b _ | .s _ => false | _ => true
  | .t cs => cs.any fun x => match x with | .i _ _ | .b _ | .s _ => false | _ => true
  | _ => true

def blk : Value → Option Nat
  | .slice (some a) _ _ => some a.block
  | .pointer (some a) => some a.block
  | _ => none

/-- What a concrete value reads as, where no object of the call's own is spoken of. -/
inductive Rep0 (w : World) (H : Nat → Prop) : Value → V → Prop
  | i (k : IntKind) (n : Int) : Rep0 w H (.int k n) (.i k n)
  | b (x : Bool) : Rep0 w H (.bool x) (.b x)
  | s (l : List UInt8) : Rep0 w H (.string ⟨l.toArray⟩) (.s l)
  | l (a : Option Addr) (n cap sz : Nat) (cs : List V) (f : Nat → Value) (b o : Nat) (hsz : 0 < sz) (hn : cs.length = n * sz) (hm : n ≤ maxLen) (hcp : n ≤ cap)
      (ha : cs = [] ∨ (a = some ⟨b, o, none⟩ ∧ H b)) (hc : ∀ j, j < cs.length → w.cell? ⟨b, o + j, none⟩ = some (f j)) (hr : ∀ (j : Nat) (x : V), cs[j]? = some x → Rep0 w H (f j) x) :
      Rep0 w H (.slice a n cap) (.l sz cs)
  | g (vs : List Value) (cs : List V) (hn : vs.length = cs.length) (hr : ∀ (j : Nat) (v : Value) (x : V), vs[j]? = some v → cs[j]? = some x → Rep0 w H v x) : Rep0 w H (.agg vs.toArray) (.g cs)
  | t (vs : List Value) (cs : List V) (hn : vs.length = cs.length) (hr : ∀ (j : Nat) (v : Value) (x : V), vs[j]? = some v → cs[j]? = some x → Rep0 w H v x) : Rep0 w H (.tuple vs.toArray) (.t cs)
  | ip (cs : List V) (k : Nat) (f : Nat → Value) (b o : Nat) (hb : H b) (hc : ∀ j, j < cs.length → w.cell? ⟨b, o + j, none⟩ = some (f j)) (hr : ∀ (j : Nat) (x : V), cs[j]? = some x → Rep0 w H (f j) x) :
      Rep0 w H (.pointer (some ⟨b, o + k, none⟩)) (.ip cs k)
  | nl : Rep0 w H (.slice none 0 0) .nl
  | c (v : Value) : Rep0 w H v (.c v)
  | un : Rep0 w H undef .un
  | any (v : Value) : Rep0 w H v .any

inductive Rep (w : World) (H : Nat → Prop) (ov : Nat → Option Value) : Value → V → Prop
  | base {v : Value} {x : V} (h : Rep0 w H v x) : Rep w H ov v x
  | ow (sz id n cap : Nat) (a : Option Addr) (hm : n ≤ maxLen) (hcp : n ≤ cap) (ha : n = 0 ∨ ∃ b, a = some ⟨b, 0, none⟩) (ho : ov id = some (.slice a n cap)) : Rep w H ov (.slice a n cap) (.ow sz id n)
  | sl (a : Option Addr) (sz id off n cap : Nat) (v : Value) (hm : n ≤ maxLen) (hcp : n ≤ cap) (ho : ov id = some v) (ha : n = 0 ∨ ∃ b, blk v = some b ∧ a = some ⟨b, off, none⟩) : Rep w H ov (.slice a n cap) (.sl sz id off n)
  | pt (id off b : Nat) (v : Value) (ho : ov id = some v) (hb : blk v = some b) : Rep w H ov (.pointer (some ⟨b, off, none⟩)) (.pt id off)

/-- The world grows: what is immutable stays, objects keep their values. -/
structure Ext (w : World) (H : Nat → Prop) (ov : Nat → Option Value) (w' : World) (H' : Nat → Prop) (ov' : Nat → Option Value) : Prop where
  hH : ∀ b, H b → H' b
  hw : ∀ b, H b → w'.heap[b]? = w.heap[b]?
  ho : ∀ i v, ov i = some v → ov' i = some v

theorem Ext.refl (w : World) (H : Nat → Prop) (ov : Nat → Option Value) : Ext w H ov w H ov := ⟨fun _ h => h, fun _ _ => rfl, fun _ _ h => h⟩
theorem Ext.trans {w w1 w2 : World} {H H1 H2 : Nat → Prop} {ov ov1 ov2 : Nat → Option Value} (h : Ext w H ov w1 H1 ov1) (k : Ext w1 H1 ov1 w2 H2 ov2) : Ext w H ov w2 H2 ov2 :=
  ⟨fun b hb => k.hH b (h.hH b hb), fun b hb => (k.hw b (h.hH b hb)).trans (h.hw b hb), fun i v hi => k.ho i v (h.ho i v hi)⟩

theorem Rep0.mono {w w' : World} {H H' : Nat → Prop} (eH : ∀ b, H b → H' b) (ew : ∀ b, H b → w'.heap[b]? = w.heap[b]?) {v : Value} {x : V} (h : Rep0 w H v x) : Rep0 w' H' v x := by
  induction h with
  | i k n => exact .i k n
  | b x => exact .b x
  | s l => exact .s l
  | l a n cap sz cs f b o hsz hn hm hcp ha hc hr ih =>
    refine .l a n cap sz cs f b o hsz hn hm hcp (ha.imp id fun h => ⟨h.1, eH _ h.2⟩) (fun j hj => ?_) (fun j x hx => ih j x hx)
    rcases ha with rfl | ⟨rfl, hb⟩
    · simp at hj
    · exact (World.cell?_of_block (a := ⟨b, o + j, none⟩) (ew b hb)).trans (hc j hj)
  | g vs cs hn hr ih => exact .g vs cs hn fun j v x h1 h2 => ih j v x h1 h2
  | t vs cs hn hr ih => exact .t vs cs hn fun j v x h1 h2 => ih j v x h1 h2
  | ip cs k f b o hb hc hr ih =>
    exact .ip cs k f b o (eH _ hb) (fun j hj => (World.cell?_of_block (a := ⟨b, o + j, none⟩) (ew b hb)).trans (hc j hj)) fun j x hx => ih j x hx
  | nl => exact .nl
  | c v => exact .c v
  | un => exact .un
  | any v => exact .any v

theorem Rep.mono {w w' : World} {H H' : Nat → Prop} {ov ov' : Nat → Option Value} (e : Ext w H ov w' H' ov') {v : Value} {x : V} (h : Rep w H ov v x) : Rep w' H' ov' v x := by
  cases h with
  | base h => exact .base (h.mono e.hH e.hw)
  | ow sz id n cap a hm hcp ha ho => exact .ow sz id n cap a hm hcp ha (e.ho _ _ ho)
  | sl a sz id off n cap v hm hcp ho ha => exact .sl a sz id off n cap v hm hcp (e.ho _ _ ho) ha
  | pt id off b v ho hb => exact .pt id off b v (e.ho _ _ ho) hb

section
variable {w : World} {H : Nat → Prop} {ov : Nat → Option Value}
theorem Rep.i (k : IntKind) (n : Int) : Rep w H ov (.int k n) (.i k n) := .base (.i k n)
theorem Rep.b (x : Bool) : Rep w H ov (.bool x) (.b x) := .base (.b x)
theorem Rep.s (l : List UInt8) : Rep w H ov (.string ⟨l.toArray⟩) (.s l) := .base (.s l)
theorem Rep.nl : Rep w H ov (.slice none 0 0) .nl := .base .nl
theorem Rep.any (v : Value) : Rep w H ov v .any := .base (.any v)
theorem Rep.un : Rep w H ov undef .un := .base .un
theorem Rep.up {v : Value} {x : V} (h : Rep0 w H v x) : Rep w H ov v x := .base h
theorem Rep.down {v : Value} {x : V} (h : Rep w H ov v x) (hx : x.cell = true) : Rep0 w H v x := by
  cases h <;> first | assumption | (simp [V.cell] at hx)
end

theorem Rep0.oneCell {w : World} {H : Nat → Prop} {v : Value} {x : V} (h : Rep0 w H v x) (hx : x.cell = true) : v.oneCell' = true := by
  cases h <;> first | rfl | (simp [V.cell] at hx; done) | exact hx

/-- An object: what its cells read as; may it still be written; is it a variable (else: a slice's row). -/
structure Ob where
  e : Nat
  sz : Nat
  cs : List V
  mu : Bool
  isv : Bool
  deriving Inhabited

/-- The cells xs read as cs. -/
def RepAll (w : World) (H : Nat → Prop) (xs : List Value) (cs : List V) : Prop :=
  xs.length = cs.length ∧ ∀ (j : Nat) (v : Value) (x : V), xs[j]? = some v → cs[j]? = some x → Rep0 w H v x

theorem RepAll.mono {w w' : World} {H H' : Nat → Prop} (eH : ∀ b, H b → H' b) (ew : ∀ b, H b → w'.heap[b]? = w.heap[b]?) {xs : List Value} {cs : List V} (h : RepAll w H xs cs) : RepAll w' H' xs cs :=
  ⟨h.1, fun j v x h1 h2 => (h.2 j v x h1 h2).mono eH ew⟩

structure ObRep (w : World) (H : Nat → Prop) (B : Nat) (v : Value) (ob : Ob) : Prop where
  cl : ∀ x, x ∈ ob.cs → x.cell = true
  fz : ∀ b, blk v = some b → (H b ↔ ob.mu = false)
  bd : (ob.isv = true ∧ ∃ b cur, v = .pointer (some ⟨b, 0, none⟩) ∧ B ≤ b ∧ w.heap[b]? = some (.cells cur ob.e (0, 0)) ∧ RepAll w H cur.toList ob.cs) ∨
       (ob.isv = false ∧ 0 < ob.sz ∧ ∃ n xs, w.ownsRow B ob.e ob.sz v n xs ∧ RepAll w H xs ob.cs ∧ n ≤ maxLen)

structure Mem (w0 : World) (H0 : Nat → Prop) (w : World) (H : Nat → Prop) (ov : Nat → Option Value) (ob : Nat → Option Ob) : Prop where
  bel : Below w0.heap.size w0 w
  Hlt : ∀ b, H b → b < w.heap.size
  low : ∀ b, H b → b < w0.heap.size → H0 b
  obj : ∀ id o, ob id = some o → ∃ v, ov id = some v ∧ ObRep w H w0.heap.size v o
  sep : ∀ i j oi oj vi vj b, i ≠ j → ob i = some oi → ob j = some oj → ov i = some vi → ov j = some vj → blk vi = some b → blk vj ≠ some b

theorem ObRep.cell {w : World} {H : Nat → Prop} {B : Nat} {v : Value} {ob : Ob} (h : ObRep w H B v ob) {j : Nat} {x : V} (hx : ob.cs[j]? = some x) :
    ∃ b u, blk v = some b ∧ w.cell? ⟨b, j, none⟩ = some u ∧ w.frozen? ⟨b, j, none⟩ = false ∧ Rep0 w H u x ∧ B ≤ b := by
  rcases h.bd with ⟨_, b, cur, rfl, hB, hh, hr⟩ | ⟨_, hsz, n, xs, hown, hr, _⟩
  · have hj : j < cur.toList.length := by have := (List.getElem?_eq_some_iff.1 hx).1; have := hr.1; omega
    refine ⟨b, cur.toList[j], rfl, ?_, frozen_of_row w b j cur ob.e hh, hr.2 j _ x (List.getElem?_eq_getElem hj) hx, hB⟩
    rw [cell_of_row w b j cur ob.e (0, 0) hh]
    simp at hj ⊢
  · have hj : j < xs.length := by have := (List.getElem?_eq_some_iff.1 hx).1; have := hr.1; omega
    have hown' := hown
    rcases hown.2 with ⟨rfl, rfl⟩ | ⟨g, cap, cur, rfl, hb, hh, hnc, hcm, hcs, htake⟩
    · have := hown.1; simp at this; subst this; simp at hj
    · refine ⟨g, xs[j], rfl, ?_, hown'.frozenAt j, hr.2 j _ x (List.getElem?_eq_getElem hj) hx, hb⟩
      rw [hown'.cellAt j (by rw [← hown.1]; exact hj), List.getElem?_eq_getElem hj]

theorem ObRep.mono {w w' : World} {H H' : Nat → Prop} {B : Nat} {v : Value} {ob : Ob} (h : ObRep w H B v ob) (hH : ∀ b, H b → H' b) (hw : ∀ b, H b → w'.heap[b]? = w.heap[b]?)
    (hb : ∀ b, blk v = some b → w'.heap[b]? = w.heap[b]?) (hf : ∀ b, blk v = some b → H' b → H b) : ObRep w' H' B v ob := by
  refine ⟨h.cl, fun b hb => ⟨fun h' => (h.fz b hb).1 (hf b hb h'), fun h' => hH b ((h.fz b hb).2 h')⟩, ?_⟩
  rcases h.bd with ⟨hv, b, cur, rfl, hB, hh, hr⟩ | ⟨hv, hsz, n, xs, hown, hr, hm⟩
  · exact .inl ⟨hv, b, cur, rfl, hB, (hb b rfl).trans hh, hr.mono hH hw⟩
  · refine .inr ⟨hv, hsz, n, xs, ⟨hown.1, ?_⟩, hr.mono hH hw, hm⟩
    rcases hown.2 with hn | ⟨g, cap, cur, rfl, hbg, hh, rest⟩
    · exact .inl hn
    · exact .inr ⟨g, cap, cur, rfl, hbg, (hb g rfl).trans hh, rest⟩

/-- A reference's object is met at its number. -/
def lk : List (Nat × V) → Nat → V
  | [], _ => .any
  | (k, v) :: r, t => if k = t then v else lk r t

def lo : List (Nat × Option Ob) → Nat → Option Ob
  | [], _ => none
  | (k, v) :: r, t => if k = t then v else lo r t

structure St where
  env : List (Nat × V)
  obs : List (Nat × Option Ob)
  nx : Nat
  deriving Inhabited

def St.get (s : St) (t : Nat) : V := lk s.env t
def St.ob (s : St) (i : Nat) : Option Ob := lo s.obs i
def St.put (s : St) (d : Option Nat) (v : V) : St := match d with | some d => { s with env := (d, v) :: s.env } | none => s

inductive X where
  | t (n : Nat)
  | k (v : V)
  deriving Inhabited

def St.val (s : St) : X → V
  | .t n => s.get n
  | .k v => v

/-- Updates of objects over a reading of them. -/
def upd (ob : Nat → Option Ob) (up : List (Nat × Option Ob)) : Nat → Option Ob := fun i =>
  match up with
  | [] => ob i
  | (k, v) :: r => if k = i then v else upd ob r i

structure Conc (w0 : World) (H0 : Nat → Prop) (w : World) (H : Nat → Prop) (ov : Nat → Option Value) (N : Nat) (a : Act) (s : St) : Prop where
  mem : Mem w0 H0 w H ov s.ob
  siz : a.tmps.size = N
  dfr : a.defers = []
  env : ∀ t, Rep w H ov (a.tmps.getD t undef) (s.get t)
  new : ∀ id, s.nx ≤ id → ov id = none

end Go.Proofs.Ytngohbpgdeiodaa.Ab
