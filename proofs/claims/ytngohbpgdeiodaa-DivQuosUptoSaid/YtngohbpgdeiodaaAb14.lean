/-
  The abstract layer: the walk. 'vm': what is still to be done, as data; 'go': one operation, its operands as values; laws to rewrite by.
-/
import Derived.Test.YtngohbpgdeiodaaAb13
namespace Go.Proofs.Ytngohbpgdeiodaa.Ab
set_option linter.unusedSimpArgs false
set_option linter.unusedVariables false
open Go Go.RowKit

inductive Fr where
  | c (c : AC)
  | b (id : Nat)

section
variable (F G : Nat → List V → V → Prop)
def vm : List Fr → (Ex → St → Prop) → St → Prop
  | [], Q, s => Q .normal s
  | .b _ :: k, Q, s => vm k Q s
  | .c c :: k, Q, s => avc F G c (fun e s' => match e with
      | .normal => vm k Q s'
      | .exit i => vmx i k Q s'
      | .ret => Q .ret s') s
where vmx (i : Nat) : List Fr → (Ex → St → Prop) → St → Prop
  | [], Q, s => Q (.exit i) s
  | .b j :: k, Q, s => if i = j then vm k Q s else vmx i k Q s
  | .c _ :: k, Q, s => vmx i k Q s

def rg (dr : Bool) (l : List AO) (s : St) (K : St → Prop) : Prop := match dr with | true => rgd F G l s K | false => rgv F G l s K

/-- Behind an operation: its value v, what became of the objects. -/
def fin (dr m : Bool) (d : Option Nat) (v : V) (up : List (Nat × Option Ob)) (r : List AO) (s : St) (K : St → Prop) : Prop :=
  match dr with
  | true => chk (v.refLe s.nx = true ∧ (m || up.all (fun p => p.1 == s.nx)) = true) (rgd F G r (s.aft d v up) K)
  | false => rgv F G r (s.aft d v up) K

def go (dr m : Bool) (op : AOp) (d : Option Nat) (r : List AO) (s : St) (K : St → Prop) : Prop := ev F G s.val s.ob s.nx (fun v up => fin F G dr m d v up r s K) op

def gdo (dr : Bool) (v : V) (want : Bool) (op : AOp) (d : Option Nat) (r : List AO) (s : St) (K : St → Prop) : Prop :=
  match want with
  | true => (match v with | .b x => cnd (.b x) (rg F G dr (⟨d, none, op⟩ :: r) s K) (rg F G dr r (s.aft d .un []) K) | .un => rg F G dr r (s.aft d .un []) K | _ => False)
  | false => (match v with | .b x => cnd (.b x) (rg F G dr r (s.aft d .un []) K) (rg F G dr (⟨d, none, op⟩ :: r) s K) | .un => rg F G dr r (s.aft d .un []) K | _ => False)

def ldp (dr m : Bool) (ob : Option Ob) (ag : Bool) (n k : Nat) (d : Option Nat) (r : List AO) (s : St) (K : St → Prop) : Prop :=
  match ob with
  | some o => if ag then chk (k + n ≤ o.cs.length) (fin F G dr m d (.g ((o.cs.drop k).take n)) [] r s K) else chk (k < o.cs.length) (fin F G dr m d (o.cs.getD k .un) [] r s K)
  | none => False

def stp (dr m : Bool) (ob : Option Ob) (n j k : Nat) (v : V) (d : Option Nat) (r : List AO) (s : St) (K : St → Prop) : Prop :=
  match ob with
  | some o => chk (okR s.ob v ∧ o.mu = true ∧ (frz s.ob v).all (fun q => q.1 != j) = true ∧ (rd s.ob 1 v).cells.length = n ∧ k + n ≤ o.cs.length ∧ (rd s.ob 1 v).cells.all V.cell = true)
      (fin F G dr m d .un ((j, some { o with cs := setAt o.cs k (rd s.ob 1 v).cells }) :: frz s.ob v) r s K)
  | none => False

def bldp (dr m : Bool) (ob : Nat → Option Ob) (zero : List V) (ps : List (Nat × Nat × V)) (d : Option Nat) (r : List AO) (s : St) (K : St → Prop) : Prop :=
  chk (okRs ob (ps.map fun p => p.2.2) ∧ fitAll zero.length (ps.map fun p => (p.1, (rd ob 1 p.2.2).cells)) = true ∧ (ps.all fun p => (rd ob 1 p.2.2).cells.length == p.2.1) = true)
    (fin F G dr m d (.g (setAll zero (ps.map fun p => (p.1, (rd ob 1 p.2.2).cells)))) (ps.flatMap fun p => frz ob p.2.2) r s K)

def bslp (dr m : Bool) (ob : Nat → Option Ob) (e sz n : Nat) (zero : List V) (ps : List (Nat × V)) (d : Option Nat) (r : List AO) (s : St) (K : St → Prop) : Prop :=
  chk (okRs ob (ps.map fun p => p.2) ∧ fitAll zero.length (ps.map fun p => (p.1 * sz, (rd ob 1 p.2).cells)) = true ∧ (ps.all fun p => (rd ob 1 p.2).cells.length == sz) = true)
    (fin F G dr m d (.ow sz s.nx n) ((s.nx, some { e, sz, cs := setAll zero (ps.map fun p => (p.1 * sz, (rd ob 1 p.2).cells)), mu := true, isv := false }) :: ps.flatMap fun p => frz ob p.2) r s K)

def appq (dr m : Bool) (ob : Option Ob) (e sz bytes j n : Nat) (u : V) (s' : Nat) (xs : List V) (s1 : Nat) (d : Option Nat) (r : List AO) (s : St) (K : St → Prop) : Prop :=
  match ob with
  | some o => chk (okR s.ob u ∧ s1 = sz ∧ s' = sz ∧ o.e = e ∧ o.sz = sz ∧ o.mu = true ∧ o.isv = false ∧ xs.all V.cell = true ∧ (n + xs.length / sz) * bytes ≤ 70368744177664 ∧ n + xs.length / sz ≤ 1099511627776)
      (fin F G dr m d (.ow sz s.nx (n + xs.length / sz)) [(j, none), (s.nx, some { o with cs := o.cs ++ xs })] r s K)
  | none => False

def appp (dr m : Bool) (ob : Nat → Option Ob) (e sz bytes : Nat) (v u ru : V) (d : Option Nat) (r : List AO) (s : St) (K : St → Prop) : Prop :=
  match v, ru with
  | .nl, .l s' xs => chk (okR s.ob u ∧ s' = sz ∧ xs.all V.cell = true ∧ xs.length / sz * bytes ≤ 70368744177664 ∧ xs.length / sz ≤ 1099511627776)
      (fin F G dr m d (.ow sz s.nx (xs.length / sz)) [(s.nx, some { e, sz, cs := xs, mu := true, isv := false })] r s K)
  | .ow s1 j n, .l s' xs => appq F G dr m (ob j) e sz bytes j n u s' xs s1 d r s K
  | _, _ => False

/-- Behind a call: its result. -/
def clr (dr m : Bool) (args : List (Nat × V)) (res : V) (d : Option Nat) (r : List AO) (s : St) (K : St → Prop) : Prop :=
  match res with
  | .o e sz cs => chk (0 < sz) (fin F G dr m d (.ow sz s.nx (cs.length / sz)) ((s.nx, some { e, sz, cs, mu := true, isv := false }) :: if res.hasL then args.flatMap fun p => frz s.ob p.2 else []) r s K)
  | .fr res => fin F G dr m d res [] r s K
  | res => fin F G dr m d res (if res.hasL then args.flatMap fun p => frz s.ob p.2 else []) r s K

def clp (dr m : Bool) (f : Nat) (args : List (Nat × V)) (d : Option Nat) (r : List AO) (s : St) (K : St → Prop) : Prop :=
  chk (okRs s.ob (args.map fun p => p.2) ∧ (args.all fun p => (rd s.ob p.1 p.2).okArg) = true) (∃ n res, F f (args.map fun p => rdb n s.ob p.1 p.2) res ∧ clr F G dr m args res d r s K)

/-- Is it nil? -/
def isp (dr m : Bool) (neg : Bool) (e : Prop) (d : Option Nat) (r : List AO) (s : St) (K : St → Prop) : Prop :=
  ∀ t : Bool, (t = true → e) → fin F G dr m d (.b (t != neg)) [] r s K

def bxp (dr m : Bool) (ob : Nat → Option Ob) (e : Nat) (v : V) (cs : List V) (d : Option Nat) (r : List AO) (s : St) (K : St → Prop) : Prop :=
  chk (okR ob v ∧ cs.all V.cell = true) (fin F G dr m d (.pt s.nx 0) ((s.nx, some { e, sz := cs.length, cs := cs, mu := true, isv := true }) :: frz ob v) r s K)
def purq (dr m : Bool) (res : Option V) (d : Option Nat) (r : List AO) (s : St) (K : St → Prop) : Prop :=
  match res with | some v => fin F G dr m d v [] r s K | none => False
def purp (dr m : Bool) (p : PO) (vs : List V) (us : List V) (d : Option Nat) (r : List AO) (s : St) (K : St → Prop) : Prop :=
  chk (okRs s.ob vs) (purq F G dr m (pureV p us) d r s K)
def cpyq (dr m : Bool) (ob : Option Ob) (sz j off n : Nat) (u : V) (s' : Nat) (xs : List V) (s1 : Nat) (d : Option Nat) (r : List AO) (s : St) (K : St → Prop) : Prop :=
  match ob with
  | some o => chk (okR s.ob u ∧ s1 = sz ∧ s' = sz ∧ o.mu = true ∧ off + n * sz ≤ o.cs.length ∧ xs.all V.cell = true)
      (fin F G dr m d (.i .i64 ((min (xs.length / sz) n : Nat) : Int)) [(j, some { o with cs := setAt o.cs off (xs.take (n * sz)) })] r s K)
  | none => False
def cpyp (dr m : Bool) (ob : Nat → Option Ob) (sz : Nat) (v u ru : V) (d : Option Nat) (r : List AO) (s : St) (K : St → Prop) : Prop :=
  match v, ru with
  | .sl s1 j off n, .l s' xs => cpyq F G dr m (ob j) sz j off n u s' xs s1 d r s K
  | _, _ => False
def xlp (dr m : Bool) (f : Nat) (args : List V) (d : Option Nat) (r : List AO) (s : St) (K : St → Prop) : Prop :=
  ∃ res, G f args res ∧ fin F G dr m d res [] r s K
end

def AOp.sb (s : St) : AOp → AOp
  | .mv x => .mv (.k (s.val x))
  | .pick c a b => .pick (.k (s.val c)) (.k (s.val a)) (.k (s.val b))
  | .bin op x y => .bin op (.k (s.val x)) (.k (s.val y))
  | .eqb n x y => .eqb n (.k (s.val x)) (.k (s.val y))
  | .un op x => .un op (.k (s.val x))
  | .cvt k x => .cvt k (.k (s.val x))
  | .six x y => .six (.k (s.val x)) (.k (s.val y))
  | .idx n x y => .idx n (.k (s.val x)) (.k (s.val y))
  | .ld a n x => .ld a n (.k (s.val x))
  | .st n x y => .st n (.k (s.val x)) (.k (s.val y))
  | .fad n x => .fad n (.k (s.val x))
  | .fld a n k x => .fld a n k (.k (s.val x))
  | .mk e sz b z x y => .mk e sz b z (.k (s.val x)) (.k (s.val y))
  | .sub n x lo hi => .sub n (.k (s.val x)) (lo.map fun x => .k (s.val x)) (hi.map fun x => .k (s.val x))
  | .ssub x lo hi => .ssub (.k (s.val x)) (lo.map fun x => .k (s.val x)) (hi.map fun x => .k (s.val x))
  | .len x => .len (.k (s.val x))
  | .slen x => .slen (.k (s.val x))
  | .app e sz b x y => .app e sz b (.k (s.val x)) (.k (s.val y))
  | .ext x i => .ext (.k (s.val x)) i
  | .nc x => .nc (.k (s.val x))
  | .mm m x y => .mm m (.k (s.val x)) (.k (s.val y))
  | .isn n x => .isn n (.k (s.val x))
  | .bld z ps => .bld z ps
  | .bsl e sz n z ps => .bsl e sz n z ps
  | .al e z => .al e z
  | .call f args => .call f args
  | .xcall f args => .xcall f args
  | .bx e x => .bx e (.k (s.val x))
  | .pur p xs => .pur p xs
  | .cpy sz x y => .cpy sz (.k (s.val x)) (.k (s.val y))
  | .bad => .bad

section
variable {F G : Nat → List V → V → Prop} {dr m : Bool} {d : Option Nat} {r : List AO} {s : St} {K : St → Prop}

theorem ev_sb {ob : Nat → Option Ob} {id : Nat} {K : V → List (Nat × Option Ob) → Prop} (op : AOp) : ev F G s.val ob id K (op.sb s) = ev F G s.val ob id K op := by
  cases op <;> first | rfl | skip
  all_goals
    simp only [AOp.sb, ev, Option.map_map]
    rfl

theorem rg_nil : rg F G dr [] s K = K s := by cases dr <;> rfl
theorem rg_cons {op : AOp} : rg F G dr (⟨d, none, op⟩ :: r) s K = go F G dr op.mut (op.sb s) d r s K := by
  cases dr
  · show rgv F G _ s K = _
    unfold go
    rw [ev_sb]; rfl
  · show rgd F G _ s K = _
    unfold go
    rw [ev_sb]; rfl
theorem rg_consg {op : AOp} {t : Nat} {want : Bool} : rg F G dr (⟨d, some (t, want), op⟩ :: r) s K = gdo F G dr (s.get t) want op d r s K := by
  cases dr <;> cases want <;> (simp only [rg, rgv, rgd, gv, gdo]; rfl)
theorem gdo_tt {op : AOp} : gdo F G dr (.b true) true op d r s K = rg F G dr (⟨d, none, op⟩ :: r) s K := cnd_true
theorem gdo_ft {op : AOp} : gdo F G dr (.b false) true op d r s K = rg F G dr r (s.aft d .un []) K := cnd_false
theorem gdo_tf {op : AOp} : gdo F G dr (.b true) false op d r s K = rg F G dr r (s.aft d .un []) K := cnd_true
theorem gdo_ff {op : AOp} : gdo F G dr (.b false) false op d r s K = rg F G dr (⟨d, none, op⟩ :: r) s K := cnd_false
theorem gdo_un {op : AOp} {want : Bool} : gdo F G dr .un want op d r s K = rg F G dr r (s.aft d .un []) K := by cases want <;> rfl
theorem gdo_mk {op : AOp} {want x : Bool} (h1 : x = true → gdo F G dr (.b true) want op d r s K) (h2 : x = false → gdo F G dr (.b false) want op d r s K) : gdo F G dr (.b x) want op d r s K := by
  cases x
  · exact h2 rfl
  · exact h1 rfl
theorem go_pick_mk {x : Bool} {v u : V} (h1 : x = true → fin F G dr m d v [] r s K) (h2 : x = false → fin F G dr m d u [] r s K) : go F G dr m (.pick (.k (.b x)) (.k v) (.k u)) d r s K := cnd_mk h1 h2
theorem fin_f {v : V} {up : List (Nat × Option Ob)} : fin F G false m d v up r s K = rg F G false r (s.aft d v up) K := rfl
theorem fin_t {v : V} {up : List (Nat × Option Ob)} : fin F G true m d v up r s K = chk (v.refLe s.nx = true ∧ (m || up.all (fun p => p.1 == s.nx)) = true) (rg F G true r (s.aft d v up) K) := rfl
theorem ldp_f {o : Ob} {n k : Nat} : ldp F G dr m (some o) false n k d r s K = chk (k < o.cs.length) (fin F G dr m d (o.cs.getD k .un) [] r s K) := rfl
theorem ldp_t {o : Ob} {n k : Nat} : ldp F G dr m (some o) true n k d r s K = chk (k + n ≤ o.cs.length) (fin F G dr m d (.g ((o.cs.drop k).take n)) [] r s K) := rfl
theorem stp_s {o : Ob} {n j k : Nat} {v : V} : stp F G dr m (some o) n j k v d r s K = chk (okR s.ob v ∧ o.mu = true ∧ (frz s.ob v).all (fun q => q.1 != j) = true ∧ (rd s.ob 1 v).cells.length = n ∧ k + n ≤ o.cs.length ∧ (rd s.ob 1 v).cells.all V.cell = true)
      (fin F G dr m d .un ((j, some { o with cs := setAt o.cs k (rd s.ob 1 v).cells }) :: frz s.ob v) r s K) := rfl
theorem appq_s {o : Ob} {e sz bytes j n : Nat} {u : V} {s' : Nat} {xs : List V} {s1 : Nat} : appq F G dr m (some o) e sz bytes j n u s' xs s1 d r s K = chk (okR s.ob u ∧ s1 = sz ∧ s' = sz ∧ o.e = e ∧ o.sz = sz ∧ o.mu = true ∧ o.isv = false ∧ xs.all V.cell = true ∧ (n + xs.length / sz) * bytes ≤ 70368744177664 ∧ n + xs.length / sz ≤ 1099511627776)
      (fin F G dr m d (.ow sz s.nx (n + xs.length / sz)) [(j, none), (s.nx, some { o with cs := o.cs ++ xs })] r s K) := rfl
theorem cpyq_s {o : Ob} {sz j off n : Nat} {u : V} {s' : Nat} {xs : List V} {s1 : Nat} : cpyq F G dr m (some o) sz j off n u s' xs s1 d r s K = chk (okR s.ob u ∧ s1 = sz ∧ s' = sz ∧ o.mu = true ∧ off + n * sz ≤ o.cs.length ∧ xs.all V.cell = true)
      (fin F G dr m d (.i .i64 ((min (xs.length / sz) n : Nat) : Int)) [(j, some { o with cs := setAt o.cs off (xs.take (n * sz)) })] r s K) := rfl
theorem cpyp_sl {ob : Nat → Option Ob} {sz j off n : Nat} {u : V} {s' : Nat} {xs : List V} {s1 : Nat} : cpyp F G dr m ob sz (.sl s1 j off n) u (.l s' xs) d r s K = cpyq F G dr m (ob j) sz j off n u s' xs s1 d r s K := rfl
theorem appp_nl {ob : Nat → Option Ob} {e sz bytes : Nat} {u : V} {s' : Nat} {xs : List V} : appp F G dr m ob e sz bytes .nl u (.l s' xs) d r s K = chk (okR s.ob u ∧ s' = sz ∧ xs.all V.cell = true ∧ xs.length / sz * bytes ≤ 70368744177664 ∧ xs.length / sz ≤ 1099511627776)
      (fin F G dr m d (.ow sz s.nx (xs.length / sz)) [(s.nx, some { e, sz, cs := xs, mu := true, isv := false })] r s K) := rfl
theorem appp_ow {ob : Nat → Option Ob} {e sz bytes j n : Nat} {u : V} {s' : Nat} {xs : List V} {s1 : Nat} : appp F G dr m ob e sz bytes (.ow s1 j n) u (.l s' xs) d r s K = appq F G dr m (ob j) e sz bytes j n u s' xs s1 d r s K := rfl
theorem go_mv {v : V} : go F G dr m (.mv (.k v)) d r s K = fin F G dr m d v [] r s K := rfl
theorem go_pick_t {v u : V} : go F G dr m (.pick (.k (.b true)) (.k v) (.k u)) d r s K = fin F G dr m d v [] r s K := cnd_true
theorem go_pick_f {v u : V} : go F G dr m (.pick (.k (.b false)) (.k v) (.k u)) d r s K = fin F G dr m d u [] r s K := cnd_false
theorem go_bin_add {k k' : IntKind} {a b : Int} : go F G dr m (.bin .add (.k (.i k a)) (.k (.i k' b))) d r s K = chk (k = k') (fin F G dr m d (.i k (k.wrap (a + b))) [] r s K) := rfl
theorem go_bin_sub {k k' : IntKind} {a b : Int} : go F G dr m (.bin .sub (.k (.i k a)) (.k (.i k' b))) d r s K = chk (k = k') (fin F G dr m d (.i k (k.wrap (a - b))) [] r s K) := rfl
theorem go_bin_mul {k k' : IntKind} {a b : Int} : go F G dr m (.bin .mul (.k (.i k a)) (.k (.i k' b))) d r s K = chk (k = k') (fin F G dr m d (.i k (k.wrap (a * b))) [] r s K) := rfl
theorem go_bin_and {k k' : IntKind} {a b : Int} : go F G dr m (.bin .and (.k (.i k a)) (.k (.i k' b))) d r s K = chk (k = k') (fin F G dr m d (.i k (bits .and k a b)) [] r s K) := rfl
theorem go_bin_or {k k' : IntKind} {a b : Int} : go F G dr m (.bin .or (.k (.i k a)) (.k (.i k' b))) d r s K = chk (k = k') (fin F G dr m d (.i k (bits .or k a b)) [] r s K) := rfl
theorem go_bin_xor {k k' : IntKind} {a b : Int} : go F G dr m (.bin .xor (.k (.i k a)) (.k (.i k' b))) d r s K = chk (k = k') (fin F G dr m d (.i k (bits .xor k a b)) [] r s K) := rfl
theorem go_bin_andNot {k k' : IntKind} {a b : Int} : go F G dr m (.bin .andNot (.k (.i k a)) (.k (.i k' b))) d r s K = chk (k = k') (fin F G dr m d (.i k (bits .andNot k a b)) [] r s K) := rfl
theorem go_bin_eql {k k' : IntKind} {a b : Int} : go F G dr m (.bin .eql (.k (.i k a)) (.k (.i k' b))) d r s K = chk (k = k') (fin F G dr m d (.b (decide (a = b))) [] r s K) := rfl
theorem go_bin_neq {k k' : IntKind} {a b : Int} : go F G dr m (.bin .neq (.k (.i k a)) (.k (.i k' b))) d r s K = chk (k = k') (fin F G dr m d (.b (decide (¬ a = b))) [] r s K) := rfl
theorem go_bin_lss {k k' : IntKind} {a b : Int} : go F G dr m (.bin .lss (.k (.i k a)) (.k (.i k' b))) d r s K = chk (k = k') (fin F G dr m d (.b (decide (a < b))) [] r s K) := rfl
theorem go_bin_leq {k k' : IntKind} {a b : Int} : go F G dr m (.bin .leq (.k (.i k a)) (.k (.i k' b))) d r s K = chk (k = k') (fin F G dr m d (.b (decide (a ≤ b))) [] r s K) := rfl
theorem go_bin_gtr {k k' : IntKind} {a b : Int} : go F G dr m (.bin .gtr (.k (.i k a)) (.k (.i k' b))) d r s K = chk (k = k') (fin F G dr m d (.b (decide (b < a))) [] r s K) := rfl
theorem go_bin_geq {k k' : IntKind} {a b : Int} : go F G dr m (.bin .geq (.k (.i k a)) (.k (.i k' b))) d r s K = chk (k = k') (fin F G dr m d (.b (decide (b ≤ a))) [] r s K) := rfl
theorem go_bin_quo {k k' : IntKind} {a b : Int} : go F G dr m (.bin .quo (.k (.i k a)) (.k (.i k' b))) d r s K = chk (k = k' ∧ b ≠ 0) (fin F G dr m d (.i k (k.wrap (a.tdiv b))) [] r s K) := rfl
theorem go_bin_rem {k k' : IntKind} {a b : Int} : go F G dr m (.bin .rem (.k (.i k a)) (.k (.i k' b))) d r s K = chk (k = k' ∧ b ≠ 0) (fin F G dr m d (.i k (a.tmod b)) [] r s K) := rfl
theorem go_bin_shl {k k' : IntKind} {a b : Int} : go F G dr m (.bin .shl (.k (.i k a)) (.k (.i k' b))) d r s K = chk (0 ≤ b) (fin F G dr m d (.i k (k.wrap (a * 2 ^ (min b.toNat k.bits)))) [] r s K) := rfl
theorem go_bin_shr {k k' : IntKind} {a b : Int} : go F G dr m (.bin .shr (.k (.i k a)) (.k (.i k' b))) d r s K = chk (0 ≤ b) (fin F G dr m d (.i k (a.fdiv (2 ^ (min b.toNat k.bits)))) [] r s K) := rfl
theorem go_str_add {a b : List UInt8} : go F G dr m (.bin .add (.k (.s a)) (.k (.s b))) d r s K = chk (a.length + b.length ≤ 9223372036854775807) (fin F G dr m d (.s (a ++ b)) [] r s K) := rfl
theorem go_str_eql {a b : List UInt8} : go F G dr m (.bin .eql (.k (.s a)) (.k (.s b))) d r s K = fin F G dr m d (.b (a == b)) [] r s K := rfl
theorem go_str_neq {a b : List UInt8} : go F G dr m (.bin .neq (.k (.s a)) (.k (.s b))) d r s K = fin F G dr m d (.b (!(a == b))) [] r s K := rfl
theorem go_eqb {neg x y : Bool} : go F G dr m (.eqb neg (.k (.b x)) (.k (.b y))) d r s K = fin F G dr m d (.b (if neg then !(x == y) else x == y)) [] r s K := rfl
theorem go_un_not {x : Bool} : go F G dr m (.un .not (.k (.b x))) d r s K = fin F G dr m d (.b !x) [] r s K := rfl
theorem go_un_neg {k : IntKind} {a : Int} : go F G dr m (.un .neg (.k (.i k a))) d r s K = fin F G dr m d (.i k (k.wrap (0 - a))) [] r s K := rfl
theorem go_un_xor {k : IntKind} {a : Int} : go F G dr m (.un .xor (.k (.i k a))) d r s K = fin F G dr m d (.i k (bits .xor k (if k.signed then -1 else k.max) a)) [] r s K := rfl
theorem go_cvt {k k' : IntKind} {a : Int} : go F G dr m (.cvt k (.k (.i k' a))) d r s K = fin F G dr m d (.i k (k.wrap a)) [] r s K := rfl
theorem go_six {l : List UInt8} {k : IntKind} {a : Int} : go F G dr m (.six (.k (.s l)) (.k (.i k a))) d r s K = chk (0 ≤ a ∧ a < l.length) (fin F G dr m d (.i .u8 (l.getD a.toNat 0).toNat) [] r s K) := rfl
theorem go_idx_l {sz z : Nat} {cs : List V} {k : IntKind} {a : Int} : go F G dr m (.idx sz (.k (.l z cs)) (.k (.i k a))) d r s K = chk (z = sz ∧ 0 ≤ a ∧ a.toNat * sz < cs.length) (fin F G dr m d (.ip cs (a.toNat * sz)) [] r s K) := rfl
theorem go_idx_ow {sz z j n : Nat} {k : IntKind} {a : Int} : go F G dr m (.idx sz (.k (.ow z j n)) (.k (.i k a))) d r s K = chk (z = sz ∧ 0 ≤ a ∧ a < n) (fin F G dr m d (.pt j (a.toNat * sz)) [] r s K) := rfl
theorem go_idx_sl {sz z j off n : Nat} {k : IntKind} {a : Int} : go F G dr m (.idx sz (.k (.sl z j off n)) (.k (.i k a))) d r s K = chk (z = sz ∧ 0 ≤ a ∧ a < n) (fin F G dr m d (.pt j (off + a.toNat * sz)) [] r s K) := rfl
theorem go_ld_ip {n q : Nat} {cs : List V} : go F G dr m (.ld false n (.k (.ip cs q))) d r s K = chk (q < cs.length) (fin F G dr m d (cs.getD q .un) [] r s K) := rfl
theorem go_ldg_ip {n q : Nat} {cs : List V} : go F G dr m (.ld true n (.k (.ip cs q))) d r s K = chk (q + n ≤ cs.length) (fin F G dr m d (.g ((cs.drop q).take n)) [] r s K) := rfl
theorem go_ld_pt {ag : Bool} {n j q : Nat} : go F G dr m (.ld ag n (.k (.pt j q))) d r s K = ldp F G dr m (s.ob j) ag n q d r s K := rfl
theorem go_st_pt {n j q : Nat} {v : V} : go F G dr m (.st n (.k (.pt j q)) (.k v)) d r s K = stp F G dr m (s.ob j) n j q v d r s K := rfl
theorem go_fad_pt {off j q : Nat} : go F G dr m (.fad off (.k (.pt j q))) d r s K = fin F G dr m d (.pt j (q + off)) [] r s K := rfl
theorem go_fad_ip {off q : Nat} {cs : List V} : go F G dr m (.fad off (.k (.ip cs q))) d r s K = fin F G dr m d (.ip cs (q + off)) [] r s K := rfl
theorem go_fld {off n : Nat} {cs : List V} : go F G dr m (.fld false off n (.k (.g cs))) d r s K = chk (off < cs.length) (fin F G dr m d (cs.getD off .un) [] r s K) := rfl
theorem go_fldg {off n : Nat} {cs : List V} : go F G dr m (.fld true off n (.k (.g cs))) d r s K = chk (off + n ≤ cs.length) (fin F G dr m d (.g ((cs.drop off).take n)) [] r s K) := rfl
theorem go_bld {zero : List V} {ps : List (Nat × Nat × X)} : go F G dr m (.bld zero ps) d r s K = bldp F G dr m s.ob zero (ps.map fun p => (p.1, p.2.1, s.val p.2.2)) d r s K := by
  simp only [go, ev, bldp, List.map_map, List.all_map, List.flatMap_map]; rfl
theorem go_bsl {e sz n : Nat} {zero : List V} {ps : List (Nat × X)} : go F G dr m (.bsl e sz n zero ps) d r s K = bslp F G dr m s.ob e sz n zero (ps.map fun p => (p.1, s.val p.2)) d r s K := by
  simp only [go, ev, bslp, List.map_map, List.all_map, List.flatMap_map]; rfl
theorem go_mk {e sz bytes : Nat} {zero : List V} {k k' : IntKind} {a b : Int} : go F G dr m (.mk e sz bytes zero (.k (.i k a)) (.k (.i k' b))) d r s K = chk (0 ≤ a ∧ a ≤ b ∧ b * bytes ≤ 281474976710656 ∧ b ≤ 1099511627776) (fin F G dr m d (.ow sz s.nx a.toNat) [(s.nx, some { e, sz, cs := (List.replicate a.toNat zero).flatten, mu := true, isv := false })] r s K) := rfl
theorem go_sub_l0 {z sz : Nat} {cs : List V} : go F G dr m (.sub sz (.k (.l z cs)) none none) d r s K = chk (z = sz) (fin F G dr m d (.l z cs) [] r s K) := rfl
theorem go_sub_l1 {z sz : Nat} {cs : List V} {k : IntKind} {a : Int} : go F G dr m (.sub sz (.k (.l z cs)) (some (.k (.i k a))) none) d r s K = chk (z = sz ∧ 0 ≤ a ∧ a.toNat * sz ≤ cs.length) (fin F G dr m d (.l z (cs.drop (a.toNat * sz))) [] r s K) := rfl
theorem go_sub_l2 {z sz : Nat} {cs : List V} {k' : IntKind} {b : Int} : go F G dr m (.sub sz (.k (.l z cs)) none (some (.k (.i k' b)))) d r s K = chk (z = sz ∧ 0 ≤ b ∧ b.toNat * sz ≤ cs.length) (fin F G dr m d (.l z (cs.take (b.toNat * sz))) [] r s K) := rfl
theorem go_sub_l3 {z sz : Nat} {cs : List V} {k k' : IntKind} {a b : Int} : go F G dr m (.sub sz (.k (.l z cs)) (some (.k (.i k a))) (some (.k (.i k' b)))) d r s K = chk (z = sz ∧ 0 ≤ a ∧ a ≤ b ∧ b.toNat * sz ≤ cs.length) (fin F G dr m d (.l z ((cs.take (b.toNat * sz)).drop (a.toNat * sz))) [] r s K) := rfl
theorem go_sub_ow0 {z j n sz : Nat} : go F G dr m (.sub sz (.k (.ow z j n)) none none) d r s K = chk (z = sz) (fin F G dr m d (.ow z j n) [] r s K) := rfl
theorem go_sub_ow1 {z j n sz : Nat} {k : IntKind} {a : Int} : go F G dr m (.sub sz (.k (.ow z j n)) (some (.k (.i k a))) none) d r s K = chk (z = sz ∧ 0 ≤ a ∧ a ≤ n) (fin F G dr m d (.sl z j (a.toNat * sz) (n - a.toNat)) [] r s K) := rfl
theorem go_sub_ow2 {z j n sz : Nat} {k' : IntKind} {b : Int} : go F G dr m (.sub sz (.k (.ow z j n)) none (some (.k (.i k' b)))) d r s K = chk (z = sz ∧ 0 ≤ b ∧ b ≤ n) (fin F G dr m d (.sl z j 0 b.toNat) [] r s K) := rfl
theorem go_sub_ow3 {z j n sz : Nat} {k k' : IntKind} {a b : Int} : go F G dr m (.sub sz (.k (.ow z j n)) (some (.k (.i k a))) (some (.k (.i k' b)))) d r s K = chk (z = sz ∧ 0 ≤ a ∧ a ≤ b ∧ b ≤ n) (fin F G dr m d (.sl z j (a.toNat * sz) (b.toNat - a.toNat)) [] r s K) := rfl
theorem go_sub_sl0 {z j off n sz : Nat} : go F G dr m (.sub sz (.k (.sl z j off n)) none none) d r s K = chk (z = sz) (fin F G dr m d (.sl z j off n) [] r s K) := rfl
theorem go_sub_sl1 {z j off n sz : Nat} {k : IntKind} {a : Int} : go F G dr m (.sub sz (.k (.sl z j off n)) (some (.k (.i k a))) none) d r s K = chk (z = sz ∧ 0 ≤ a ∧ a ≤ n) (fin F G dr m d (.sl z j (off + a.toNat * sz) (n - a.toNat)) [] r s K) := rfl
theorem go_sub_sl2 {z j off n sz : Nat} {k' : IntKind} {b : Int} : go F G dr m (.sub sz (.k (.sl z j off n)) none (some (.k (.i k' b)))) d r s K = chk (z = sz ∧ 0 ≤ b ∧ b ≤ n) (fin F G dr m d (.sl z j off b.toNat) [] r s K) := rfl
theorem go_sub_sl3 {z j off n sz : Nat} {k k' : IntKind} {a b : Int} : go F G dr m (.sub sz (.k (.sl z j off n)) (some (.k (.i k a))) (some (.k (.i k' b)))) d r s K = chk (z = sz ∧ 0 ≤ a ∧ a ≤ b ∧ b ≤ n) (fin F G dr m d (.sl z j (off + a.toNat * sz) (b.toNat - a.toNat)) [] r s K) := rfl
theorem go_sub_nl0 {sz : Nat} : go F G dr m (.sub sz (.k (.nl)) none none) d r s K = fin F G dr m d .nl [] r s K := rfl
theorem go_sub_nl1 {sz : Nat} {k : IntKind} {a : Int} : go F G dr m (.sub sz (.k (.nl)) (some (.k (.i k a))) none) d r s K = chk (a = 0) (fin F G dr m d .nl [] r s K) := rfl
theorem go_sub_nl2 {sz : Nat} {k' : IntKind} {b : Int} : go F G dr m (.sub sz (.k (.nl)) none (some (.k (.i k' b)))) d r s K = chk (b = 0) (fin F G dr m d .nl [] r s K) := rfl
theorem go_sub_nl3 {sz : Nat} {k k' : IntKind} {a b : Int} : go F G dr m (.sub sz (.k (.nl)) (some (.k (.i k a))) (some (.k (.i k' b)))) d r s K = chk (a = 0 ∧ b = 0) (fin F G dr m d .nl [] r s K) := rfl
theorem go_ssub0 {l : List UInt8} : go F G dr m (.ssub (.k (.s l)) none none) d r s K = fin F G dr m d (.s l) [] r s K := rfl
theorem go_ssub1 {l : List UInt8} {k : IntKind} {a : Int} : go F G dr m (.ssub (.k (.s l)) (some (.k (.i k a))) none) d r s K = chk (0 ≤ a ∧ a ≤ l.length) (fin F G dr m d (.s (l.drop a.toNat)) [] r s K) := rfl
theorem go_ssub2 {l : List UInt8} {k' : IntKind} {b : Int} : go F G dr m (.ssub (.k (.s l)) none (some (.k (.i k' b)))) d r s K = chk (0 ≤ b ∧ b ≤ l.length) (fin F G dr m d (.s (l.take b.toNat)) [] r s K) := rfl
theorem go_ssub3 {l : List UInt8} {k k' : IntKind} {a b : Int} : go F G dr m (.ssub (.k (.s l)) (some (.k (.i k a))) (some (.k (.i k' b)))) d r s K = chk (0 ≤ a ∧ a ≤ b ∧ b ≤ l.length) (fin F G dr m d (.s ((l.take b.toNat).drop a.toNat)) [] r s K) := rfl
theorem go_slen {l : List UInt8} : go F G dr m (.slen (.k (.s l))) d r s K = fin F G dr m d (.i .i64 l.length) [] r s K := rfl
theorem go_len_l {z : Nat} {cs : List V} : go F G dr m (.len (.k (.l z cs))) d r s K = fin F G dr m d (.i .i64 ((cs.length / z : Nat) : Int)) [] r s K := rfl
theorem go_len_ow {z j n : Nat} : go F G dr m (.len (.k (.ow z j n))) d r s K = fin F G dr m d (.i .i64 n) [] r s K := rfl
theorem go_len_sl {z j off n : Nat} : go F G dr m (.len (.k (.sl z j off n))) d r s K = fin F G dr m d (.i .i64 n) [] r s K := rfl
theorem go_len_nl : go F G dr m (.len (.k .nl)) d r s K = fin F G dr m d (.i .i64 0) [] r s K := rfl
theorem go_app {e sz bytes : Nat} {v u : V} : go F G dr m (.app e sz bytes (.k v) (.k u)) d r s K = appp F G dr m s.ob e sz bytes v u (rd s.ob sz u) d r s K := rfl
theorem go_cpy {sz : Nat} {v u : V} : go F G dr m (.cpy sz (.k v) (.k u)) d r s K = cpyp F G dr m s.ob sz (asSl v) u (rd s.ob sz u) d r s K := rfl
theorem go_al {e : Nat} {zero : List V} : go F G dr m (.al e zero) d r s K = fin F G dr m d (.pt s.nx 0) [(s.nx, some { e, sz := zero.length, cs := zero, mu := true, isv := true })] r s K := rfl
theorem go_ext {vs : List V} {ix : Nat} : go F G dr m (.ext (.k (.t vs)) ix) d r s K = chk (ix < vs.length) (fin F G dr m d (vs.getD ix .un) [] r s K) := rfl
theorem go_nc_pt {j q : Nat} : go F G dr m (.nc (.k (.pt j q))) d r s K = fin F G dr m d (.pt j q) [] r s K := rfl
theorem go_nc_ip {cs : List V} {q : Nat} : go F G dr m (.nc (.k (.ip cs q))) d r s K = fin F G dr m d (.ip cs q) [] r s K := rfl
theorem go_mm {mx : Bool} {k k' : IntKind} {a b : Int} : go F G dr m (.mm mx (.k (.i k a)) (.k (.i k' b))) d r s K = chk (k = k') (fin F G dr m d (.i k (if mx then max a b else min a b)) [] r s K) := rfl
theorem go_call {f : Nat} {args : List (Nat × X)} : go F G dr m (.call f args) d r s K = clp F G dr m f (args.map fun p => (p.1, s.val p.2)) d r s K := by
  simp only [go, ev, clp, List.map_map, List.all_map]
  congr 1
  refine congrArg Exists (funext fun n => ?_)
  refine congrArg Exists (funext fun res => ?_)
  refine congr (congrArg And rfl) ?_
  cases res <;> simp only [clr, List.flatMap_map]
theorem go_xcall {f : Nat} {args : List X} : go F G dr m (.xcall f args) d r s K = xlp F G dr m f (args.map s.val) d r s K := rfl

theorem go_bx {e : Nat} {v : V} : go F G dr m (.bx e (.k v)) d r s K = bxp F G dr m s.ob e v (rd s.ob 1 v).cells d r s K := rfl
theorem go_pur {p : PO} {xs : List X} : go F G dr m (.pur p xs) d r s K = purp F G dr m p (xs.map s.val) (xs.map fun x => rd s.ob 1 (s.val x)) d r s K := rfl
theorem purq_s {v : V} : purq F G dr m (some v) d r s K = fin F G dr m d v [] r s K := rfl
theorem go_isn_nl {neg : Bool} : go F G dr m (.isn neg (.k .nl)) d r s K = fin F G dr m d (.b (!neg)) [] r s K := rfl
theorem go_isn_l {neg : Bool} {z : Nat} {cs : List V} : go F G dr m (.isn neg (.k (.l z cs))) d r s K = isp F G dr m neg (cs = []) d r s K := rfl
theorem go_isn_ow {neg : Bool} {z j n : Nat} : go F G dr m (.isn neg (.k (.ow z j n))) d r s K = isp F G dr m neg (n = 0) d r s K := rfl
theorem isp_mk {neg : Bool} {e : Prop} (h : ∀ t : Bool, (t = true → e) → fin F G dr m d (.b (t != neg)) [] r s K) : isp F G dr m neg e d r s K := h
theorem clp_mk {f : Nat} {args : List (Nat × V)} (res : V) (vs : List V) (h1 : okRs s.ob (args.map fun p => p.2)) (h2 : (args.all fun p => (rd s.ob p.1 p.2).okArg) = true) (hv : (args.map fun p => rd s.ob p.1 p.2) = vs) (hf : F f vs res) (hk : clr F G dr m args res d r s K) : clp F G dr m f args d r s K :=
  ⟨⟨h1, h2⟩, false, res, hv ▸ hf, hk⟩
theorem xlp_mk {f : Nat} {args : List V} (res : V) (hf : G f args res) (hk : fin F G dr m d res [] r s K) : xlp F G dr m f args d r s K := ⟨res, hf, hk⟩
theorem clr_o {args : List (Nat × V)} {e sz : Nat} {cs : List V} : clr F G dr m args (.o e sz cs) d r s K = chk (0 < sz) (fin F G dr m d (.ow sz s.nx (cs.length / sz)) ((s.nx, some { e, sz, cs, mu := true, isv := false }) :: if (V.o e sz cs).hasL then args.flatMap fun p => frz s.ob p.2 else []) r s K) := rfl
theorem clr_fr {args : List (Nat × V)} {v : V} : clr F G dr m args (.fr v) d r s K = fin F G dr m d v [] r s K := rfl
theorem clr_i {args : List (Nat × V)} {k : IntKind} {n : Int} : clr F G dr m args (.i k n) d r s K = fin F G dr m d (.i k n) [] r s K := rfl
theorem clr_b {args : List (Nat × V)} {x : Bool} : clr F G dr m args (.b x) d r s K = fin F G dr m d (.b x) [] r s K := rfl
theorem clr_s {args : List (Nat × V)} {x : List UInt8} : clr F G dr m args (.s x) d r s K = fin F G dr m d (.s x) [] r s K := rfl
theorem clr_l {args : List (Nat × V)} {sz : Nat} {cs : List V} : clr F G dr m args (.l sz cs) d r s K = fin F G dr m d (.l sz cs) (args.flatMap fun p => frz s.ob p.2) r s K := rfl
theorem clr_t {args : List (Nat × V)} {vs : List V} : clr F G dr m args (.t vs) d r s K = fin F G dr m d (.t vs) (if (V.t vs).hasL then args.flatMap fun p => frz s.ob p.2 else []) r s K := rfl
theorem clr_g {args : List (Nat × V)} {vs : List V} : clr F G dr m args (.g vs) d r s K = fin F G dr m d (.g vs) (if (V.g vs).hasL then args.flatMap fun p => frz s.ob p.2 else []) r s K := rfl

/-! ### code -/
variable {Q : Ex → St → Prop} {k : List Fr}
theorem vm_nil : vm F G [] Q s = Q .normal s := by simp only [vm]
theorem vm_b {id : Nat} : vm F G (.b id :: k) Q s = vm F G k Q s := by simp only [vm]
theorem vm_seq {a b : AC} : vm F G (.c (.seq a b) :: k) Q s = vm F G (.c a :: .c b :: k) Q s := by
  simp only [vm, avc, vm.vmx]
  first | rfl | (congr 1; done) | (congr 1; funext e s'; cases e <;> rfl)
theorem vm_blk {id : Nat} {c : AC} : vm F G (.c (.blk id c) :: k) Q s = vm F G (.c c :: .b id :: k) Q s := by
  simp only [vm, avc, vm.vmx]
  first | rfl | (congr 1; done) | (congr 1; funext e s'; cases e <;> rfl)
theorem vm_skip : vm F G (.c .skip :: k) Q s = vm F G k Q s := by simp only [vm, avc]
theorem vm_ret : vm F G (.c .ret :: k) Q s = Q .ret s := by simp only [vm, avc]
theorem vm_exit {i : Nat} : vm F G (.c (.exit i) :: k) Q s = vm.vmx F G i k Q s := by simp only [vm, avc]
theorem vmx_nil {i : Nat} : vm.vmx F G i [] Q s = Q (.exit i) s := by simp only [vm.vmx]
theorem vmx_b {i j : Nat} : vm.vmx F G i (.b j :: k) Q s = if i = j then vm F G k Q s else vm.vmx F G i k Q s := by simp only [vm.vmx]
theorem vmx_c {i : Nat} {c : AC} : vm.vmx F G i (.c c :: k) Q s = vm.vmx F G i k Q s := by simp only [vm.vmx]
theorem vm_reg {l : List AO} (h : ∀ K : St → Prop, (∀ s', vm F G k Q s' → K s') → rg F G false l s K) : vm F G (.c (.reg l) :: k) Q s := by
  have := h (vm F G k Q) fun _ h => h
  simp only [vm, avc]; exact this
theorem vm_dreg {l : List AO} (h : ∀ K : St → Prop, (∀ s', vm F G k Q s' → K s') → rg F G true l s K) : vm F G (.c (.dreg l) :: k) Q s := by
  have := h (vm F G k Q) fun _ h => h
  simp only [vm, avc]; exact this
/-- A test, its value before us. -/
def vmc (F G : Nat → List V → V → Prop) (v : V) (a b : AC) (k : List Fr) (Q : Ex → St → Prop) (s : St) : Prop := cnd v (vm F G (.c a :: k) Q s) (vm F G (.c b :: k) Q s)
theorem vm_cond {x : X} {a b : AC} : vm F G (.c (.cond x a b) :: k) Q s = vmc F G (s.val x) a b k Q s := by simp only [vm, avc, vmc]
theorem vmc_t {a b : AC} : vmc F G (.b true) a b k Q s = vm F G (.c a :: k) Q s := cnd_true
theorem vmc_f {a b : AC} : vmc F G (.b false) a b k Q s = vm F G (.c b :: k) Q s := cnd_false
theorem vmc_mk {t : Bool} {a b : AC} (h1 : t = true → vm F G (.c a :: k) Q s) (h2 : t = false → vm F G (.c b :: k) Q s) : vmc F G (.b t) a b k Q s := cnd_mk h1 h2

/-- A loop: 'mk x': the state at a round's head; 'I x' what holds; 'μ' what goes down. -/
theorem vm_loopM' {c : AC} (ms : List (Nat × Nat × Nat)) (X : Type) (mk : X → St) (I : X → Prop) (μ : X → Nat) (x0 : X) (r0 : List (Nat × Nat)) (h0 : I x0) (hms : St.matOk ms s) (hle : (St.mats ms s).le r0 (mk x0))
    (round : ∀ x, I x → ∀ Q' : Ex → St → Prop, (∀ s' ms' x' r', I x' → μ x' < μ x → St.matOk ms' s' → (St.mats ms' s').le r' (mk x') → Q' .normal s') → (∀ i s', vm.vmx F G i k Q s' → Q' (.exit i) s') → (∀ s', Q .ret s' → Q' .ret s') → vm F G [.c c] Q' (mk x)) :
    vm F G (.c (.loop c) :: k) Q s := by
  simp only [vm, avc]
  refine ⟨X, mk, I, μ, ⟨ms, x0, r0, h0, hms, hle⟩, fun x hx => ?_⟩
  have := round x hx (fun e s' => match e with | .normal => ∃ ms' x' r, I x' ∧ μ x' < μ x ∧ St.matOk ms' s' ∧ (St.mats ms' s').le r (mk x') | .exit i => vm.vmx F G i k Q s' | .ret => Q .ret s')
    (fun s' ms' x' r' h1 h2 h3 h4 => ⟨ms', x', r', h1, h2, h3, h4⟩) (fun i s' h => h) (fun s' h => h)
  simp only [vm, vm.vmx] at this
  have e : (fun (e : Ex) (s' : St) => match e with
      | .normal => (match Ex.normal with | .normal => ∃ ms' x' r, I x' ∧ μ x' < μ x ∧ St.matOk ms' s' ∧ (St.mats ms' s').le r (mk x') | .exit i => vm.vmx F G i k Q s' | .ret => Q .ret s')
      | .exit i => (match Ex.exit i with | .normal => ∃ ms' x' r, I x' ∧ μ x' < μ x ∧ St.matOk ms' s' ∧ (St.mats ms' s').le r (mk x') | .exit i => vm.vmx F G i k Q s' | .ret => Q .ret s')
      | .ret => (match Ex.ret with | .normal => ∃ ms' x' r, I x' ∧ μ x' < μ x ∧ St.matOk ms' s' ∧ (St.mats ms' s').le r (mk x') | .exit i => vm.vmx F G i k Q s' | .ret => Q .ret s')) =
      (fun (e : Ex) (s' : St) => match e with | .normal => ∃ ms' x' r, I x' ∧ μ x' < μ x ∧ St.matOk ms' s' ∧ (St.mats ms' s').le r (mk x') | .exit i => vm.vmx F G i k Q s' | .ret => Q .ret s') := by
    funext e s'; cases e <;> rfl
  simp only [] at this e
  exact this
theorem vm_loopM {c : AC} (ms : List (Nat × Nat × Nat)) (X : Type) (mk : X → St) (I : X → Prop) (μ : X → Nat) (x0 : X) (r0 : List (Nat × Nat)) (h0 : I x0) (hms : St.matOk ms s) (hle : (St.mats ms s).le r0 (mk x0))
    (round : ∀ x, I x → ∀ Q' : Ex → St → Prop, (∀ s' x' r', I x' → μ x' < μ x → s'.le r' (mk x') → Q' .normal s') → (∀ i s', vm.vmx F G i k Q s' → Q' (.exit i) s') → (∀ s', Q .ret s' → Q' .ret s') → vm F G [.c c] Q' (mk x)) :
    vm F G (.c (.loop c) :: k) Q s :=
  vm_loopM' ms X mk I μ x0 r0 h0 hms hle fun x hx Q' hQ he hr => round x hx Q' (fun s' x' r' h1 h2 h3 => hQ s' [] x' r' h1 h2 trivial h3) he hr

theorem vm_loop {c : AC} (X : Type) (mk : X → St) (I : X → Prop) (μ : X → Nat) (x0 : X) (r0 : List (Nat × Nat)) (h0 : I x0) (hle : s.le r0 (mk x0))
    (round : ∀ x, I x → ∀ Q' : Ex → St → Prop, (∀ s' x' r', I x' → μ x' < μ x → s'.le r' (mk x') → Q' .normal s') → (∀ i s', vm.vmx F G i k Q s' → Q' (.exit i) s') → (∀ s', Q .ret s' → Q' .ret s') → vm F G [.c c] Q' (mk x)) :
    vm F G (.c (.loop c) :: k) Q s := vm_loopM [] X mk I μ x0 r0 h0 trivial hle round

theorem vm_start {ac : AC} (h : vm F G [.c ac] Q s) : avc F G ac Q s := by
  simp only [vm, vm.vmx] at h
  have e : (fun (e : Ex) (s' : St) => match e with | .normal => Q .normal s' | .exit i => Q (.exit i) s' | .ret => Q .ret s') = Q := by funext e s'; cases e <;> rfl
  rw [e] at h
  exact h

/-! ### states -/
theorem aft_s {env : List (Nat × V)} {obs up : List (Nat × Option Ob)} {nx t : Nat} {v : V} : St.aft ⟨env, obs, nx⟩ (some t) v up = ⟨(t, v) :: env, up ++ obs, nx + 1⟩ := rfl
theorem aft_n {env : List (Nat × V)} {obs up : List (Nat × Option Ob)} {nx : Nat} {v : V} : St.aft ⟨env, obs, nx⟩ none v up = ⟨env, up ++ obs, nx + 1⟩ := rfl
theorem val_t {env : List (Nat × V)} {obs : List (Nat × Option Ob)} {nx t : Nat} : St.val ⟨env, obs, nx⟩ (.t t) = lk env t := rfl
theorem val_k {v : V} : s.val (.k v) = v := rfl
theorem get_t {env : List (Nat × V)} {obs : List (Nat × Option Ob)} {nx t : Nat} : St.get ⟨env, obs, nx⟩ t = lk env t := rfl
theorem ob_t {env : List (Nat × V)} {obs : List (Nat × Option Ob)} {nx t : Nat} : St.ob ⟨env, obs, nx⟩ t = lo obs t := rfl
theorem nx_t {env : List (Nat × V)} {obs : List (Nat × Option Ob)} {nx : Nat} : St.nx ⟨env, obs, nx⟩ = nx := rfl
theorem lo_cons {i t : Nat} {o : Option Ob} {l : List (Nat × Option Ob)} : lo ((i, o) :: l) t = if i = t then o else lo l t := rfl
theorem lo_nil {t : Nat} : lo [] t = none := rfl
theorem chk_true {p : Prop} : chk True p = p := by simp [chk]
theorem chk_and {p q u : Prop} : chk (p ∧ q) u = chk p (chk q u) := by simp [chk, and_assoc]
end
end Go.Proofs.Ytngohbpgdeiodaa.Ab
