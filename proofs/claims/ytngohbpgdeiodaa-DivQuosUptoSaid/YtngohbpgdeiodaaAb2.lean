/-
  The abstract layer: operations. 'AOp': an operation with what its types decide written into it; 'cOp' makes one of an operation of the model; 'ev' says what it gives.
-/
import Derived.Test.YtngohbpgdeiodaaAb1
namespace Go.Proofs.Ytngohbpgdeiodaa.Ab
set_option linter.unusedSimpArgs false
set_option linter.unusedVariables false
open Go Go.RowKit

/-- Operations that look at values alone. -/
inductive PO where
  | eqs (neg : Bool) (ks : List Nat)
  | b2s
  | s2b (e : Nat)
  deriving Inhabited

/-- Truths (0), numbers (1), strings (2) held against one another. -/
def eqc : Nat → V → V → Option Bool
  | 1, .i k a, .i k' b => if k = k' then some (decide (a = b)) else none
  | 0, .b a, .b b => some (a == b)
  | 2, .s a, .s b => some (a == b)
  | _, _, _ => none
def both : Option Bool → Option Bool → Option Bool
  | some a, some b => some (a && b)
  | _, _ => none
def eqcs : List Nat → List V → List V → Option Bool
  | [], [], [] => some true
  | k :: ks, x :: r, y :: q => both (eqc k x y) (eqcs ks r q)
  | _, _, _ => none
/-- Bytes as values. -/
def Bt (l : List UInt8) : List V := l.map fun c => .i .u8 (c.toNat : Int)
def bytesOf : List V → Option (List UInt8)
  | [] => some []
  | .i .u8 n :: r => match bytesOf r with | some l => if 0 ≤ n ∧ n < 256 then some (UInt8.ofNat n.toNat :: l) else none | none => none
  | _ => none
def pureV : PO → List V → Option V
  | .eqs neg ks, [.g xs, .g ys] => (eqcs ks xs ys).map fun t => .b (if neg then !t else t)
  | .b2s, [.l z cs] => if z = 1 then (bytesOf cs).map .s else none
  | .s2b _, [.s l] => if l.length ≤ 9223372036854775807 then some (.l 1 (Bt l)) else none
  | _, _ => none

inductive AOp where
  | mv (x : X)
  | pick (c a b : X)
  | bin (op : BinOp) (x y : X)
  | eqb (neg : Bool) (x y : X)
  | un (op : UnOp) (x : X)
  | cvt (k : IntKind) (x : X)
  | six (x i : X)
  | idx (sz : Nat) (x i : X)
  | ld (ag : Bool) (n : Nat) (p : X)
  | st (n : Nat) (p x : X)
  | fad (off : Nat) (p : X)
  | fld (ag : Bool) (off n : Nat) (x : X)
  | bld (zero : List V) (ps : List (Nat × Nat × X))
  | bsl (e sz n : Nat) (zero : List V) (ps : List (Nat × X))
  | mk (e sz bytes : Nat) (zero : List V) (l c : X)
  | sub (sz : Nat) (x : X) (lo hi : Option X)
  | ssub (x : X) (lo hi : Option X)
  | len (x : X)
  | slen (x : X)
  | app (e sz bytes : Nat) (s x : X)
  | al (e : Nat) (zero : List V)
  | ext (x : X) (ix : Nat)
  | call (f : Nat) (args : List (Nat × X))
  | xcall (f : Nat) (args : List X)
  | nc (x : X)
  | mm (mx : Bool) (x y : X)
  | isn (neg : Bool) (x : X)
  | bx (e : Nat) (x : X)
  | pur (p : PO) (xs : List X)
  | cpy (sz : Nat) (x y : X)
  | bad
  deriving Inhabited

/-! ### a side condition, a way -/
def chk (p q : Prop) : Prop := p ∧ q
theorem chk_of {p q : Prop} (h : p) : chk p q = q := by simp [chk, h]
theorem chk_mk {p q : Prop} (h : p) (k : q) : chk p q := ⟨h, k⟩
theorem chk_congr {p p' q : Prop} (h : p = p') : chk p q = chk p' q := by rw [h]
def cnd (v : V) (p q : Prop) : Prop := match v with | .b t => (t = true → p) ∧ (t = false → q) | _ => False
theorem cnd_true {p q : Prop} : cnd (.b true) p q = p := by simp [cnd]
theorem cnd_false {p q : Prop} : cnd (.b false) p q = q := by simp [cnd]
theorem cnd_mk {t : Bool} {p q : Prop} (h : t = true → p) (k : t = false → q) : cnd (.b t) p q := ⟨h, k⟩
theorem cnd_congr {v v' : V} {p q : Prop} (h : v = v') : cnd v p q = cnd v' p q := by rw [h]

/-! ### numbers -/
def bi (op : BinOp) (k : IntKind) (a : Int) (k' : IntKind) (b : Int) (K : V → Prop) : Prop :=
  match op with
  | .add => chk (k = k') (K (.i k (k.wrap (a + b))))
  | .sub => chk (k = k') (K (.i k (k.wrap (a - b))))
  | .mul => chk (k = k') (K (.i k (k.wrap (a * b))))
  | .quo => chk (k = k' ∧ b ≠ 0) (K (.i k (k.wrap (a.tdiv b))))
  | .rem => chk (k = k' ∧ b ≠ 0) (K (.i k (a.tmod b)))
  | .and => chk (k = k') (K (.i k (bits .and k a b)))
  | .or => chk (k = k') (K (.i k (bits .or k a b)))
  | .xor => chk (k = k') (K (.i k (bits .xor k a b)))
  | .andNot => chk (k = k') (K (.i k (bits .andNot k a b)))
  | .shl => chk (0 ≤ b) (K (.i k (k.wrap (a * 2 ^ (min b.toNat k.bits)))))
  | .shr => chk (0 ≤ b) (K (.i k (a.fdiv (2 ^ (min b.toNat k.bits)))))
  | .eql => chk (k = k') (K (.b (decide (a = b))))
  | .neq => chk (k = k') (K (.b (decide (¬ a = b))))
  | .lss => chk (k = k') (K (.b (decide (a < b))))
  | .leq => chk (k = k') (K (.b (decide (a ≤ b))))
  | .gtr => chk (k = k') (K (.b (decide (b < a))))
  | .geq => chk (k = k') (K (.b (decide (b ≤ a))))
  
def bs (op : BinOp) (a b : List UInt8) (K : V → Prop) : Prop :=
  match op with
  | .add => chk (a.length + b.length ≤ 9223372036854775807) (K (.s (a ++ b)))
  | .eql => K (.b (a == b))
  | .neq => K (.b (!(a == b)))
  | _ => False

/-- What a value reads as, handed to a call or laid into memory. -/
def rd (ob : Nat → Option Ob) (sz : Nat) : V → V
  | .ow _ id _ => match ob id with | some o => if o.isv then .any else .l o.sz o.cs | none => .any
  | .sl _ id off n => match ob id with | some o => if o.isv then .any else .l o.sz ((o.cs.drop off).take (n * o.sz)) | none => .any
  | .nl => .l sz []
  | v => v

/-- What a call is handed: nil may be told. -/
def rdb (n : Bool) (ob : Nat → Option Ob) (sz : Nat) (v : V) : V := match n, v with | true, .nl => .nl | _, v => rd ob sz v

/-- An own row is a part of itself. -/
def asSl : V → V
  | .ow sz i n => .sl sz i 0 n
  | v => v

/-- A part of an object lies in it. -/
def okR (ob : Nat → Option Ob) : V → Prop
  | .sl _ id off n => match ob id with | some o => off + n * o.sz ≤ o.cs.length | none => False
  | _ => True

def okRs (ob : Nat → Option Ob) : List V → Prop
  | [] => True
  | v :: r => okR ob v ∧ okRs ob r

/-- The objects that a value leans on are frozen. -/
def frz (ob : Nat → Option Ob) : V → List (Nat × Option Ob)
  | .ow _ id _ | .sl _ id _ _ => match ob id with | some o => [(id, some { o with mu := false })] | none => []
  | _ => []

/-- May it be handed to a call? -/
def V.okArg : V → Bool
  | .i _ _ | .b _ | .s _ | .l _ _ | .g _ | .ip _ _ | .c _ => true
  | _ => false

/-- The cells that a value takes. -/
def V.cells : V → List V
  | .g cs => cs
  | v => [v]

def setAt {α : Type} (cs : List α) (k : Nat) : List α → List α
  | [] => cs
  | v :: r => setAt (cs.set k v) (k + 1) r

def setAll (cs : List V) : List (Nat × List V) → List V
  | [] => cs
  | (k, vs) :: r => setAll (setAt cs k vs) r

def fitAll (n : Nat) : List (Nat × List V) → Bool
  | [] => true
  | (k, vs) :: r => decide (k + vs.length ≤ n) && vs.all V.cell && fitAll n r

section
variable (F G : Nat → List V → V → Prop)

def ev (ρ : X → V) (ob : Nat → Option Ob) (id : Nat) (K : V → List (Nat × Option Ob) → Prop) : AOp → Prop
  | .mv x => K (ρ x) []
  | .pick c a b => cnd (ρ c) (K (ρ a) []) (K (ρ b) [])
  | .bin op x y => match ρ x, ρ y with
    | .i k a, .i k' b => bi op k a k' b fun v => K v []
    | .s a, .s b => bs op a b fun v => K v []
    | _, _ => False
  | .eqb neg x y => match ρ x, ρ y with
    | .b a, .b c => K (.b (if neg then !(a == c) else a == c)) []
    | _, _ => False
  | .un op x => match op, ρ x with
    | .not, .b t => K (.b !t) []
    | .neg, .i k n => K (.i k (k.wrap (0 - n))) []
    | .xor, .i k n => K (.i k (bits .xor k (if k.signed then -1 else k.max) n)) []
    | _, _ => False
  | .cvt k x => match ρ x with
    | .i _ n => K (.i k (k.wrap n)) []
    | _ => False
  | .six x i => match ρ x, ρ i with
    | .s l, .i _ n => chk (0 ≤ n ∧ n < l.length) (K (.i .u8 (l.getD n.toNat 0).toNat) [])
    | _, _ => False
  | .idx sz x i => match ρ x, ρ i with
    | .l s cs, .i _ n => chk (s = sz ∧ 0 ≤ n ∧ n.toNat * sz < cs.length) (K (.ip cs (n.toNat * sz)) [])
    | .ow s j m, .i _ n => chk (s = sz ∧ 0 ≤ n ∧ n < m) (K (.pt j (n.toNat * sz)) [])
    | .sl s j off m, .i _ n => chk (s = sz ∧ 0 ≤ n ∧ n < m) (K (.pt j (off + n.toNat * sz)) [])
    | _, _ => False
  | .ld ag n p => match ρ p with
    | .ip cs k => if ag then chk (k + n ≤ cs.length) (K (.g ((cs.drop k).take n)) []) else chk (k < cs.length) (K (cs.getD k .un) [])
    | .pt j k => match ob j with
      | some o => if ag then chk (k + n ≤ o.cs.length) (K (.g ((o.cs.drop k).take n)) []) else chk (k < o.cs.length) (K (o.cs.getD k .un) [])
      | none => False
    | _ => False
  | .st n p x => match ρ p with
    | .pt j k => match ob j with
      | some o => chk (okR ob (ρ x) ∧ o.mu = true ∧ (frz ob (ρ x)).all (fun q => q.1 != j) = true ∧ (rd ob 1 (ρ x)).cells.length = n ∧ k + n ≤ o.cs.length ∧ (rd ob 1 (ρ x)).cells.all V.cell = true)
          (K .un ((j, some { o with cs := setAt o.cs k (rd ob 1 (ρ x)).cells }) :: frz ob (ρ x)))
      | none => False
    | _ => False
  | .fad off p => match ρ p with
    | .pt j k => K (.pt j (k + off)) []
    | .ip cs k => K (.ip cs (k + off)) []
    | _ => False
  | .fld ag off n x => match ρ x with
    | .g cs => if ag then chk (off + n ≤ cs.length) (K (.g ((cs.drop off).take n)) []) else chk (off < cs.length) (K (cs.getD off .un) [])
    | _ => False
  | .bld zero ps =>
    chk (okRs ob (ps.map fun p => ρ p.2.2) ∧ fitAll zero.length (ps.map fun p => (p.1, (rd ob 1 (ρ p.2.2)).cells)) = true ∧ (ps.all fun p => (rd ob 1 (ρ p.2.2)).cells.length == p.2.1) = true)
      (K (.g (setAll zero (ps.map fun p => (p.1, (rd ob 1 (ρ p.2.2)).cells)))) (ps.flatMap fun p => frz ob (ρ p.2.2)))
  | .bsl e sz n zero ps =>
    chk (okRs ob (ps.map fun p => ρ p.2) ∧ fitAll zero.length (ps.map fun p => (p.1 * sz, (rd ob 1 (ρ p.2)).cells)) = true ∧ (ps.all fun p => (rd ob 1 (ρ p.2)).cells.length == sz) = true)
      (K (.ow sz id n) ((id, some { e, sz, cs := setAll zero (ps.map fun p => (p.1 * sz, (rd ob 1 (ρ p.2)).cells)), mu := true, isv := false }) :: ps.flatMap fun p => frz ob (ρ p.2)))
  | .mk e sz bytes zero l c => match ρ l, ρ c with
    | .i _ a, .i _ b => chk (0 ≤ a ∧ a ≤ b ∧ b * bytes ≤ 281474976710656 ∧ b ≤ 1099511627776)
        (K (.ow sz id a.toNat) [(id, some { e, sz, cs := (List.replicate a.toNat zero).flatten, mu := true, isv := false })])
    | _, _ => False
  | .sub sz x lo hi => match ρ x with
    | .l s cs =>
      match lo.map ρ, hi.map ρ with
      | none, none => chk (s = sz) (K (.l s cs) [])
      | some (.i _ a), none => chk (s = sz ∧ 0 ≤ a ∧ a.toNat * sz ≤ cs.length) (K (.l s (cs.drop (a.toNat * sz))) [])
      | none, some (.i _ b) => chk (s = sz ∧ 0 ≤ b ∧ b.toNat * sz ≤ cs.length) (K (.l s (cs.take (b.toNat * sz))) [])
      | some (.i _ a), some (.i _ b) => chk (s = sz ∧ 0 ≤ a ∧ a ≤ b ∧ b.toNat * sz ≤ cs.length) (K (.l s ((cs.take (b.toNat * sz)).drop (a.toNat * sz))) [])
      | _, _ => False
    | .ow s j m =>
      match lo.map ρ, hi.map ρ with
      | none, none => chk (s = sz) (K (.ow s j m) [])
      | some (.i _ a), none => chk (s = sz ∧ 0 ≤ a ∧ a ≤ m) (K (.sl s j (a.toNat * sz) (m - a.toNat)) [])
      | none, some (.i _ b) => chk (s = sz ∧ 0 ≤ b ∧ b ≤ m) (K (.sl s j 0 b.toNat) [])
      | some (.i _ a), some (.i _ b) => chk (s = sz ∧ 0 ≤ a ∧ a ≤ b ∧ b ≤ m) (K (.sl s j (a.toNat * sz) (b.toNat - a.toNat)) [])
      | _, _ => False
    | .sl s j off m =>
      match lo.map ρ, hi.map ρ with
      | none, none => chk (s = sz) (K (.sl s j off m) [])
      | some (.i _ a), none => chk (s = sz ∧ 0 ≤ a ∧ a ≤ m) (K (.sl s j (off + a.toNat * sz) (m - a.toNat)) [])
      | none, some (.i _ b) => chk (s = sz ∧ 0 ≤ b ∧ b ≤ m) (K (.sl s j off b.toNat) [])
      | some (.i _ a), some (.i _ b) => chk (s = sz ∧ 0 ≤ a ∧ a ≤ b ∧ b ≤ m) (K (.sl s j (off + a.toNat * sz) (b.toNat - a.toNat)) [])
      | _, _ => False
    | .nl =>
      match lo.map ρ, hi.map ρ with
      | none, none => K .nl []
      | some (.i _ a), none => chk (a = 0) (K .nl [])
      | none, some (.i _ b) => chk (b = 0) (K .nl [])
      | some (.i _ a), some (.i _ b) => chk (a = 0 ∧ b = 0) (K .nl [])
      | _, _ => False
    | _ => False
  | .ssub x lo hi => match ρ x with
    | .s l =>
      match lo.map ρ, hi.map ρ with
      | none, none => K (.s l) []
      | some (.i _ a), none => chk (0 ≤ a ∧ a ≤ l.length) (K (.s (l.drop a.toNat)) [])
      | none, some (.i _ b) => chk (0 ≤ b ∧ b ≤ l.length) (K (.s (l.take b.toNat)) [])
      | some (.i _ a), some (.i _ b) => chk (0 ≤ a ∧ a ≤ b ∧ b ≤ l.length) (K (.s ((l.take b.toNat).drop a.toNat)) [])
      | _, _ => False
    | _ => False
  | .slen x => match ρ x with
    | .s l => K (.i .i64 l.length) []
    | _ => False
  | .len x => match ρ x with
    | .l s cs => K (.i .i64 ((cs.length / s : Nat) : Int)) []
    | .ow _ _ m => K (.i .i64 m) []
    | .sl _ _ _ m => K (.i .i64 m) []
    | .nl => K (.i .i64 0) []
    | _ => False
  | .app e sz bytes s x =>
    match ρ s, rd ob sz (ρ x) with
    | .nl, .l s' xs => chk (okR ob (ρ x) ∧ s' = sz ∧ xs.all V.cell = true ∧ xs.length / sz * bytes ≤ 70368744177664 ∧ xs.length / sz ≤ 1099511627776)
        (K (.ow sz id (xs.length / sz)) ((id, some { e, sz, cs := xs, mu := true, isv := false }) :: []))
    | .ow s1 j m, .l s' xs => match ob j with
      | some o => chk (okR ob (ρ x) ∧ s1 = sz ∧ s' = sz ∧ o.e = e ∧ o.sz = sz ∧ o.mu = true ∧ o.isv = false ∧ xs.all V.cell = true ∧ (m + xs.length / sz) * bytes ≤ 70368744177664 ∧ m + xs.length / sz ≤ 1099511627776)
          (K (.ow sz id (m + xs.length / sz)) [(j, none), (id, some { o with cs := o.cs ++ xs })])
      | none => False
    | _, _ => False
  | .al e zero => K (.pt id 0) [(id, some { e, sz := zero.length, cs := zero, mu := true, isv := true })]
  | .ext x ix => match ρ x with
    | .t vs => chk (ix < vs.length) (K (vs.getD ix .un) [])
    | _ => False
  | .call f args =>
    chk (okRs ob (args.map fun p => ρ p.2) ∧ (args.all fun p => (rd ob p.1 (ρ p.2)).okArg) = true) <|
    ∃ n r, F f (args.map fun p => rdb n ob p.1 (ρ p.2)) r ∧
      match r with
      | .o e sz cs => chk (0 < sz) (K (.ow sz id (cs.length / sz)) ((id, some { e, sz, cs, mu := true, isv := false }) :: if r.hasL then args.flatMap fun p => frz ob (ρ p.2) else []))
      | .fr r => K r []
      | r => K r (if r.hasL then args.flatMap fun p => frz ob (ρ p.2) else [])
  | .xcall f args => ∃ r, G f (args.map ρ) r ∧ K r []
  | .nc x => match ρ x with
    | .pt j k => K (.pt j k) []
    | .ip cs k => K (.ip cs k) []
    | _ => False
  | .mm mx x y => match ρ x, ρ y with
    | .i k a, .i k' b => chk (k = k') (K (.i k (if mx then max a b else min a b)) [])
    | _, _ => False
  | .isn neg x => match ρ x with
    | .nl => K (.b (!neg)) []
    | .l _ cs => ∀ t : Bool, (t = true → cs = []) → K (.b (t != neg)) []
    | .ow _ _ n => ∀ t : Bool, (t = true → n = 0) → K (.b (t != neg)) []
    | _ => False
  | .bx e x => chk (okR ob (ρ x) ∧ (rd ob 1 (ρ x)).cells.all V.cell = true)
      (K (.pt id 0) ((id, some { e, sz := (rd ob 1 (ρ x)).cells.length, cs := (rd ob 1 (ρ x)).cells, mu := true, isv := true }) :: frz ob (ρ x)))
  | .cpy sz x y => match asSl (ρ x), rd ob sz (ρ y) with
    | .sl s1 j off m, .l s' xs => match ob j with
      | some o => chk (okR ob (ρ y) ∧ s1 = sz ∧ s' = sz ∧ o.mu = true ∧ off + m * sz ≤ o.cs.length ∧ xs.all V.cell = true)
          (K (.i .i64 ((min (xs.length / sz) m : Nat) : Int)) [(j, some { o with cs := setAt o.cs off (xs.take (m * sz)) })])
      | none => False
    | _, _ => False
  | .bad => False
  | .pur p xs => chk (okRs ob (xs.map ρ)) (match pureV p (xs.map fun x => rd ob 1 (ρ x)) with | some v => K v [] | none => False)
end

end Go.Proofs.Ytngohbpgdeiodaa.Ab
