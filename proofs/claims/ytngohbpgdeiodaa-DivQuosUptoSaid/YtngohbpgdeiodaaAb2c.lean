/-
  The abstract layer: from the model's operation to 'AOp'.
-/
import Derived.Test.YtngohbpgdeiodaaAb2
namespace Go.Proofs.Ytngohbpgdeiodaa.Ab
set_option linter.unusedSimpArgs false
set_option linter.unusedVariables false
open Go Go.RowKit

def cS : Value → V
  | .int k n => .i k n
  | .bool b => .b b
  | .string s => .s s.data.toList
  | .slice none 0 0 => .l 1 []
  | v => .c v

def cV : Value → V
  | .slice none 0 0 => .nl
  | .agg cs => .g (cs.toList.map cS)
  | v => cS v

def cX : Operand → Option X
  | .tmp t => some (.t t)
  | .const v => some (.k (cV v))
  | .func f => some (.k (.c (.func (.func f) #[] #[])))
  | .global _ => some (.k .any)

/-- size, bytes, zero cells of a type -/
def tyOf (P : Program) (t : TypeId) : Option (Nat × Nat × List V) :=
  match P.info? t with
  | some i => match i.zero with
    | some z => if z.cells.size = i.size ∧ 0 < i.size ∧ (z.cells.toList.map cS).all V.cell = true then some (i.size, i.bytes, z.cells.toList.map cS) else none
    | none => none
  | none => none

def isAg (P : Program) (t : TypeId) : Bool :=
  match P.underlying t with
  | some (.struct _) | some (.array _ _) => true
  | _ => false

def hasU (P : Program) (t : TypeId) : Bool := (P.underlying t).isSome

def elOf (P : Program) (t : TypeId) : Option TypeId :=
  match P.underlying t with
  | some (.slice e) => some e
  | _ => none

def cX? : Option Operand → Option (Option X)
  | none => some none
  | some x => (cX x).map some

def cXs : List Operand → Option (List X)
  | [] => some []
  | x :: r => match cX x, cXs r with
    | some x, some r => some (x :: r)
    | _, _ => none

def cArgs (P : Program) : List (Operand × TypeId) → Option (List (Nat × X))
  | [] => some []
  | (x, t) :: r => match cX x, cArgs P r with
    | some x, some r =>
      (match elOf P t with
        | some e => (match tyOf P e with | some (sz, _, _) => some ((sz, x) :: r) | none => none)
        | none => some ((1, x) :: r))
    | _, _ => none

def cParts (P : Program) (fields : Array Field) : List (Nat × Operand) → Option (List (Nat × Nat × X))
  | [] => some []
  | (i, x) :: r => match cX x, cParts P fields r, fields[i]? with
    | some x, some r, some f => (match P.info? f.type with | some ti => some ((f.offset, ti.size, x) :: r) | none => none)
    | _, _, _ => none

def cPartsL : List (Nat × Operand) → Option (List (Nat × X))
  | [] => some []
  | (i, x) :: r => match cX x, cPartsL r with
    | some x, some r => some ((i, x) :: r)
    | _, _ => none

def scalar (P : Program) (t : TypeId) : Bool :=
  match P.underlying t with
  | some (.int _) | some .string => true
  | _ => false

def cCall (P : Program) (c : Call) : Option AOp :=
  match c.callee with
  | .builtin .len => match c.args.toList, c.argTypes.toList with
    | [x], [t] => (match P.underlying t, cX x with | some .string, some x => some (.slen x) | some (.slice _), some x => some (.len x) | _, _ => none)
    | _, _ => none
  | .builtin .append => match c.args.toList, c.argTypes.toList with
    | [s, x], [t, t'] => if t = t' then (match elOf P t, cX s, cX x with
      | some e, some s, some x => (match tyOf P e with | some (sz, by_, _) => some (.app e sz by_ s x) | none => none)
      | _, _, _ => none) else none
    | _, _ => none
  | .builtin .max => match c.args.toList with
    | [x, y] => (match cX x, cX y with | some x, some y => some (.mm true x y) | _, _ => none)
    | _ => none
  | .builtin .min => match c.args.toList with
    | [x, y] => (match cX x, cX y with | some x, some y => some (.mm false x y) | _, _ => none)
    | _ => none
  | .builtin .copy => match c.args.toList, c.argTypes.toList with
    | [x, y], [t, t'] => (match elOf P t, cX x, cX y with
      | some e, some x, some y => (match P.info? e with | some ti => if 0 < ti.size then some (.cpy ti.size x y) else none | none => none)
      | _, _, _ => none)
    | _, _ => none
  | .value (.func f) => match P.funcs[f]? with
    | some fn => if fn.name == "runtime.NumGoroutine" then none else if fn.body.isSome then
        (if c.args.size = c.argTypes.size then (match cArgs P (c.args.toList.zip c.argTypes.toList) with | some xs => some (.call f xs) | none => none) else none)
      else (match cXs c.args.toList with | some xs => some (.xcall f xs) | none => none)
    | none => none
  | _ => none

/-- A struct of numbers, truths and strings, a cell each: how is it compared? -/
def kindOf (P : Program) (t : TypeId) : Option Nat :=
  match P.underlying t with
  | some .bool => some 0
  | some (.int _) => some 1
  | some .string => some 2
  | _ => none
def flatF (P : Program) : Nat → List Field → Option (List Nat)
  | _, [] => some []
  | k, f :: r => match kindOf P f.type, flatF P (k + 1) r with
    | some n, some l => if f.name != "_" && f.offset == k then some (n :: l) else none
    | _, _ => none
def flatS (P : Program) (t : TypeId) : Option (List Nat) :=
  match P.underlying t with
  | some (.struct fs) => if !P.stoodInHeld t && !P.eqGuardType P.depth t then flatF P 0 fs.toList else none
  | _ => none

def cOp (P : Program) : Op → Option AOp
  | .move x | .assign x => (cX x).map .mv
  | .pick c a b => match cX c, cX a, cX b with | some c, some a, some b => some (.pick c a b) | _, _, _ => none
  | .binOp op t x y _ => match cX x, cX y, P.underlying t with
    | some x, some y, some (.int _) => some (.bin op x y)
    | some x, some y, some .string => some (.bin op x y)
    | some x, some y, some .bool => (match op with | .eql => some (.eqb false x y) | .neq => some (.eqb true x y) | _ => none)
    | some x, some (.k .nl), some (.slice _) => (match op with | .eql => some (.isn false x) | .neq => some (.isn true x) | _ => none)
    | some x, some y, some (.struct _) => (match flatS P t with | some ks => (match op with | .eql => some (.pur (.eqs false ks) [x, y]) | .neq => some (.pur (.eqs true ks) [x, y]) | _ => none) | none => none)
    | _, _, _ => none
  | .unOp op _ x => (cX x).map (.un op)
  | .convert s d x => match P.underlying s, P.underlying d, cX x with
    | some (.int _), some (.int k), some x => some (.cvt k x)
    | some .string, some (.slice e), some x => (match P.underlying e with | some (.int .u8) => some (.pur (.s2b e) [x]) | _ => none)
    | some (.slice e), some .string, some x => (match P.underlying e with | some (.int .u8) => some (.pur .b2s [x]) | _ => none)
    | _, _, _ => none
  | .index t x i => match P.underlying t, cX x, cX i with
    | some .string, some x, some i => some (.six x i)
    | _, _, _ => none
  | .indexAddr t x i => match elOf P t, cX x, cX i with
    | some e, some x, some i => (match P.info? e with | some ti => if 0 < ti.size then some (.idx ti.size x i) else none | none => none)
    | _, _, _ => none
  | .load t p => match cX p, P.info? t, P.underlying t with
    | some p, some ti, some _ => some (.ld (isAg P t) ti.size p)
    | _, _, _ => none
  | .store t p x => match cX p, cX x, P.info? t with
    | some p, some x, some ti => some (.st ti.size p x)
    | _, _, _ => none
  | .fieldAddr t p f => match P.underlying t, cX p with
    | some (.struct fs), some p => (match fs[f]? with
      | some fd => (match P.info? fd.type with | some ti => if 0 < ti.size then some (.fad fd.offset p) else none | none => none)
      | none => none)
    | _, _ => none
  | .field t x f => match P.underlying t, cX x with
    | some (.struct fs), some x => (match fs[f]? with
      | some fd => (match P.info? fd.type, P.underlying fd.type with | some ti, some _ => some (.fld (isAg P fd.type) fd.offset ti.size x) | _, _ => none)
      | none => none)
    | _, _ => none
  | .build t ps => match P.underlying t, tyOf P t with
    | some (.struct fs), some (_, _, z) => if (fs.toList.mapM (fun f => (P.info? f.type).map fun i => (f.offset, i.size))).isSome then (match cParts P fs ps.toList with | some ps => some (.bld z ps) | none => none) else none
    | _, _ => none
  | .buildSlice t n ps => match elOf P t with
    | some e => (match tyOf P e, cPartsL ps.toList with
      | some (sz, _, z), some ps => if n * sz ≤ 65536 then some (.bsl e sz n ((List.replicate n z).flatten) ps) else none
      | _, _ => none)
    | none => none
  | .makeSlice t l c => match elOf P t, cX l, cX c with
    | some e, some l, some c => (match tyOf P e with | some (sz, by_, z) => some (.mk e sz by_ z l c) | none => none)
    | _, _, _ => none
  | .slice t x lo hi none => match P.underlying t, cX x, cX? lo, cX? hi with
    | some .string, some x, some lo, some hi => some (.ssub x lo hi)
    | some (.slice e), some x, some lo, some hi => (match P.info? e with | some ti => if 0 < ti.size then some (.sub ti.size x lo hi) else none | none => none)
    | _, _, _, _ => none
  | .alloc t => match tyOf P t with | some (_, _, z) => some (.al t z) | none => none
  | .extract x i => (cX x).map (.ext · i)
  | .box e x => (cX x).map (.bx e)
  | .nilCheck x => (cX x).map .nc
  | .call c => cCall P c
  | _ => none

/-- An operation that the layer does not know gives nothing. -/
def cOpB (P : Program) (o : Op) : Option AOp := some ((cOp P o).getD .bad)

end Go.Proofs.Ytngohbpgdeiodaa.Ab
