/-
  The abstract layer: soundness of operations, first part (those that touch no object).
-/
import Derived.Test.YtngohbpgdeiodaaAb2c
import Derived.WalkSpells
import Derived.Lib.SliceRun
namespace Go.Proofs.Ytngohbpgdeiodaa.Ab
set_option linter.unusedSimpArgs false
set_option linter.unusedVariables false
open Go Go.RowKit

section inv
variable {w : World} {H : Nat → Prop} {ov : Nat → Option Value} {v : Value}
theorem Rep.inv_i {k : IntKind} {n : Int} (h : Rep w H ov v (.i k n)) : v = .int k n := by cases h with | base h => cases h; rfl
theorem Rep.inv_b {x : Bool} (h : Rep w H ov v (.b x)) : v = .bool x := by cases h with | base h => cases h; rfl
theorem Rep.inv_s {l : List UInt8} (h : Rep w H ov v (.s l)) : v = .string ⟨l.toArray⟩ := by cases h with | base h => cases h; rfl
theorem Rep.inv_nl (h : Rep w H ov v .nl) : v = .slice none 0 0 := by cases h with | base h => cases h; rfl
theorem Rep.inv_un (h : Rep w H ov v .un) : v = undef := by cases h with | base h => cases h; rfl
theorem Rep.inv_c {u : Value} (h : Rep w H ov v (.c u)) : v = u := by cases h with | base h => cases h; rfl
theorem Rep.inv_g {cs : List V} (h : Rep w H ov v (.g cs)) : ∃ vs : List Value, v = .agg vs.toArray ∧ RepAll w H vs cs := by
  cases h with | base h => cases h with | g vs cs hn hr => exact ⟨vs, rfl, hn, hr⟩
theorem Rep.inv_t {cs : List V} (h : Rep w H ov v (.t cs)) : ∃ vs : List Value, v = .tuple vs.toArray ∧ RepAll w H vs cs := by
  cases h with | base h => cases h with | t vs cs hn hr => exact ⟨vs, rfl, hn, hr⟩
theorem Rep0.inv_l {sz : Nat} {cs : List V} (h : Rep0 w H v (.l sz cs)) : ∃ a n cap, ∃ (f : Nat → Value) (b o : Nat), v = .slice a n cap ∧ 0 < sz ∧ cs.length = n * sz ∧ n ≤ maxLen ∧ n ≤ cap ∧ (cs = [] ∨ (a = some ⟨b, o, none⟩ ∧ H b)) ∧
    (∀ j, j < cs.length → w.cell? ⟨b, o + j, none⟩ = some (f j)) ∧ (∀ (j : Nat) (x : V), cs[j]? = some x → Rep0 w H (f j) x) := by
  cases h with | l a n cap sz cs f b o hsz hn hm hcp ha hc hr => exact ⟨a, n, cap, f, b, o, rfl, hsz, hn, hm, hcp, ha, hc, hr⟩
theorem Rep.inv_l {sz : Nat} {cs : List V} (h : Rep w H ov v (.l sz cs)) : ∃ a n cap, ∃ (f : Nat → Value) (b o : Nat), v = .slice a n cap ∧ 0 < sz ∧ cs.length = n * sz ∧ n ≤ maxLen ∧ n ≤ cap ∧ (cs = [] ∨ (a = some ⟨b, o, none⟩ ∧ H b)) ∧
    (∀ j, j < cs.length → w.cell? ⟨b, o + j, none⟩ = some (f j)) ∧ (∀ (j : Nat) (x : V), cs[j]? = some x → Rep0 w H (f j) x) := (h.down rfl).inv_l
theorem Rep.inv_ip {cs : List V} {k : Nat} (h : Rep w H ov v (.ip cs k)) : ∃ (f : Nat → Value) (b o : Nat), v = .pointer (some ⟨b, o + k, none⟩) ∧ H b ∧ (∀ j, j < cs.length → w.cell? ⟨b, o + j, none⟩ = some (f j)) ∧
    (∀ (j : Nat) (x : V), cs[j]? = some x → Rep0 w H (f j) x) := by
  cases h with | base h => cases h with | ip cs k f b o hb hc hr => exact ⟨f, b, o, rfl, hb, hc, hr⟩
theorem Rep.inv_ow {sz id n : Nat} (h : Rep w H ov v (.ow sz id n)) : ∃ a cap, v = .slice a n cap ∧ ov id = some v ∧ n ≤ maxLen ∧ n ≤ cap ∧ (n = 0 ∨ ∃ b, a = some ⟨b, 0, none⟩) := by
  cases h with | base h => cases h | ow sz id n cap a hm hcp ha ho => exact ⟨a, cap, rfl, ho, hm, hcp, ha⟩
theorem Rep.inv_sl {sz id off n : Nat} (h : Rep w H ov v (.sl sz id off n)) : ∃ a cap u, v = .slice a n cap ∧ n ≤ maxLen ∧ n ≤ cap ∧ ov id = some u ∧ (n = 0 ∨ ∃ b, blk u = some b ∧ a = some ⟨b, off, none⟩) := by
  cases h with | base h => cases h | sl a sz id off n cap u hm hcp ho ha => exact ⟨a, cap, u, rfl, hm, hcp, ho, ha⟩
theorem Rep.inv_pt {id off : Nat} (h : Rep w H ov v (.pt id off)) : ∃ b u, v = .pointer (some ⟨b, off, none⟩) ∧ ov id = some u ∧ blk u = some b := by
  cases h with | base h => cases h | pt id off b u ho hb => exact ⟨b, u, rfl, ho, hb⟩
end inv

/-- What must be shown behind an operation. -/
def Fin (w0 : World) (H0 : Nat → Prop) (w : World) (H : Nat → Prop) (ov : Nat → Option Value) (ob : Nat → Option Ob) (id : Nat) (R : V → List (Nat × Option Ob) → Prop) (a : Act) (dst : Option Tmp) (K : Act → World → Prop) : Prop :=
  ∀ v up cv w' H' ov', R v up → Ext w H ov w' H' ov' → (∀ i, i ≠ id → ov i = none → ov' i = none) → Mem w0 H0 w' H' ov' (upd ob up) → Rep w' H' ov' cv v → K (a.put dst cv) w'

theorem bi_run {P : Program} (op : BinOp) (t : TypeId) (k k' : IntKind) (x y : Int) {R' : V → Prop} (h : bi op k x k' y R') (w : World) :
    ∃ v, (binOp op t (.int k x) (.int k' y)).run P w = .ok v w ∧ ∃ u, R' u ∧ ∀ (w : World) (H : Nat → Prop) (ov : Nat → Option Value), Rep w H ov v u := by
  cases op <;> simp only [bi] at h
  case shl =>
    obtain ⟨h1, h2⟩ := h
    refine ⟨_, ?_, _, h2, fun _ _ _ => .i _ _⟩
    simp [binOp, Op.shift, show ¬ y < 0 by omega]
  case shr =>
    obtain ⟨h1, h2⟩ := h
    refine ⟨_, ?_, _, h2, fun _ _ _ => .i _ _⟩
    simp [binOp, Op.shift, show ¬ y < 0 by omega]
  case quo =>
    obtain ⟨⟨rfl, h1⟩, h2⟩ := h
    exact ⟨_, by simp [binOp, Op.intDiv, h1], _, h2, fun _ _ _ => .i _ _⟩
  case rem =>
    obtain ⟨⟨rfl, h1⟩, h2⟩ := h
    exact ⟨_, by simp [binOp, Op.intDiv, h1], _, h2, fun _ _ _ => .i _ _⟩
  all_goals
    obtain ⟨rfl, h2⟩ := h
    refine ⟨_, ?_, _, h2, fun _ _ _ => by first | exact .i _ _ | exact .b _⟩
    first
      | simp only [binOp_and, binOp_or, binOp_xor, binOp_andNot, intBits_and, intBits_or, intBits_xor, intBits_andNot, Sem.run_pure]
      | (simp [binOp, Op.intArith, Op.intCmp]; done)
      | (simp [binOp, Op.intArith, Op.intCmp, bne]; done)
      | (simp only [binOp_eql, binOp_neq, Sem.run_pure, show (x == y) = decide (x = y) from Bool.eq_iff_iff.2 (by simp), bne, decide_not])


theorem size_str (l : List UInt8) : (⟨l.toArray⟩ : ByteArray).size = l.length := by simp [ByteArray.size]

theorem cS_nl (v : Value) : cS v ≠ .nl := by
  intro h
  unfold cS at h
  split at h <;> cases h
theorem eval_nl {a : Act} {y : Operand} (h : cX y = some (.k .nl)) : a.eval y = .slice none 0 0 := by
  cases y with
  | const v =>
    simp only [cX, Option.some.injEq, X.k.injEq] at h
    show v = _
    unfold cV at h
    split at h
    · rfl
    · cases h
    · exact absurd h (cS_nl _)
  | func f => simp [cX] at h
  | tmp t => simp [cX] at h
  | global g => simp [cX] at h

section ops
variable {P : Program} {w0 w : World} {H0 : Nat → Prop} {H : Nat → Prop} {ov : Nat → Option Value} {ob : Nat → Option Ob} {id : Nat} {ρ : X → V} {a : Act} {o : Oper} {K : Act → World → Prop} {Q : Exit → Act → World → Prop}
  {R : V → List (Nat × Option Ob) → Prop}

theorem upd_nil (ob : Nat → Option Ob) : upd ob [] = ob := rfl

theorem fin_same (hm : Mem w0 H0 w H ov ob) (hF : Fin w0 H0 w H ov ob id R a o.dst K) {cv : Value} {v : V} (hrun : (execOp a.eval o).run P w = .ok (.value cv) w) (hr : Rep w H ov cv v) (hR : R v []) : o.wp P a w K Q := by
  unfold Oper.wp
  rw [hrun]
  exact hF v [] cv w H ov hR (Ext.refl _ _ _) (fun _ _ h => h) hm hr

theorem chk_get {p q : Prop} (h : chk p q) : p ∧ q := h

variable (hm : Mem w0 H0 w H ov ob) (hρ : ∀ p x, cX p = some x → Rep w H ov (a.eval p) (ρ x)) (hF : Fin w0 H0 w H ov ob id R a o.dst K)
include hm hρ hF

theorem s_mv {x : Operand} {y : X} (hop : o.op = .move x ∨ o.op = .assign x) (hx : cX x = some y) (h : R (ρ y) []) : o.wp P a w K Q := by
  refine fin_same hm hF (cv := a.eval x) ?_ (hρ x y hx) h
  rcases hop with hop | hop <;> simp [execOp, hop]

theorem s_pick {c x y : Operand} {c' x' y' : X} (hop : o.op = .pick c x y) (hc : cX c = some c') (hx : cX x = some x') (hy : cX y = some y') (h : cnd (ρ c') (R (ρ x') []) (R (ρ y') [])) : o.wp P a w K Q := by
  have h1 := hρ c c' hc
  cases hv : ρ c' <;> rw [hv] at h h1 <;> simp only [cnd] at h
  case b t =>
    have e := h1.inv_b
    cases t
    · exact fin_same hm hF (cv := a.eval y) (by simp [execOp, hop, e, asBool]) (hρ y y' hy) (h.2 rfl)
    · exact fin_same hm hF (cv := a.eval x) (by simp [execOp, hop, e, asBool]) (hρ x x' hx) (h.1 rfl)

theorem s_bin {op : BinOp} {t t' : TypeId} {x y : Operand} {x' y' : X} (hop : o.op = .binOp op t x y t') (hx : cX x = some x') (hy : cX y = some y')
    (h : ev (fun _ _ _ => False) (fun _ _ _ => False) ρ ob id R (.bin op x' y')) : o.wp P a w K Q := by
  have h1 := hρ x x' hx
  have h2 := hρ y y' hy
  simp only [ev] at h
  cases hv : ρ x' <;> rw [hv] at h h1 <;> (try simp only [] at h)
  case i k n =>
    cases hu : ρ y' <;> rw [hu] at h h2 <;> (try simp only [] at h)
    case i k' m =>
      obtain ⟨v, hrun, u, hR, hr⟩ := bi_run (P := P) op t k k' n m h w
      refine fin_same hm hF (cv := v) ?_ (hr _ _ _) hR
      simp [execOp, hop, h1.inv_i, h2.inv_i, eqGuard_at_int, hrun]
  case s l =>
    cases hu : ρ y' <;> rw [hu] at h h2 <;> (try simp only [] at h)
    case s l' =>
      have tl : ∀ l : List UInt8, (⟨l.toArray⟩ : ByteArray).toList = l := ByteArray.toList_mk
      cases op <;> simp only [bs] at h
      case add =>
        obtain ⟨hs, hR⟩ := h
        refine fin_same hm hF (cv := .string ⟨(l ++ l').toArray⟩) ?_ (.s _) hR
        have hsz : ¬ ((9223372036854775807 : Int) < ((⟨l.toArray⟩ : ByteArray).size + (⟨l'.toArray⟩ : ByteArray).size : Nat)) := by
          have e1 : (⟨l.toArray⟩ : ByteArray).size = l.length := by simp [ByteArray.size]
          have e2 : (⟨l'.toArray⟩ : ByteArray).size = l'.length := by simp [ByteArray.size]
          omega
        simp only [execOp, hop, h1.inv_s, h2.inv_s, eqGuard_at_string, binOp, Op.stringOp, Sem.run_bind, Sem.run_pure, Result.andThen_ok, IntKind.max_i64, gt_iff_lt]
        rw [if_neg hsz]
        simp [ByteArray.ext_iff]
      case eql =>
        refine fin_same hm hF (cv := .bool (l == l')) ?_ (.b _) h
        simp [execOp, hop, h1.inv_s, h2.inv_s, eqGuard_at_string, binOp, Op.stringOp, tl]
      case neq =>
        refine fin_same hm hF (cv := .bool (!(l == l'))) ?_ (.b _) h
        simp [execOp, hop, h1.inv_s, h2.inv_s, eqGuard_at_string, binOp, Op.stringOp, tl]

theorem s_eqb {op : BinOp} {t t' : TypeId} {x y : Operand} {x' y' : X} {neg : Bool} (hop : o.op = .binOp op t x y t') (hn : op = if neg then .neq else .eql) (ht : P.underlying t = some .bool) (hx : cX x = some x') (hy : cX y = some y')
    (h : ev (fun _ _ _ => False) (fun _ _ _ => False) ρ ob id R (.eqb neg x' y')) : o.wp P a w K Q := by
  have h1 := hρ x x' hx
  have h2 := hρ y y' hy
  simp only [ev] at h
  cases hv : ρ x' <;> rw [hv] at h h1 <;> (try simp only [] at h)
  case b n =>
    cases hu : ρ y' <;> rw [hu] at h h2 <;> (try simp only [] at h)
    case b m =>
      refine fin_same hm hF (cv := .bool (if neg then !(n == m) else n == m)) ?_ (.b _) h
      cases neg <;> (simp only [Bool.false_eq_true, if_false, if_true] at hn; subst hn; simp only [execOp, hop, h1.inv_b, h2.inv_b, eqGuard_at_bool, Sem.run_bind, Sem.run_pure, Result.andThen_ok, run_eql_bool w t n m ht, run_neq_bool w t n m ht, Bool.false_eq_true, if_false, if_true])

theorem s_isn {op : BinOp} {t t' e : TypeId} {x y : Operand} {x' : X} {neg : Bool} (hop : o.op = .binOp op t x y t') (hn : op = if neg then .neq else .eql) (ht : P.underlying t = some (.slice e)) (hx : cX x = some x') (hy : cX y = some (.k .nl))
    (h : ev (fun _ _ _ => False) (fun _ _ _ => False) ρ ob id R (.isn neg x')) : o.wp P a w K Q := by
  have h1 := hρ x x' hx
  have e2 := eval_nl (a := a) hy
  have run : ∀ (b : Option Addr) (n c : Nat), a.eval x = .slice b n c → (execOp a.eval o).run P w = .ok (.value (.bool (b.isNone != neg))) w := fun b n c e1 => by
    have g : eqGuard op t x y (.slice b n c) (.slice none 0 0) = pure () := by cases neg <;> (simp only [Bool.false_eq_true, if_false, if_true] at hn; subst hn; simp [eqGuard])
    cases neg <;> (simp only [Bool.false_eq_true, if_false, if_true] at hn; subst hn; simp only [execOp, hop, e1, e2, g, Sem.run_bind, Sem.run_pure, Result.andThen_ok, Lib.run_eql_slice_nil w t e b n c 0 0 ht, run_neq_slice_nil_any w t e b n c 0 0 ht]; cases b <;> rfl)
  simp only [ev] at h
  cases hv : ρ x' <;> rw [hv] at h h1 <;> (try exact h.elim)
  case nl =>
    refine fin_same hm hF (cv := .bool ((none : Option Addr).isNone != neg)) (run none 0 0 h1.inv_nl) (.b _) ?_
    cases neg <;> exact h
  case l sz cs =>
    obtain ⟨b, n, cap, f, g, o', e1, h3, h4, h5, h6, h7, _⟩ := h1.inv_l
    refine fin_same hm hF (run b n cap e1) (.b _) (h _ fun hb => ?_)
    rcases h7 with h7 | ⟨rfl, _⟩
    · exact h7
    · cases hb
  case ow sz j n =>
    obtain ⟨b, cap, e1, _, _, _, h7⟩ := h1.inv_ow
    refine fin_same hm hF (run b n cap e1) (.b _) (h _ fun hb => ?_)
    rcases h7 with h7 | ⟨g, rfl⟩
    · exact h7
    · cases hb

theorem s_un {op : UnOp} {t : TypeId} {x : Operand} {x' : X} (hop : o.op = .unOp op t x) (hx : cX x = some x')
    (h : ev (fun _ _ _ => False) (fun _ _ _ => False) ρ ob id R (.un op x')) : o.wp P a w K Q := by
  have h1 := hρ x x' hx
  simp only [ev] at h
  cases op <;> cases hv : ρ x' <;> rw [hv] at h h1 <;> (try simp only [] at h)
  all_goals first
    | (refine fin_same hm hF (cv := .bool _) ?_ (.b _) h; simp [execOp, hop, h1.inv_b, Op.unary]; done)
    | (refine fin_same hm hF (cv := .int _ _) ?_ (.i _ _) h; simp [execOp, hop, h1.inv_i, Op.unary, Op.intArith, intBits_xor]; done)

theorem s_cvt {s d : TypeId} {k : IntKind} {x : Operand} {x' : X} (hop : o.op = .convert s d x) {ds : TypeDesc} (hs : P.underlying s = some ds) (hd : P.underlying d = some (.int k)) (hx : cX x = some x')
    (h : ev (fun _ _ _ => False) (fun _ _ _ => False) ρ ob id R (.cvt k x')) : o.wp P a w K Q := by
  have h1 := hρ x x' hx
  simp only [ev] at h
  cases hv : ρ x' <;> rw [hv] at h h1 <;> (try simp only [] at h)
  case i k' n =>
    refine fin_same hm hF (cv := .int k (k.wrap n)) ?_ (.i _ _) h
    simp [execOp, hop, h1.inv_i, convert, run_underlying hs, run_underlying hd, Conv.intToInt]

theorem s_six {t : TypeId} {x i : Operand} {x' i' : X} (hop : o.op = .index t x i) (ht : P.underlying t = some .string) (hx : cX x = some x') (hi : cX i = some i')
    (h : ev (fun _ _ _ => False) (fun _ _ _ => False) ρ ob id R (.six x' i')) : o.wp P a w K Q := by
  have h1 := hρ x x' hx
  have h2 := hρ i i' hi
  simp only [ev] at h
  cases hv : ρ x' <;> rw [hv] at h h1 <;> (try simp only [] at h)
  case s l =>
    cases hu : ρ i' <;> rw [hu] at h h2 <;> (try simp only [] at h)
    case i k n =>
      obtain ⟨⟨h0, hl⟩, hR⟩ := h
      have hlt : n.toNat < l.length := by omega
      refine fin_same hm hF (cv := .int .u8 ((l.getD n.toNat 0).toNat : Int)) ?_ (.i _ _) hR
      have e : (⟨l.toArray⟩ : ByteArray)[n.toNat]? = some l[n.toNat] := by
        rw [getElem?_pos (⟨l.toArray⟩ : ByteArray) n.toNat (by simpa [ByteArray.size] using hlt)]
        rfl
      simp [execOp, hop, h1.inv_s, h2.inv_i, Instr.index, asIntOf, run_underlying ht, h0, e, List.getD, List.getElem?_eq_getElem hlt]

theorem s_ext {x : Operand} {x' : X} {ix : Nat} (hop : o.op = .extract x ix) (hx : cX x = some x')
    (h : ev (fun _ _ _ => False) (fun _ _ _ => False) ρ ob id R (.ext x' ix)) : o.wp P a w K Q := by
  have h1 := hρ x x' hx
  simp only [ev] at h
  cases hv : ρ x' <;> rw [hv] at h h1 <;> (try simp only [] at h)
  case t vs =>
    obtain ⟨hl, hR⟩ := h
    obtain ⟨us, e, hn, hr⟩ := h1.inv_t
    have hl' : ix < us.length := by omega
    refine fin_same hm hF (cv := us[ix]) ?_ (.up (hr ix _ _ (List.getElem?_eq_getElem hl') ?_)) hR
    · simp [execOp, hop, e, Instr.extract, hl']
    · simp [List.getD, List.getElem?_eq_getElem hl]

theorem s_nc {x : Operand} {x' : X} (hop : o.op = .nilCheck x) (hx : cX x = some x')
    (h : ev (fun _ _ _ => False) (fun _ _ _ => False) ρ ob id R (.nc x')) : o.wp P a w K Q := by
  have h1 := hρ x x' hx
  simp only [ev] at h
  cases hv : ρ x' <;> rw [hv] at h h1 <;> (try simp only [] at h)
  case pt j k =>
    obtain ⟨b, u, e, _⟩ := h1.inv_pt
    exact fin_same hm hF (cv := a.eval x) (by simp [execOp, hop, e]) h1 h
  case ip cs k =>
    obtain ⟨f, b, u, e, _⟩ := h1.inv_ip
    exact fin_same hm hF (cv := a.eval x) (by simp [execOp, hop, e]) h1 h

theorem s_len_s {t : TypeId} {x : Operand} {x' : X} (hop : o.op = .call { callee := .builtin .len, args := #[x], argTypes := #[t] }) (ht : P.underlying t = some .string) (hx : cX x = some x')
    {l : List UInt8} (hv : ρ x' = .s l) (h : R (.i .i64 l.length) []) : o.wp P a w K Q := by
  have h1 := hρ x x' hx
  rw [hv] at h1
  refine fin_same hm hF (cv := .int .i64 l.length) ?_ (.i _ _) h
  have e := size_str l
  simp only [execOp, hop, resolve, invoke, builtin, h1.inv_s, List.map_toArray, List.map_cons, List.map_nil, Sem.run_bind, Sem.run_pure, Result.andThen_ok, run_len_string w t o.type _ ht, e, goInt]

omit hρ in
theorem s_len_l {t e : TypeId} {x : Operand} {x' : X} (hop : o.op = .call { callee := .builtin .len, args := #[x], argTypes := #[t] }) (ht : P.underlying t = some (.slice e)) (hx : cX x = some x')
    {base : Option Addr} {n cap : Nat} (hv : a.eval x = .slice base n cap) (h : R (.i .i64 n) []) : o.wp P a w K Q := by
  refine fin_same hm hF (cv := .int .i64 n) ?_ (.i _ _) h
  simp only [execOp, hop, resolve, invoke, builtin, hv, List.map_toArray, List.map_cons, List.map_nil, Sem.run_bind, Sem.run_pure, Result.andThen_ok]
  simp [Builtin.len_, run_underlying ht, goInt]

theorem s_mm {mx : Bool} {c : Call} {x y : Operand} {x' y' : X} (hop : o.op = .call c) (hc : c.callee = .builtin (if mx then .max else .min)) (ha : c.args = #[x, y]) (hx : cX x = some x') (hy : cX y = some y')
    (h : ev (fun _ _ _ => False) (fun _ _ _ => False) ρ ob id R (.mm mx x' y')) : o.wp P a w K Q := by
  have h1 := hρ x x' hx
  have h2 := hρ y y' hy
  simp only [ev] at h
  cases hv : ρ x' <;> rw [hv] at h h1 <;> (try simp only [] at h)
  case i k n =>
    cases hu : ρ y' <;> rw [hu] at h h2 <;> (try simp only [] at h)
    case i k' m =>
      obtain ⟨rfl, hR⟩ := h
      refine fin_same hm hF (cv := .int k (if mx then max n m else min n m)) ?_ (.i _ _) hR
      cases mx
      · have e : (if n > m then m else n) = min n m := by rw [Int.min_def]; split <;> split <;> omega
        simp [execOp, hop, resolve, hc, ha, invoke, builtin, h1.inv_i, h2.inv_i, Builtin.min_, Builtin.min2, ← e]
      · have e : (if m > n then m else n) = max n m := by rw [Int.max_def]; split <;> split <;> omega
        simp [execOp, hop, resolve, hc, ha, invoke, builtin, h1.inv_i, h2.inv_i, Builtin.max_, Builtin.max2, ← e]
end ops
end Go.Proofs.Ytngohbpgdeiodaa.Ab
