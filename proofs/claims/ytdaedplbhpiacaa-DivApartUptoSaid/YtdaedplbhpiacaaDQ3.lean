/-
  div: its answers as memory of the caller's own, raw: knuth, Quo.
-/
import Derived.Test.YtdaedplbhpiacaaDQ2
namespace Go.Proofs.Ytdaedplbhpiacaa
open Go Go.RowKit Go.Proofs Ab
set_option linter.unusedSimpArgs false
set_option linter.unusedVariables false
set_option maxHeartbeats 10000000
set_option maxHeartbeats 4000000
set_option maxRecDepth 2000000
def TwoR (w : World) (A1 A2 : List Nat) (e : Ending) (w' : World) : Prop :=
  ∃ (v1 v2 : Value) (n1 n2 : Nat), e = .returned (.tuple #[v1, v2]) ∧ Below w.heap.size w w' ∧ w'.ownsRow w.heap.size 24 1 v1 n1 (Wv A1) ∧ w'.ownsRow w.heap.size 24 1 v2 n2 (Wv A2) ∧ ∀ q, v1.ownBlock = some q → v2.ownBlock ≠ some q
theorem knuth_raw {w : World} {va vb : Value} {a b : List Nat} {Ha : Nat → Prop} (hHlt : ∀ q, Ha q → q < w.heap.size) (hva : Rep0 w Ha va (.l 1 (W a))) (hvb : Rep0 w Ha vb (.l 1 (W b))) (ha : Wd a) (hb : Wd b) (la : a.length ≤ 1000000000) (h2 : 2 ≤ b.length) (hab : b.length ≤ a.length) (htop : b.getD (b.length - 1) 0 ≠ 0) :
    Calls Try.prog 31 #[va, vb] w (TwoR w (dg B (nv B a / nv B b)) (dg B (nv B a % nv B b))) := by
  refine run_pc Try.func31 rfl (vs := [va, vb]) (by show 2 ≤ _; decide) (H := Ha) (E := fun _ => False) (ks := []) (ov0 := fun _ => none)
    (s0 := ⟨[(0, .l 1 (W a)), (1, .l 1 (W b))], [], 0⟩) ⟨BelE.refl _ _, tj0 _ _, hHlt, fun b h _ => .inl h, fun id o h => (by cases h), fun i j oi oj vi vj q _ h => (by cases h)⟩ (fun m v h => by cases h) (fun k hk => ?env) (fun k hk => ?rest) (fun _ _ => rfl) (fun act hconc => ?_)
  case env =>
    match k, hk with
    | 0, _ => exact .base hva
    | 1, _ => exact .base hvb
  case rest =>
    match k, hk with
    | k + 2, _ => rfl
  refine wp_mono (avc_sound (J := J0) (w0 := w) (N := Try.f31.ntmps) fol (fun w' _ => trivial) _ a31 (by kernel_rfl) (fun m v h => by cases h) _ _ act w _ _ hconc (knuth_walk a b ha hb la h2 hab htop)) fun ex a' w' hq => ?_
  generalize dg B (nv B a / nv B b) = A1 at *
  generalize dg B (nv B a % nv B b) = A2 at *
  have last : ∀ (s' : St) (H' : Nat → Prop) (ov' : Nat → Option Value), twoK A1 A2 s' → Conc w ⟨Ha, fun _ => False, []⟩ w' H' ov' Try.f31.ntmps a' s' →
      a'.defers = [] ∧ ∃ r, (results Try.f31 a'.tmps).run Try.prog w' = .ok r w' ∧ TwoR w A1 A2 (.returned r) w' := by
    rintro s' H' ov' ⟨i, j, m1, m2, hij, g4, g5, o4, o5⟩ hc'
    have hB : Below w.heap.size w w' := hc'.mem.bel.below (fun _ h => h)
    refine ⟨hc'.dfr, _, resSlots_run (show resSlots Try.f31.results.toList = some [4, 5] from rfl) _ _, ?_⟩
    obtain ⟨x1, O1, R1, V1, B1⟩ := conc_row hc' g4 o4
    obtain ⟨x2, O2, R2, V2, B2⟩ := conc_row hc' g5 o5
    have hx1 := Wv_of R1
    have hx2 := Wv_of R2
    subst hx1
    subst hx2
    refine ⟨_, _, m1, m2, rfl, hB, ownB O1 (fun q hq => (B1 q (blk_ob O1 ▸ hq)).2.elim id False.elim), ownB O2 (fun q hq => (B2 q (blk_ob O2 ▸ hq)).2.elim id False.elim), fun q hq => ?_⟩
    have := hc'.mem.sep i j _ _ _ _ q hij o4 o5 V1 V2 (by rw [blk_ob O1]; exact hq)
    rwa [blk_ob O2] at this
  cases ex with
  | normal => obtain ⟨s', H', ov', hq, hc'⟩ := hq; exact ⟨.inl rfl, last s' H' ov' hq.2 hc'⟩
  | ret => obtain ⟨s', H', ov', hq, hc'⟩ := hq; exact ⟨.inr rfl, last s' H' ov' hq.2 hc'⟩
  | exit i => obtain ⟨s', H', ov', hq, hc'⟩ := hq; exact absurd hq.1 (by simp)
  | goto l => exact hq.elim
  | panic ch => exact hq.elim
  | outgrown => exact hq.elim
def RowT3 (w : World) (A : List Nat) (y z : Value) (e : Ending) (w' : World) : Prop := ∃ (u : Value) (n : Nat), e = .returned (.tuple #[u, y, z]) ∧ Below w.heap.size w w' ∧ w'.ownsRow w.heap.size 24 1 u n (Wv A) ∧ n ≤ maxLen
theorem to_raw3 {f : FuncId} {args : List V} {A : List Nat} {r1 r2 : V} {y z : Value} {w : World} {H : Nat → Prop} {vs : List Value} (c : AFun Try.prog J0 f args (.to 24 1 (W A) [r1, r2])) (hy : ∀ (w' : World) (H' : Nat → Prop) (v : Value), Rep0 w' H' v r1 → v = y) (hz : ∀ (w' : World) (H' : Nat → Prop) (v : Value), Rep0 w' H' v r2 → v = z) (hH : ∀ q, H q → q < w.heap.size) (hr : RepAll w H vs args) : Calls Try.prog f vs.toArray w (RowT3 w A y z) := by
  have c' : TFun Try.prog J0 f args 24 1 (W A) [r1, r2] := c
  refine (c'.2 w H vs trivial (tj0 _ _) hH hr).mono ?_
  rintro e w' ⟨u, us, n, xs, N, rfl, hB, ho, _, _, hx, _, hm, hus⟩
  have := Wv_of hx
  subst this
  match us, hus with
  | [p, q], hus =>
    have h1 := hy _ _ p (hus.2 0 p r1 rfl rfl)
    have h2 := hz _ _ q (hus.2 1 q r2 rfl rfl)
    subst h1 h2
    exact ⟨u, n, rfl, hB, ho, hm⟩
theorem i_raw {f : FuncId} {args : List V} {k : IntKind} {z : Int} {w : World} {H : Nat → Prop} {vs : List Value} (c : AFun Try.prog J0 f args (.i k z)) (hH : ∀ q, H q → q < w.heap.size) (hr : RepAll w H vs args) : Calls Try.prog f vs.toArray w (fun e w' => e = .returned (.int k z) ∧ Below w.heap.size w w') := by
  refine ((c.to0 rfl) w H vs trivial (tj0 _ _) hH hr).mono ?_
  rintro e w' ⟨v, rfl, hB, N, hN, h⟩
  rcases h with h | ⟨e, sz, cs, n, xs, he, _⟩ | ⟨r, h, _⟩
  · cases h; exact ⟨rfl, hB⟩
  · cases he
  · cases h
end Go.Proofs.Ytdaedplbhpiacaa
