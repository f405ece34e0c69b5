/-
  The book: an array of 53 slots; a piece of a body in the layer.
-/
import Derived.Test.YtdaedplbhpiacaaBK0
namespace Go.Proofs.Ytdaedplbhpiacaa
open Go Go.RowKit Go.Proofs Ab
set_option linter.unusedSimpArgs false
set_option linter.unusedVariables false
set_option maxHeartbeats 10000000
theorem mid_go {P : Program} {N : Nat} {w0 : World} {H0 : HS} {c : Code} {A : AC} {K : St → Prop} {s : St} {a : Act} {w : World} {H : Nat → Prop} {ov : Nat → Option Value} {R : Exit → Act → World → Prop}
    (hfol : P.follows .mixedOrders = true) (hc : cCode P N c = some A) (hn : nodk H0 A) (hconc : Conc w0 H0 w H ov N a s)
    (hv : avc (AFun P J0) (XFun P) A (fun e s' => e = .normal ∧ K s') s)
    (k : ∀ a' w' H' ov' s', K s' → Conc w0 H0 w' H' ov' N a' s' → R .normal a' w') : c.wp P R a w := by
  refine wp_mono (avc_sound (J := J0) hfol (fun w' _ => trivial) c A hc hn _ s a w H ov hconc hv) fun ex a' w' hq => ?_
  cases ex with
  | normal => obtain ⟨s', H', ov', hq, hc'⟩ := hq; exact k a' w' H' ov' s' hq.2 hc'
  | ret => obtain ⟨s', H', ov', hq, hc'⟩ := hq; exact absurd hq.1 (by simp)
  | exit i => obtain ⟨s', H', ov', hq, hc'⟩ := hq; exact absurd hq.1 (by simp)
  | goto l => exact hq.elim
  | panic ch => exact hq.elim
  | outgrown => exact hq.elim
end Go.Proofs.Ytdaedplbhpiacaa
