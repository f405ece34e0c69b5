/-
  The book: an array of 53 slots; a piece of a body in the layer.
-/
import Derived.Test.YteaiegppmbcibaaBK0
namespace Go.Proofs.Yteaiegppmbcibaa
open Go Go.RowKit Go.Proofs Ab
set_option linter.unusedSimpArgs false
set_option linter.unusedVariables false
set_option maxHeartbeats 10000000
theorem arr53 (t : Array Value) (h : t.size = 53) : ∃ u0 u1 u2 u3 u4 u5 u6 u7 u8 u9 u10 u11 u12 u13 u14 u15 u16 u17 u18 u19 u20 u21 u22 u23 u24 u25 u26 u27 u28 u29 u30 u31 u32 u33 u34 u35 u36 u37 u38 u39 u40 u41 u42 u43 u44 u45 u46 u47 u48 u49 u50 u51 u52 : Value, t = List.toArray (u0 :: u1 :: u2 :: u3 :: u4 :: u5 :: u6 :: u7 :: u8 :: u9 :: u10 :: u11 :: u12 :: u13 :: u14 :: u15 :: u16 :: u17 :: u18 :: u19 :: u20 :: u21 :: u22 :: u23 :: u24 :: u25 :: u26 :: u27 :: u28 :: u29 :: u30 :: u31 :: u32 :: u33 :: u34 :: u35 :: u36 :: u37 :: u38 :: u39 :: u40 :: u41 :: u42 :: u43 :: u44 :: u45 :: u46 :: u47 :: u48 :: u49 :: u50 :: u51 :: u52 :: []) := by
  obtain ⟨l⟩ := t
  simp only [List.size_toArray] at h
  rcases l with _ | ⟨u0, l⟩
  · simp at h
  rcases l with _ | ⟨u1, l⟩
  · simp at h
  rcases l with _ | ⟨u2, l⟩
  · simp at h
  rcases l with _ | ⟨u3, l⟩
  · simp at h
  rcases l with _ | ⟨u4, l⟩
  · simp at h
  rcases l with _ | ⟨u5, l⟩
  · simp at h
  rcases l with _ | ⟨u6, l⟩
  · simp at h
  rcases l with _ | ⟨u7, l⟩
  · simp at h
  rcases l with _ | ⟨u8, l⟩
  · simp at h
  rcases l with _ | ⟨u9, l⟩
  · simp at h
  rcases l with _ | ⟨u10, l⟩
  · simp at h
  rcases l with _ | ⟨u11, l⟩
  · simp at h
  rcases l with _ | ⟨u12, l⟩
  · simp at h
  rcases l with _ | ⟨u13, l⟩
  · simp at h
  rcases l with _ | ⟨u14, l⟩
  · simp at h
  rcases l with _ | ⟨u15, l⟩
  · simp at h
  rcases l with _ | ⟨u16, l⟩
  · simp at h
  rcases l with _ | ⟨u17, l⟩
  · simp at h
  rcases l with _ | ⟨u18, l⟩
  · simp at h
  rcases l with _ | ⟨u19, l⟩
  · simp at h
  rcases l with _ | ⟨u20, l⟩
  · simp at h
  rcases l with _ | ⟨u21, l⟩
  · simp at h
  rcases l with _ | ⟨u22, l⟩
  · simp at h
  rcases l with _ | ⟨u23, l⟩
  · simp at h
  rcases l with _ | ⟨u24, l⟩
  · simp at h
  rcases l with _ | ⟨u25, l⟩
  · simp at h
  rcases l with _ | ⟨u26, l⟩
  · simp at h
  rcases l with _ | ⟨u27, l⟩
  · simp at h
  rcases l with _ | ⟨u28, l⟩
  · simp at h
  rcases l with _ | ⟨u29, l⟩
  · simp at h
  rcases l with _ | ⟨u30, l⟩
  · simp at h
  rcases l with _ | ⟨u31, l⟩
  · simp at h
  rcases l with _ | ⟨u32, l⟩
  · simp at h
  rcases l with _ | ⟨u33, l⟩
  · simp at h
  rcases l with _ | ⟨u34, l⟩
  · simp at h
  rcases l with _ | ⟨u35, l⟩
  · simp at h
  rcases l with _ | ⟨u36, l⟩
  · simp at h
  rcases l with _ | ⟨u37, l⟩
  · simp at h
  rcases l with _ | ⟨u38, l⟩
  · simp at h
  rcases l with _ | ⟨u39, l⟩
  · simp at h
  rcases l with _ | ⟨u40, l⟩
  · simp at h
  rcases l with _ | ⟨u41, l⟩
  · simp at h
  rcases l with _ | ⟨u42, l⟩
  · simp at h
  rcases l with _ | ⟨u43, l⟩
  · simp at h
  rcases l with _ | ⟨u44, l⟩
  · simp at h
  rcases l with _ | ⟨u45, l⟩
  · simp at h
  rcases l with _ | ⟨u46, l⟩
  · simp at h
  rcases l with _ | ⟨u47, l⟩
  · simp at h
  rcases l with _ | ⟨u48, l⟩
  · simp at h
  rcases l with _ | ⟨u49, l⟩
  · simp at h
  rcases l with _ | ⟨u50, l⟩
  · simp at h
  rcases l with _ | ⟨u51, l⟩
  · simp at h
  rcases l with _ | ⟨u52, l⟩
  · simp at h
  cases l with
  | nil => exact ⟨u0, u1, u2, u3, u4, u5, u6, u7, u8, u9, u10, u11, u12, u13, u14, u15, u16, u17, u18, u19, u20, u21, u22, u23, u24, u25, u26, u27, u28, u29, u30, u31, u32, u33, u34, u35, u36, u37, u38, u39, u40, u41, u42, u43, u44, u45, u46, u47, u48, u49, u50, u51, u52, rfl⟩
  | cons x l => simp at h
theorem mid_go {P : Program} {N : Nat} {w0 : World} {H0 : HS} {c : Code} {A : AC} {K : St → Prop} {s : St} {a : Act} {w : World} {H : Nat → Prop} {ov : Nat → Option Value} {R : Exit → Act → World → Prop}
    (hfol : P.follows .mixedOrders = true) (hc : cCode P N c = some A) (hn : nodk H0 A) (hconc : Conc w0 H0 w H ov N a s)
    (hv : avc (AFun P J0) (XFun P) A (fun e s' => e = .normal ∧ K s') s)
    (k : ∀ a' w' H' ov' s', K s' → Conc w0 H0 w' H' ov' N a' s' → R .normal a' w') : c.wp P R a w := by
  refine wp_mono (avc_sound (J := J0) hfol (fun w' _ => trivial) c A hc hn _ s a w H ov hconc hv) fun ex a' w' hq => ?_
  cases ex with
  | normal => obtain ⟨s', H', ov', hq, hc'⟩ := hq; exact k a' w' H' ov' s' hq.2 hc'
  | ret => obtain ⟨s', H', ov', hq, hc'⟩ := hq; exact absurd hq.1 (by simp)
  | exit i => obtain ⟨s', H', ov', hq, hc'⟩ := hq; exact absurd hq.1 (by simp)
  | goto l => exact hq.elim
  | panic ch => exact hq.elim
  | outgrown => exact hq.elim
end Go.Proofs.Yteaiegppmbcibaa
