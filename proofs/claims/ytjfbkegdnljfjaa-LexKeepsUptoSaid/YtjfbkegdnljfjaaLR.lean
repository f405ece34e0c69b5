/-
  A part of a function's code in the layer, the rest outside; tokens.
-/
import Derived.Test.YtjfbkegdnljfjaaLB
import Derived.Handy
namespace Go.Proofs.Ytjfbkegdnljfjaa
open Go Go.RowKit Go.Shelf Go.Proofs Ab
set_option linter.unusedSimpArgs false
set_option linter.unusedVariables false
set_option maxHeartbeats 10000000
def exN : Ab.Ex → Bool
  | .normal => true
  | _ => false
theorem out_sound {P : Program} {N : Nat} {c : Code} {ac : AC} {K : St → Prop} {s : St} {a : Act} {w : World} {H : Nat → Prop} {ks : List (Nat × Value)} (hfol : P.follows .mixedOrders = true) (hc : cCode P N c = some ac) (hnod : ks.all (fun q => nod q.1 ac) = true) (hp : ∀ m v, (m, v) ∈ ks → a.tmps.getD m undef = v)
    (hH : ∀ b, H b → b < w.heap.size) (hT : TJ w H) (hsz : a.tmps.size = N) (hd : a.defers = []) (henv : ∀ t, Rep w H (fun _ => none) (a.tmps.getD t undef) (s.get t)) (hs : s.obs = []) (hv : avc (AFun P J0) (XFun P) ac (fun ex s' => exN ex = true ∧ K s') s)
    {R : Exit → Act → World → Prop} (k : ∀ a' w' H' ov' s', K s' → Conc w ⟨H, fun _ => False, ks⟩ w' H' ov' N a' s' → R .normal a' w') : c.wp P R a w := by
  have hob : s.ob = fun _ => none := by funext i; unfold St.ob; rw [hs]; rfl
  have hconc : Conc w ⟨H, fun _ => False, ks⟩ w H (fun _ => none) N a s := by
    refine ⟨⟨BelE.refl _ _, hT, hH, fun b h _ => .inl h, fun id o h => ?_, fun i j oi oj vi vj b _ h => ?_⟩, hsz, hd, hp, henv, fun _ _ => rfl⟩
    · rw [hob] at h; cases h
    · rw [hob] at h; cases h
  refine wp_mono (avc_sound (J := J0) (H0 := ⟨H, fun _ => False, ks⟩) hfol (fun w' _ => trivial) c ac hc (fun m v h => List.all_eq_true.1 hnod (m, v) h) _ s a w H (fun _ => none) hconc hv) fun ex a' w' hq => ?_
  cases ex with
  | normal => obtain ⟨s', H', ov', hq, hc'⟩ := hq; exact k a' w' H' ov' s' hq.2 hc'
  | exit i => obtain ⟨s', H', ov', hq, hc'⟩ := hq; cases hq.1
  | ret => obtain ⟨s', H', ov', hq, hc'⟩ := hq; cases hq.1
  | goto l => exact hq.elim
  | panic ch => exact hq.elim
  | outgrown => exact hq.elim
theorem arrN (t : Array Value) (h : t.size = 45) : ∃ u0 u1 u2 u3 u4 u5 u6 u7 u8 u9 u10 u11 u12 u13 u14 u15 u16 u17 u18 u19 u20 u21 u22 u23 u24 u25 u26 u27 u28 u29 u30 u31 u32 u33 u34 u35 u36 u37 u38 u39 u40 u41 u42 u43 u44 : Value, t = List.toArray (u0 :: u1 :: u2 :: u3 :: u4 :: u5 :: u6 :: u7 :: u8 :: u9 :: u10 :: u11 :: u12 :: u13 :: u14 :: u15 :: u16 :: u17 :: u18 :: u19 :: u20 :: u21 :: u22 :: u23 :: u24 :: u25 :: u26 :: u27 :: u28 :: u29 :: u30 :: u31 :: u32 :: u33 :: u34 :: u35 :: u36 :: u37 :: u38 :: u39 :: u40 :: u41 :: u42 :: u43 :: u44 :: []) := by
  obtain ⟨l⟩ := t
  simp only [List.size_toArray] at h
  rcases l with _ | ⟨u0, l⟩
  · simp at h
  rcases l with _ | ⟨u1, l⟩
  · simp at h
  rcases l with _ | ⟨u2, l⟩
  · simp at h
  rcases l with _ | ⟨u3, l⟩
  · simp at h
  rcases l with _ | ⟨u4, l⟩
  · simp at h
  rcases l with _ | ⟨u5, l⟩
  · simp at h
  rcases l with _ | ⟨u6, l⟩
  · simp at h
  rcases l with _ | ⟨u7, l⟩
  · simp at h
  rcases l with _ | ⟨u8, l⟩
  · simp at h
  rcases l with _ | ⟨u9, l⟩
  · simp at h
  rcases l with _ | ⟨u10, l⟩
  · simp at h
  rcases l with _ | ⟨u11, l⟩
  · simp at h
  rcases l with _ | ⟨u12, l⟩
  · simp at h
  rcases l with _ | ⟨u13, l⟩
  · simp at h
  rcases l with _ | ⟨u14, l⟩
  · simp at h
  rcases l with _ | ⟨u15, l⟩
  · simp at h
  rcases l with _ | ⟨u16, l⟩
  · simp at h
  rcases l with _ | ⟨u17, l⟩
  · simp at h
  rcases l with _ | ⟨u18, l⟩
  · simp at h
  rcases l with _ | ⟨u19, l⟩
  · simp at h
  rcases l with _ | ⟨u20, l⟩
  · simp at h
  rcases l with _ | ⟨u21, l⟩
  · simp at h
  rcases l with _ | ⟨u22, l⟩
  · simp at h
  rcases l with _ | ⟨u23, l⟩
  · simp at h
  rcases l with _ | ⟨u24, l⟩
  · simp at h
  rcases l with _ | ⟨u25, l⟩
  · simp at h
  rcases l with _ | ⟨u26, l⟩
  · simp at h
  rcases l with _ | ⟨u27, l⟩
  · simp at h
  rcases l with _ | ⟨u28, l⟩
  · simp at h
  rcases l with _ | ⟨u29, l⟩
  · simp at h
  rcases l with _ | ⟨u30, l⟩
  · simp at h
  rcases l with _ | ⟨u31, l⟩
  · simp at h
  rcases l with _ | ⟨u32, l⟩
  · simp at h
  rcases l with _ | ⟨u33, l⟩
  · simp at h
  rcases l with _ | ⟨u34, l⟩
  · simp at h
  rcases l with _ | ⟨u35, l⟩
  · simp at h
  rcases l with _ | ⟨u36, l⟩
  · simp at h
  rcases l with _ | ⟨u37, l⟩
  · simp at h
  rcases l with _ | ⟨u38, l⟩
  · simp at h
  rcases l with _ | ⟨u39, l⟩
  · simp at h
  rcases l with _ | ⟨u40, l⟩
  · simp at h
  rcases l with _ | ⟨u41, l⟩
  · simp at h
  rcases l with _ | ⟨u42, l⟩
  · simp at h
  rcases l with _ | ⟨u43, l⟩
  · simp at h
  rcases l with _ | ⟨u44, l⟩
  · simp at h
  rcases l with _ | ⟨x, l⟩
  · exact ⟨u0, u1, u2, u3, u4, u5, u6, u7, u8, u9, u10, u11, u12, u13, u14, u15, u16, u17, u18, u19, u20, u21, u22, u23, u24, u25, u26, u27, u28, u29, u30, u31, u32, u33, u34, u35, u36, u37, u38, u39, u40, u41, u42, u43, u44, rfl⟩
  · simp at h
theorem bld_below {B b : Nat} {bs : List Value} {w w' : World} (h : Lib.IsBuilderF 61 5 B b bs w) (hb : Below w.heap.size w w') : Lib.IsBuilderF 61 5 B b bs w' := by
  have key : ∀ p, Lib.BuilderAtF 61 5 B b p bs w → Lib.BuilderAtF 61 5 B b p bs w' := fun p hA => by
    obtain ⟨hB, v, hbk, hown, hne⟩ := hA
    refine ⟨hB, v, (hb.block b (Array.getElem?_eq_some_iff.1 hbk).1).trans hbk, ⟨hown.1, ?_⟩, hne⟩
    rcases hown.2 with hn | ⟨g, cap, cur, fz, rfl, hbg, hg, rest⟩
    · exact .inl hn
    · exact .inr ⟨g, cap, cur, fz, rfl, hbg, (hb.block g (Array.getElem?_eq_some_iff.1 hg).1).trans hg, rest⟩
  rcases h with h | h
  · exact .inl (key _ h)
  · exact .inr (key _ h)
end Go.Proofs.Ytjfbkegdnljfjaa
