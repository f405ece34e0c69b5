/-
  lex.Split: the pieces as memory of the caller's own: a row of rows.
-/
import Derived.Test.YtjfbkegdnljfjaaLK0
import Derived.Test.YtjfbkegdnljfjaaLJ
import Derived.Handy
import Derived.ArgAppend
namespace Go.Proofs.Ytjfbkegdnljfjaa
open Go Go.RowKit Go.Shelf Go.Proofs Ab
set_option linter.unusedSimpArgs false
set_option linter.unusedVariables false
set_option maxHeartbeats 10000000
set_option maxHeartbeats 4000000
set_option maxRecDepth 2000000
theorem arr73 (t : Array Value) (h : t.size = 73) : ∃ u0 u1 u2 u3 u4 u5 u6 u7 u8 u9 u10 u11 u12 u13 u14 u15 u16 u17 u18 u19 u20 u21 u22 u23 u24 u25 u26 u27 u28 u29 u30 u31 u32 u33 u34 u35 u36 u37 u38 u39 u40 u41 u42 u43 u44 u45 u46 u47 u48 u49 u50 u51 u52 u53 u54 u55 u56 u57 u58 u59 u60 u61 u62 u63 u64 u65 u66 u67 u68 u69 u70 u71 u72 : Value, t = List.toArray (u0 :: u1 :: u2 :: u3 :: u4 :: u5 :: u6 :: u7 :: u8 :: u9 :: u10 :: u11 :: u12 :: u13 :: u14 :: u15 :: u16 :: u17 :: u18 :: u19 :: u20 :: u21 :: u22 :: u23 :: u24 :: u25 :: u26 :: u27 :: u28 :: u29 :: u30 :: u31 :: u32 :: u33 :: u34 :: u35 :: u36 :: u37 :: u38 :: u39 :: u40 :: u41 :: u42 :: u43 :: u44 :: u45 :: u46 :: u47 :: u48 :: u49 :: u50 :: u51 :: u52 :: u53 :: u54 :: u55 :: u56 :: u57 :: u58 :: u59 :: u60 :: u61 :: u62 :: u63 :: u64 :: u65 :: u66 :: u67 :: u68 :: u69 :: u70 :: u71 :: u72 :: []) := by
  obtain ⟨l⟩ := t
  simp only [List.size_toArray] at h
  rcases l with _ | ⟨u0, l⟩
  · simp at h
  rcases l with _ | ⟨u1, l⟩
  · simp at h
  rcases l with _ | ⟨u2, l⟩
  · simp at h
  rcases l with _ | ⟨u3, l⟩
  · simp at h
  rcases l with _ | ⟨u4, l⟩
  · simp at h
  rcases l with _ | ⟨u5, l⟩
  · simp at h
  rcases l with _ | ⟨u6, l⟩
  · simp at h
  rcases l with _ | ⟨u7, l⟩
  · simp at h
  rcases l with _ | ⟨u8, l⟩
  · simp at h
  rcases l with _ | ⟨u9, l⟩
  · simp at h
  rcases l with _ | ⟨u10, l⟩
  · simp at h
  rcases l with _ | ⟨u11, l⟩
  · simp at h
  rcases l with _ | ⟨u12, l⟩
  · simp at h
  rcases l with _ | ⟨u13, l⟩
  · simp at h
  rcases l with _ | ⟨u14, l⟩
  · simp at h
  rcases l with _ | ⟨u15, l⟩
  · simp at h
  rcases l with _ | ⟨u16, l⟩
  · simp at h
  rcases l with _ | ⟨u17, l⟩
  · simp at h
  rcases l with _ | ⟨u18, l⟩
  · simp at h
  rcases l with _ | ⟨u19, l⟩
  · simp at h
  rcases l with _ | ⟨u20, l⟩
  · simp at h
  rcases l with _ | ⟨u21, l⟩
  · simp at h
  rcases l with _ | ⟨u22, l⟩
  · simp at h
  rcases l with _ | ⟨u23, l⟩
  · simp at h
  rcases l with _ | ⟨u24, l⟩
  · simp at h
  rcases l with _ | ⟨u25, l⟩
  · simp at h
  rcases l with _ | ⟨u26, l⟩
  · simp at h
  rcases l with _ | ⟨u27, l⟩
  · simp at h
  rcases l with _ | ⟨u28, l⟩
  · simp at h
  rcases l with _ | ⟨u29, l⟩
  · simp at h
  rcases l with _ | ⟨u30, l⟩
  · simp at h
  rcases l with _ | ⟨u31, l⟩
  · simp at h
  rcases l with _ | ⟨u32, l⟩
  · simp at h
  rcases l with _ | ⟨u33, l⟩
  · simp at h
  rcases l with _ | ⟨u34, l⟩
  · simp at h
  rcases l with _ | ⟨u35, l⟩
  · simp at h
  rcases l with _ | ⟨u36, l⟩
  · simp at h
  rcases l with _ | ⟨u37, l⟩
  · simp at h
  rcases l with _ | ⟨u38, l⟩
  · simp at h
  rcases l with _ | ⟨u39, l⟩
  · simp at h
  rcases l with _ | ⟨u40, l⟩
  · simp at h
  rcases l with _ | ⟨u41, l⟩
  · simp at h
  rcases l with _ | ⟨u42, l⟩
  · simp at h
  rcases l with _ | ⟨u43, l⟩
  · simp at h
  rcases l with _ | ⟨u44, l⟩
  · simp at h
  rcases l with _ | ⟨u45, l⟩
  · simp at h
  rcases l with _ | ⟨u46, l⟩
  · simp at h
  rcases l with _ | ⟨u47, l⟩
  · simp at h
  rcases l with _ | ⟨u48, l⟩
  · simp at h
  rcases l with _ | ⟨u49, l⟩
  · simp at h
  rcases l with _ | ⟨u50, l⟩
  · simp at h
  rcases l with _ | ⟨u51, l⟩
  · simp at h
  rcases l with _ | ⟨u52, l⟩
  · simp at h
  rcases l with _ | ⟨u53, l⟩
  · simp at h
  rcases l with _ | ⟨u54, l⟩
  · simp at h
  rcases l with _ | ⟨u55, l⟩
  · simp at h
  rcases l with _ | ⟨u56, l⟩
  · simp at h
  rcases l with _ | ⟨u57, l⟩
  · simp at h
  rcases l with _ | ⟨u58, l⟩
  · simp at h
  rcases l with _ | ⟨u59, l⟩
  · simp at h
  rcases l with _ | ⟨u60, l⟩
  · simp at h
  rcases l with _ | ⟨u61, l⟩
  · simp at h
  rcases l with _ | ⟨u62, l⟩
  · simp at h
  rcases l with _ | ⟨u63, l⟩
  · simp at h
  rcases l with _ | ⟨u64, l⟩
  · simp at h
  rcases l with _ | ⟨u65, l⟩
  · simp at h
  rcases l with _ | ⟨u66, l⟩
  · simp at h
  rcases l with _ | ⟨u67, l⟩
  · simp at h
  rcases l with _ | ⟨u68, l⟩
  · simp at h
  rcases l with _ | ⟨u69, l⟩
  · simp at h
  rcases l with _ | ⟨u70, l⟩
  · simp at h
  rcases l with _ | ⟨u71, l⟩
  · simp at h
  rcases l with _ | ⟨u72, l⟩
  · simp at h
  cases l with
  | nil => exact ⟨u0, u1, u2, u3, u4, u5, u6, u7, u8, u9, u10, u11, u12, u13, u14, u15, u16, u17, u18, u19, u20, u21, u22, u23, u24, u25, u26, u27, u28, u29, u30, u31, u32, u33, u34, u35, u36, u37, u38, u39, u40, u41, u42, u43, u44, u45, u46, u47, u48, u49, u50, u51, u52, u53, u54, u55, u56, u57, u58, u59, u60, u61, u62, u63, u64, u65, u66, u67, u68, u69, u70, u71, u72, rfl⟩
  | cons x l => simp at h
theorem tj0 (w : World) (H : Nat → Prop) : TJ w H := fun g cs h => by cases h
theorem ow_below {B : Nat} {e k n : Nat} {v : Value} {xs : List Value} {w w' : World} (h : w.ownsRow B e k v n xs) (hb : ∀ q, v.ownBlock = some q → w'.heap[q]? = w.heap[q]?) : w'.ownsRow B e k v n xs := by
  refine ⟨h.1, h.2.imp id fun ⟨g, cap, cur, e1, h1, h2, h3⟩ => ⟨g, cap, cur, e1, h1, ?_, h3⟩⟩
  rw [hb g (by rw [e1]; rfl)]; exact h2
theorem ow_base {B B' e k n : Nat} {v : Value} {xs : List Value} {w : World} (h : w.ownsRow B e k v n xs) (hB : B' ≤ B) : w.ownsRow B' e k v n xs :=
  ⟨h.1, h.2.imp id fun ⟨g, cap, cur, e1, h1, h2⟩ => ⟨g, cap, cur, e1, Nat.le_trans hB h1, h2⟩⟩
theorem T_flat (p : List Tk) : ((T p).any fun x => match x with | .i _ _ | .b _ | .s _ => false | _ => true) = false := by
  unfold T
  rw [List.any_flatMap, List.any_eq_false]
  intro x hx
  simp [Tv]
theorem T_rep {w w' : World} {H H' : Nat → Prop} {xs : List Value} {p : List Tk} (h : RepAll w H xs (T p)) : RepAll w' H' xs (T p) := flat_list (T_flat p) h
structure Rwl (B : Nat) (w : World) (vs : Value) (vl : List Value) (ps : List (List Tk)) : Prop where
  row : w.ownsRow B 24 1 vs ps.length vl
  pc : ∀ (j : Nat) (v : Value) (p : List Tk), vl[j]? = some v → ps[j]? = some p → ∃ xs, w.ownsRow B 27 3 v p.length xs ∧ RepAll w (fun _ => False) xs (T p)
  sep : ∀ (i j : Nat) (u v : Value) (b : Nat), i ≠ j → vl[i]? = some u → vl[j]? = some v → u.ownBlock = some b → v.ownBlock ≠ some b
theorem Rwl.len {B : Nat} {w : World} {vs : Value} {vl : List Value} {ps : List (List Tk)} (h : Rwl B w vs vl ps) : vl.length = ps.length := by have := h.row.1; omega
theorem Rwl.nil (B : Nat) (w : World) : Rwl B w (.slice none 0 0) [] [] := ⟨World.ownsRow_nil _ _ _ _, fun j v p h => by simp at h, fun i j u v b _ h => by simp at h⟩
theorem Rwl.pcs {B : Nat} {w : World} {vs : Value} {vl : List Value} {ps : List (List Tk)} (h : Rwl B w vs vl ps) {j : Nat} {v : Value} (hj : vl[j]? = some v) : ∃ p xs, ps[j]? = some p ∧ w.ownsRow B 27 3 v p.length xs ∧ RepAll w (fun _ => False) xs (T p) := by
  have h1 : j < ps.length := by rw [← h.len]; exact (List.getElem?_eq_some_iff.1 hj).1
  obtain ⟨xs, h2, h3⟩ := h.pc j v _ hj (List.getElem?_eq_getElem h1)
  exact ⟨_, xs, List.getElem?_eq_getElem h1, h2, h3⟩
theorem Rwl.ne {B : Nat} {w : World} {vs : Value} {vl : List Value} {ps : List (List Tk)} (h : Rwl B w vs vl ps) {j : Nat} {v : Value} (hj : vl[j]? = some v) {b : Nat} (hb : v.ownBlock = some b) : vs.ownBlock ≠ some b := fun hs => by
  obtain ⟨p, xs, _, h2, _⟩ := h.pcs hj
  rcases h2.2 with ⟨rfl, _⟩ | ⟨g, cap, cur, rfl, _, h3, _⟩
  · cases hb
  · rcases h.row.2 with ⟨rfl, _⟩ | ⟨g', cap', cur', rfl, _, h4, _⟩
    · cases hs
    · cases hb; cases hs
      rw [h3] at h4; cases h4
theorem Rwl.keep {B : Nat} {w w' : World} {vs : Value} {vl : List Value} {ps : List (List Tk)} (h : Rwl B w vs vl ps) (h0 : ∀ q, vs.ownBlock = some q → w'.heap[q]? = w.heap[q]?) (h1 : ∀ (j : Nat) (v : Value) (q : Nat), vl[j]? = some v → v.ownBlock = some q → w'.heap[q]? = w.heap[q]?) : Rwl B w' vs vl ps :=
  ⟨ow_below h.row h0, fun j v p hj hp => by
    obtain ⟨xs, h2, h3⟩ := h.pc j v p hj hp
    exact ⟨xs, ow_below h2 fun q hq => h1 j v q hj hq, T_rep h3⟩, h.sep⟩
theorem Rwl.below {B : Nat} {w w' : World} {vs : Value} {vl : List Value} {ps : List (List Tk)} (h : Rwl B w vs vl ps) (hb : Below w.heap.size w w') : Rwl B w' vs vl ps :=
  h.keep (fun q hq => hb.block q (h.row.lt q hq).2) fun j v q hj hq => by
    obtain ⟨p, xs, _, h2, _⟩ := h.pcs hj
    exact hb.block q (h2.lt q hq).2
theorem Rwl.push {B : Nat} {w0 w1 w2 w3 : World} {v v' vc : Value} {vl xs : List Value} {acc : List (List Tk)} {p : List Tk} (hB : B ≤ w0.heap.size) (h : Rwl B w0 v vl acc) (hb1 : Below w0.heap.size w0 w1) (hc : w1.ownsRow w0.heap.size 27 3 vc p.length xs) (hx : RepAll w1 (fun _ => False) xs (T p))
    (hb2 : Below w1.heap.size w1 w2) (ho : w3.ownsRow B 24 1 v' (acc.length + 1) (vl ++ [vc])) (hg : w2.grownBy w3 v.ownBlock) : Rwl B w3 v' (vl ++ [vc]) (acc ++ [p]) := by
  have h2 := (h.below hb1).below hb2
  have hl := h.len
  have hc2 : w2.ownsRow w0.heap.size 27 3 vc p.length xs := ow_below hc fun q hq => hb2.block q (hc.lt q hq).2
  have vlt : ∀ q, v.ownBlock = some q → q < w0.heap.size := fun q hq => (h.row.lt q hq).2
  refine ⟨by rw [List.length_append]; exact ho, fun j u r hj hr => ?_, fun i j u u' b hij hi hj hb => ?_⟩
  · rcases Nat.lt_or_ge j vl.length with hlt | hge
    · rw [List.getElem?_append_left hlt] at hj
      rw [List.getElem?_append_left (by omega)] at hr
      obtain ⟨ys, h3, h4⟩ := h2.pc j u r hj hr
      refine ⟨ys, h3.kept hg ?_, T_rep h4⟩
      cases e : u.ownBlock with
      | none => exact .inl rfl
      | some b => exact .inr fun h5 => h2.ne hj e h5.symm
    · rw [List.getElem?_append_right hge] at hj
      rw [List.getElem?_append_right (by omega)] at hr
      have h5 : j - vl.length = 0 := by
        have := (List.getElem?_eq_some_iff.1 hj).1; simp at this; omega
      rw [h5] at hj
      rw [show j - acc.length = 0 from by omega] at hr
      cases hj; cases hr
      refine ⟨xs, (ow_base hc2 hB).kept hg ?_, T_rep hx⟩
      cases e : vc.ownBlock with
      | none => exact .inl rfl
      | some b => exact .inr fun h6 => by have := vlt b h6.symm; have := (hc.lt b e).1; omega
  · have old : ∀ k x, (vl ++ [vc])[k]? = some x → k < vl.length → vl[k]? = some x := fun k x h1 h2 => by rw [List.getElem?_append_left h2] at h1; exact h1
    have new : ∀ k x, (vl ++ [vc])[k]? = some x → ¬ k < vl.length → x = vc ∧ k = vl.length := fun k x h1 h2 => by
      rw [List.getElem?_append_right (by omega)] at h1
      have h5 : k - vl.length = 0 := by have := (List.getElem?_eq_some_iff.1 h1).1; simp at this; omega
      rw [h5] at h1; cases h1; exact ⟨rfl, by omega⟩
    by_cases hi2 : i < vl.length
    · by_cases hj2 : j < vl.length
      · exact h.sep i j u u' b hij (old i u hi hi2) (old j u' hj hj2) hb
      · obtain ⟨rfl, _⟩ := new j u' hj hj2
        intro hc'
        obtain ⟨q, ys, _, h6, _⟩ := h.pcs (old i u hi hi2)
        have := (h6.lt b hb).2; have := (hc.lt b hc').1; omega
    · obtain ⟨rfl, e1⟩ := new i u hi hi2
      by_cases hj2 : j < vl.length
      · intro hc'
        obtain ⟨q, ys, _, h6, _⟩ := h.pcs (old j u' hj hj2)
        have := (h6.lt b hc').2; have := (hc.lt b hb).1; omega
      · obtain ⟨_, e2⟩ := new j u' hj hj2
        omega
theorem tok_g {W : World} {H : Nat → Prop} (x : Tk) : Rep0 W H (.agg #[.int .i64 x.k, .string ⟨x.t.toArray⟩, .int .i64 x.a]) (.g [.i .i64 x.k, .s x.t, .i .i64 x.a]) :=
  .g [.int .i64 x.k, .string ⟨x.t.toArray⟩, .int .i64 x.a] _ rfl fun j v y h3 h4 => by
    match j, h3, h4 with
    | 0, h3, h4 => cases h3; cases h4; exact .i _ _
    | 1, h3, h4 => cases h3; cases h4; exact .s _
    | 2, h3, h4 => cases h3; cases h4; exact .i _ _
theorem step_k (x : Tk) (W : World) : Calls Try.prog 24 #[.agg #[.int .i64 x.k, .string ⟨x.t.toArray⟩, .int .i64 x.a]] W fun e w' => e = .returned (.int .i64 (way x)) ∧ Below W.heap.size W w' := by
  refine ((step_spec x).to0 rfl W (fun _ => False) [_] trivial (tj0 _ _) (fun _ h => h.elim) ⟨rfl, fun j v y h1 h2 => ?_⟩).mono ?_
  · match j, h1, h2 with
    | 0, h1, h2 => cases h1; cases h2; exact tok_g x
  · rintro e w' ⟨v, rfl, hb, N, _, h | ⟨_, _, _, _, _, h, _⟩ | ⟨_, h, _⟩⟩
    · cases h; exact ⟨rfl, hb⟩
    · cases h
    · cases h
theorem is_k (x : Tk) (W : World) : Calls Try.prog 25 #[.agg #[.int .i64 x.k, .string ⟨x.t.toArray⟩, .int .i64 x.a], .string ⟨#[43]⟩] W fun e w' => e = .returned (.bool (isS x [43])) ∧ Below W.heap.size W w' := by
  refine ((is_spec x [43]).to0 rfl W (fun _ => False) [_, _] trivial (tj0 _ _) (fun _ h => h.elim) ⟨rfl, fun j v y h1 h2 => ?_⟩).mono ?_
  · match j, h1, h2 with
    | 0, h1, h2 => cases h1; cases h2; exact tok_g x
    | 1, h1, h2 => cases h1; cases h2; exact .s [43]
  · rintro e w' ⟨v, rfl, hb, N, _, h | ⟨_, _, _, _, _, h, _⟩ | ⟨_, h, _⟩⟩
    · cases h; exact ⟨rfl, hb⟩
    · cases h
    · cases h
theorem clone_k (p : List Tk) (hp : p.length ≤ 1000000000) {W : World} {H : Nat → Prop} {v : Value} (hH : ∀ b, H b → b < W.heap.size) (hv : Rep0 W H v (.l 3 (T p))) :
    Calls Try.prog 26 #[v] W fun e w' => ∃ u xs, e = .returned u ∧ Below W.heap.size W w' ∧ w'.ownsRow W.heap.size 27 3 u p.length xs ∧ RepAll w' (fun _ => False) xs (T p) := by
  refine ((cloneT_spec p hp).to0 rfl W H [_] trivial (tj0 _ _) hH ⟨rfl, fun j v y h1 h2 => ?_⟩).mono ?_
  · match j, h1, h2 with
    | 0, h1, h2 => cases h1; cases h2; exact hv
  · rintro e w' ⟨u, rfl, hb, N, _, h | ⟨e1, sz, cs, n, xs, h, _, ho, hr, _⟩ | ⟨_, h, _⟩⟩
    · cases h
    · cases h
      have h1 := ho.1
      have h2 := hr.1
      rw [T_len] at h2
      obtain rfl : n = p.length := by omega
      exact ⟨u, xs, rfl, hb, ho, T_rep hr⟩
    · cases h
end Go.Proofs.Ytjfbkegdnljfjaa
