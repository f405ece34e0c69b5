/-
  What the laws on memory share: families of answers, the book at a round's head.
-/
import Derived.Test.YtdaedplbhpiacaaHC
import Derived.Test.YtdaedplbhpiacaaHD
import Derived.Test.YtdaedplbhpiacaaGE
namespace Go.Proofs.Ytdaedplbhpiacaa
open Go Go.RowKit Go.Proofs Ab
set_option linter.unusedSimpArgs false
set_option linter.unusedVariables false
set_option maxHeartbeats 10000000
set_option maxHeartbeats 4000000
set_option maxRecDepth 2000000
structure Cl (w0 w : World) (L : List (Value × List Nat)) : Prop where
  own : ∀ p, p ∈ L → ∃ m : Nat, m ≤ maxLen ∧ w.ownsRow w0.heap.size 24 1 p.1 m (Wv p.2)
  apt : Apt (L.map fun p => p.1)
theorem Cl.keep {w0 w w' : World} {L : List (Value × List Nat)} (h : Cl w0 w L) (hb : ∀ p q, p ∈ L → p.1.ownBlock = some q → w'.heap[q]? = w.heap[q]?) : Cl w0 w' L :=
  ⟨fun p hp => by obtain ⟨m, hm, ho⟩ := h.own p hp; exact ⟨m, hm, ow_below ho fun q hq => hb p q hp hq⟩, h.apt⟩
def RowR (w : World) (A : List Nat) (e : Ending) (w' : World) : Prop := ∃ (u : Value) (n : Nat), e = .returned u ∧ Below w.heap.size w w' ∧ w'.ownsRow w.heap.size 24 1 u n (Wv A) ∧ n ≤ maxLen
def RowT (w : World) (A : List Nat) (y : Value) (e : Ending) (w' : World) : Prop := ∃ (u : Value) (n : Nat), e = .returned (.tuple #[u, y]) ∧ Below w.heap.size w w' ∧ w'.ownsRow w.heap.size 24 1 u n (Wv A) ∧ n ≤ maxLen
theorem o_raw {f : FuncId} {args : List V} {A : List Nat} {w : World} {H : Nat → Prop} {vs : List Value} (c : AFun Try.prog J0 f args (.o 24 1 (W A))) (hH : ∀ q, H q → q < w.heap.size) (hr : RepAll w H vs args) : Calls Try.prog f vs.toArray w (RowR w A) := by
  refine ((c.to0 rfl) w H vs trivial (tj0 _ _) hH hr).mono ?_
  rintro e w' ⟨v, rfl, hB, N, hN, h⟩
  rcases h with h | ⟨e, sz, cs, n, xs, he, _, ho, hx, _, hm, _⟩ | ⟨r, h, _⟩
  · cases h
  · cases he
    have := Wv_of hx
    subst this
    exact ⟨v, n, rfl, hB, ho, hm⟩
  · cases h
theorem to_raw {f : FuncId} {args : List V} {A : List Nat} {r : V} {y : Value} {w : World} {H : Nat → Prop} {vs : List Value} (c : AFun Try.prog J0 f args (.to 24 1 (W A) [r])) (hy : ∀ (w' : World) (H' : Nat → Prop) (z : Value), Rep0 w' H' z r → z = y) (hH : ∀ q, H q → q < w.heap.size) (hr : RepAll w H vs args) : Calls Try.prog f vs.toArray w (RowT w A y) := by
  have c' : TFun Try.prog J0 f args 24 1 (W A) [r] := c
  refine (c'.2 w H vs trivial (tj0 _ _) hH hr).mono ?_
  rintro e w' ⟨u, us, n, xs, N, rfl, hB, ho, _, _, hx, _, hm, hus⟩
  have := Wv_of hx
  subst this
  match us, hus with
  | [z], hus =>
    have := hy _ _ z (hus.2 0 z r rfl rfl)
    subst this
    exact ⟨u, n, rfl, hB, ho, hm⟩
theorem Cl.nil (w : World) : Cl w w [] := ⟨fun p hp => by simp at hp, fun i j vi vj q _ h => by simp at h⟩
theorem Cl.lt {w0 w : World} {L : List (Value × List Nat)} (h : Cl w0 w L) {p : Value × List Nat} {q : Nat} (hp : p ∈ L) (hq : p.1.ownBlock = some q) : w0.heap.size ≤ q ∧ q < w.heap.size := by
  obtain ⟨m, _, ho⟩ := h.own p hp
  exact ho.lt q hq
theorem apt_app {L M : List Value} (h : Apt L) (h2 : Apt M) (hx : ∀ v u q, v ∈ L → u ∈ M → v.ownBlock = some q → u.ownBlock ≠ some q) : Apt (L ++ M) := by
  intro i j vi vj q hij hi hj hq
  rw [List.getElem?_append] at hi hj
  split at hi <;> split at hj
  · exact h i j vi vj q hij hi hj hq
  · exact hx vi vj q (List.mem_of_getElem? hi) (List.mem_of_getElem? hj) hq
  · exact fun e => hx vj vi q (List.mem_of_getElem? hj) (List.mem_of_getElem? hi) e hq
  · exact h2 _ _ vi vj q (by omega) hi hj hq
theorem Cl.step {w0 w1 w : World} {L M : List (Value × List Nat)} (h : Cl w0 w1 L) (hs : w0.heap.size ≤ w1.heap.size) (hb : Below w1.heap.size w1 w) (h2 : Cl w1 w M) : Cl w0 w (L ++ M) := by
  have h1 : Cl w0 w L := h.keep fun p q hp hq => hb.block q (h.lt hp hq).2
  refine ⟨fun p hp => ?_, ?_⟩
  · rcases List.mem_append.1 hp with hp | hp
    · exact h1.own p hp
    · obtain ⟨m, hm, ho⟩ := h2.own p hp
      exact ⟨m, hm, ow_base ho hs⟩
  · rw [List.map_append]
    refine apt_app h1.apt h2.apt fun v u q hv hu hq hq2 => ?_
    obtain ⟨p, hp, rfl⟩ := List.mem_map.1 hv
    obtain ⟨p2, hp2, rfl⟩ := List.mem_map.1 hu
    have := (h.lt hp hq).2
    have := (h2.lt hp2 hq2).1
    omega
theorem Cl.below {w0 w1 w : World} {L : List (Value × List Nat)} (h : Cl w0 w1 L) (hb : Below w1.heap.size w1 w) : Cl w0 w L := h.keep fun p q hp hq => hb.block q (h.lt hp hq).2
theorem Cl.base {w0 w1 w : World} {L : List (Value × List Nat)} (h : Cl w1 w L) (hs : w0.heap.size ≤ w1.heap.size) : Cl w0 w L :=
  ⟨fun p hp => by obtain ⟨m, hm, ho⟩ := h.own p hp; exact ⟨m, hm, ow_base ho hs⟩, h.apt⟩
theorem apt_one (u : Value) : Apt [u] := fun i j vi vj q hij hi hj _ => by
  have h1 := (List.getElem?_eq_some_iff.1 hi).1
  have h2 := (List.getElem?_eq_some_iff.1 hj).1
  simp only [List.length_singleton] at h1 h2
  omega
theorem Cl.one {w w1 : World} {u : Value} {A : List Nat} {n : Nat} (ho : w1.ownsRow w.heap.size 24 1 u n (Wv A)) (hn : n ≤ maxLen) : Cl w w1 [(u, A)] :=
  ⟨fun p hp => by rw [List.mem_singleton.1 hp]; exact ⟨n, hn, ho⟩, apt_one u⟩
theorem below_tr {w w1 w2 : World} (h1 : Below w.heap.size w w1) (h2 : Below w1.heap.size w1 w2) : Below w.heap.size w w2 := by
  have a := h1.size
  have b := h2.size
  exact ⟨h2.os.trans h1.os, h2.tape.trans h1.tape, h2.output.trans h1.output, by omega, fun q hq => (h2.block q (by omega)).trans (h1.block q hq)⟩
theorem below_alloc (w : World) (o : Obj) : Below w.heap.size w (w.alloc o) := by
  have h : Below w.heap.size w w := ⟨rfl, rfl, rfl, Nat.le_refl _, fun _ _ => rfl⟩
  exact h.alloc (Nat.le_refl _) o
theorem rowp_l {w : World} {H : Nat → Prop} {B p n c : Nat} {A Z : List Nat} (ho : w.ownsRow B 24 1 (.slice (some ⟨p, 0, none⟩) (n + 5) c) (n + 5) (Wv (A ++ Z))) (hA : A.length = n) (hn : n ≤ 1000000000000) (hH : H p) : Rep0 w H (.slice (some ⟨p, 0, none⟩) n c) (.l 1 (W A)) := by
  have hc : n + 5 ≤ c := by
    rcases ho.2 with ⟨h, _⟩ | ⟨g, cap, cur, h, h1, h2, h3, _⟩
    · cases h
    · cases h; exact h3
  refine .l _ n c 1 _ (fun j => (Wv (A ++ Z))[j]?.getD undef) p 0 Nat.one_pos (by rw [W_len, hA]; omega) (by unfold maxLen; omega) (by omega) (.inr ⟨rfl, hH⟩) (fun j hj => ?_) (fun j x hx => ?_)
  · rw [W_len] at hj
    rw [Nat.zero_add, ho.cellAt j (by omega)]
    have hl : j < (Wv (A ++ Z)).length := by simp only [Wv, List.length_map, List.length_append]; omega
    rw [List.getElem?_eq_getElem hl]; rfl
  · have hj : j < A.length := by
      have := (List.getElem?_eq_some_iff.1 hx).1
      rwa [W_len] at this
    have h1 : (Wv (A ++ Z))[j]? = some (.int .u64 (A[j] : Int)) := by
      simp only [Wv, List.getElem?_map, List.getElem?_append_left hj, List.getElem?_eq_getElem hj]; rfl
    have h2 : (W A)[j]? = some (.i .u64 (A[j] : Int)) := by
      simp only [W, List.getElem?_map, List.getElem?_eq_getElem hj]; rfl
    rw [h1]
    rw [h2] at hx
    cases hx
    exact .i _ _
theorem rows_l {w : World} {H : Nat → Prop} {B e : Nat} {v : Value} {Fv : List Value} {L : List (List Nat)} (ho : w.ownsRow B e 1 v Fv.length Fv) (hl : Fv.length = L.length) (hm : Fv.length ≤ 1000000) (hr : ∀ (j : Nat) (x : Value) (A : List Nat), Fv[j]? = some x → L[j]? = some A → Rep0 w H x (.l 1 (W A))) (hH : ∀ q, v.ownBlock = some q → H q) : Rep0 w H v (.l 1 (LA L)) := by
  refine row_l Nat.one_pos ho ⟨by rw [LA_len, hl], fun j x y h1 h2 => ?_⟩ (by unfold maxLen; omega) hH
  simp only [LA, List.getElem?_map, Option.map_eq_some_iff] at h2
  obtain ⟨A, h3, rfl⟩ := h2
  exact hr j x A h1 h3
theorem Bn.ip {w : World} {H : Nat → Prop} {b : Nat} {vl vf vu : Value} {Lv Fv Uv : List Value} {L : List (List Nat)} (h : Bn w b vl vf vu Lv Fv Uv) (hH : ∀ q, Bq b vl vf vu q → H q) (lf : Fv.length = L.length) (lu : Uv.length = L.length) (hm : L.length ≤ 1000000)
    (rf : ∀ (j : Nat) (x : Value) (A : List Nat), Fv[j]? = some x → L[j]? = some A → Rep0 w H x (.l 1 (W A))) (ru : ∀ (j : Nat) (x : Value) (A : List Nat), Uv[j]? = some x → L[j]? = some A → Rep0 w H x (.l 1 (W A))) : Rep0 w H (.pointer (some ⟨b, 0, none⟩)) (.ip [.any, .l 1 (LA L), .l 1 (LA L)] 0) := by
  obtain ⟨cap, hbox⟩ := h.box
  have e0 := hbox.cellAt 0 (by decide)
  have e1 := hbox.cellAt 1 (by decide)
  have e2 := hbox.cellAt 2 (by decide)
  have r1 := rows_l h.rf lf (by omega) rf fun q hq => hH q (.inr (.inr (.inl hq)))
  have r2 := rows_l h.ru lu (by omega) ru fun q hq => hH q (.inr (.inr (.inr hq)))
  refine .ip _ 0 (fun j => [vl, vf, vu].getD j undef) b 0 (hH b (.inl rfl)) (fun j hj => ?_) (fun j x hx => ?_)
  · match j, hj with
    | 0, _ => exact e0
    | 1, _ => exact e1
    | 2, _ => exact e2
  · match j, hx with
    | 0, hx => cases hx; exact .any _
    | 1, hx => cases hx; exact r1
    | 2, hx => cases hx; exact r2
def up (f : Nat → Value) (t : Nat) (v : Value) : Nat → Value := fun s => if s = t then v else f s
theorem up_ne {f : Nat → Value} {t s : Nat} {v : Value} (h : s ≠ t) : up f t v s = f s := if_neg h
theorem up_eq {f : Nat → Value} {t : Nat} {v : Value} : up f t v t = v := if_pos rfl
theorem up1 {a a' : Act} {f : Nat → Value} {t1 : Nat} {v1 : Value} (hf : ∀ t, t < 39 → a.tmps.getD t undef = f t) (hs : ∀ t, t < 39 → t ≠ t1 → a'.tmps.getD t undef = a.tmps.getD t undef) (h1 : a'.tmps.getD t1 undef = v1) : ∀ t, t < 39 → a'.tmps.getD t undef = up f t1 v1 t := fun t ht => by
  by_cases e : t = t1
  · rw [e, up_eq]; exact h1
  · rw [up_ne e, hs t ht e, hf t ht]
theorem rp2 {w : World} {H : Nat → Prop} {x y : Value} {u v : V} (h1 : Rep0 w H x u) (h2 : Rep0 w H y v) : RepAll w H [x, y] [u, v] := ⟨rfl, fun j a b e1 e2 => by
  match j, e1, e2 with
  | 0, e1, e2 => cases e1; cases e2; exact h1
  | 1, e1, e2 => cases e1; cases e2; exact h2⟩
theorem rp1 {w : World} {H : Nat → Prop} {x : Value} {u : V} (h1 : Rep0 w H x u) : RepAll w H [x] [u] := ⟨rfl, fun j a b e1 e2 => by
  match j, e1, e2 with
  | 0, e1, e2 => cases e1; cases e2; exact h1⟩
theorem dgle {v m : Nat} (h : v < B ^ m) : (dg B v).length ≤ m := dg_len B2 h
theorem own_rep {w : World} {B n : Nat} {v : Value} {A : List Nat} (h : w.ownsRow B 24 1 v n (Wv A)) (hn : n ≤ maxLen) : Rep0 w (fun q => q < w.heap.size) v (.l 1 (W A)) := row_l Nat.one_pos h (Wv_rep A) hn fun q hq => (h.lt q hq).2
theorem own_len {w : World} {B n : Nat} {v : Value} {A : List Nat} (h : w.ownsRow B 24 1 v n (Wv A)) (hn : n ≤ maxLen) : A.length ≤ 9223372036854775807 := by
  have h1 := h.1
  simp only [Wv, List.length_map] at h1
  unfold maxLen at hn
  omega
theorem Cl.rep {w0 w : World} {L : List (Value × List Nat)} (h : Cl w0 w L) {v : Value} {A : List Nat} (hp : (v, A) ∈ L) : Rep0 w (fun q => q < w.heap.size) v (.l 1 (W A)) ∧ A.length ≤ 9223372036854775807 ∧ ∃ a n c, v = .slice a n c := by
  obtain ⟨m, hm, ho⟩ := h.own _ hp
  obtain ⟨a, c, e⟩ := ow_shape ho
  exact ⟨own_rep ho hm, own_len ho hm, a, m, c, e⟩
structure Outs (w0 : World) (b : Nat) (vl vf vu : Value) (Lv Fv Uv vs : List Value) (w' : World) (vl' vf' vu' : Value) (Fs Us : List Value) : Prop where
  bel : BelE w0 (Bq b vl vf vu) w'
  bn : Bn w' b vl' vf' vu' (Lv ++ vs) (Fv ++ Fs) (Uv ++ Us)
  lf : Fs.length = vs.length
  lu : Us.length = vs.length
  ff : ∀ v, v ∈ Fs → ∃ a c, v = .slice a 0 c
  fu : ∀ v, v ∈ Us → ∃ a c, v = .slice a 0 c
structure NJ (W0 w : World) (b p1 n1 c1 p2 n2 c2 m : Nat) (vl vf vu : Value) (A1 A2 : List Nat) (u1 u2 : Value) (L : List (Value × List Nat)) (Fs Us : List Value) : Prop where
  bel : Below W0.heap.size W0 w
  bn : Bn w b vl vf vu (.slice (some ⟨p1, 0, none⟩) n1 c1 :: .slice (some ⟨p2, 0, none⟩) n2 c2 :: L.map fun p => p.1) (.slice (some ⟨p1, 0, none⟩) (n1 + 5) c1 :: .slice (some ⟨p2, 0, none⟩) (n2 + 5) c2 :: Fs) (u1 :: u2 :: Us)
  lL : L.length = m
  lF : Fs.length = m
  lU : Us.length = m
  fF : ∀ v, v ∈ Fs → ∃ a c, v = .slice a 0 c
  fU : ∀ v, v ∈ Us → ∃ a c, v = .slice a 0 c
  f1 : ∃ a n c, u1 = .slice a n c
  f2 : ∃ a n c, u2 = .slice a n c
  r1 : w.ownsRow 0 24 1 (.slice (some ⟨p1, 0, none⟩) (n1 + 5) c1) (n1 + 5) (Wv (A1 ++ List.replicate 5 0))
  r2 : w.ownsRow 0 24 1 (.slice (some ⟨p2, 0, none⟩) (n2 + 5) c2) (n2 + 5) (Wv (A2 ++ List.replicate 5 0))
  l1 : A1.length = n1
  l2 : A2.length = n2
  wd1 : Wd A1
  wd2 : Wd A2
  hq : ∀ q, Bq b vl vf vu q → W0.heap.size ≤ q ∧ q ≠ p1 ∧ q ≠ p2
  hp : W0.heap.size ≤ p1 ∧ W0.heap.size ≤ p2 ∧ p1 ≠ p2
  own : ∀ p, p ∈ L → ∃ m : Nat, m ≤ 1000000000 ∧ w.ownsRow W0.heap.size 24 1 p.1 m (Wv p.2)
  apt : Apt (L.map fun p => p.1)
  ne : ∀ p q, p ∈ L → p.1.ownBlock = some q → q ≠ p1 ∧ q ≠ p2 ∧ ¬ Bq b vl vf vu q
theorem NJ.rowN1 {W0 w : World} {b p1 n1 c1 p2 n2 c2 m : Nat} {vl vf vu : Value} {A1 A2 : List Nat} {u1 u2 : Value} {L : List (Value × List Nat)} {Fs Us : List Value} (J : NJ W0 w b p1 n1 c1 p2 n2 c2 m vl vf vu A1 A2 u1 u2 L Fs Us) : RowN w p1 n1 c1 ∧ RowN w p2 n2 c2 := ⟨⟨A1, J.l1, J.wd1, J.r1⟩, ⟨A2, J.l2, J.wd2, J.r2⟩⟩
theorem NJ.next {W0 w w3 w4 : World} {b p1 n1 c1 p2 n2 c2 m d : Nat} {vl vf vu : Value} {A1 A2 : List Nat} {u1 u2 : Value} {L M : List (Value × List Nat)} {Fs Us Fs' Us' : List Value} {vl' vf' vu' : Value} (J : NJ W0 w b p1 n1 c1 p2 n2 c2 m vl vf vu A1 A2 u1 u2 L Fs Us)
    (O : Outs w b vl vf vu (.slice (some ⟨p1, 0, none⟩) n1 c1 :: .slice (some ⟨p2, 0, none⟩) n2 c2 :: L.map fun p => p.1) (.slice (some ⟨p1, 0, none⟩) (n1 + 5) c1 :: .slice (some ⟨p2, 0, none⟩) (n2 + 5) c2 :: Fs) (u1 :: u2 :: Us) (M.map fun p => p.1) w3 vl' vf' vu' Fs' Us') (hq' : ∀ q, Bq b vl' vf' vu' q → Bq b vl vf vu q ∨ w.heap.size ≤ q) (C : Cl w w3 M) (hM : ∀ p, p ∈ M → p.2.length ≤ 1000000000) (ne' : ∀ p q, p ∈ M → p.1.ownBlock = some q → ¬ Bq b vl' vf' vu' q) (hd : M.length = d)
    (hb : BelE w3 (fun x => x = p1 ∨ x = p2) w4) (R1 : RowN w4 p1 n1 c1) (R2 : RowN w4 p2 n2 c2) : ∃ A1' A2', NJ W0 w4 b p1 n1 c1 p2 n2 c2 (m + d) vl' vf' vu' A1' A2' u1 u2 (L ++ M) (Fs ++ Fs') (Us ++ Us') := by
  obtain ⟨A1', l1, wd1, r1⟩ := R1
  obtain ⟨A2', l2, wd2, r2⟩ := R2
  have lt1 : p1 < w.heap.size := (J.r1.lt p1 rfl).2
  have lt2 : p2 < w.heap.size := (J.r2.lt p2 rfl).2
  have s0 := J.bel.size
  have s3 := O.bel.size
  have s4 := hb.size
  have hp := J.hp
  have nq : ∀ q, Bq b vl' vf' vu' q → W0.heap.size ≤ q ∧ q ≠ p1 ∧ q ≠ p2 := fun q h => by
    rcases hq' q h with h | h
    · exact J.hq q h
    · omega
  have ownL : ∀ p, p ∈ L → ∃ m : Nat, m ≤ 1000000000 ∧ w4.ownsRow W0.heap.size 24 1 p.1 m (Wv p.2) := fun p h => by
    obtain ⟨m, hm, ho⟩ := J.own p h
    refine ⟨m, hm, ow_below ho fun q hq => ?_⟩
    have hl := (ho.lt q hq).2
    obtain ⟨x1, x2, x3⟩ := J.ne p q h hq
    exact (hb.block q (by omega) (fun e => e.elim x1 x2)).trans (O.bel.block q hl x3)
  have ltL : ∀ p q, p ∈ L → p.1.ownBlock = some q → q < w.heap.size := fun p q h hq => by
    obtain ⟨m, hm, ho⟩ := J.own p h
    exact (ho.lt q hq).2
  refine ⟨A1', A2', ⟨hb.os.trans (O.bel.os.trans J.bel.os), hb.tape.trans (O.bel.tape.trans J.bel.tape), hb.output.trans (O.bel.output.trans J.bel.output), by omega, fun q hq => ?_⟩, ?_, by rw [List.length_append, J.lL, hd], by rw [List.length_append, J.lF, O.lf, List.length_map, hd], by rw [List.length_append, J.lU, O.lu, List.length_map, hd], fun v hv => (List.mem_append.1 hv).elim (J.fF v) (O.ff v), fun v hv => (List.mem_append.1 hv).elim (J.fU v) (O.fu v), J.f1, J.f2, r1, r2, l1, l2, wd1, wd2, nq, hp, fun p h => ?_, ?_, fun p q h hq => ?_⟩
  · exact (hb.block q (by omega) (fun e => by omega)).trans ((O.bel.block q (by omega) (fun h => by have := (J.hq q h).1; omega)).trans (J.bel.block q hq))
  · have h := O.bn.keep (w' := w4) fun q hq => by
      have hl := O.bn.lt q hq
      obtain ⟨_, x1, x2⟩ := nq q hq
      exact hb.block q hl (fun e => e.elim x1 x2)
    rw [List.map_append]
    exact h
  · rcases List.mem_append.1 h with h | h
    · exact ownL p h
    · obtain ⟨m, _, ho⟩ := C.own p h
      have hl := ho.1
      simp only [Wv, List.length_map] at hl
      have := hM p h
      exact ⟨m, by omega, ow_base (ow_below ho fun q hq => by
        have h2 := ho.lt q hq
        exact hb.block q h2.2 (fun e => by omega)) s0⟩
  · rw [List.map_append]
    refine apt_app J.apt C.apt fun v u q hv hu hq hq2 => ?_
    obtain ⟨p, hp, rfl⟩ := List.mem_map.1 hv
    obtain ⟨p2, hp2, rfl⟩ := List.mem_map.1 hu
    have := ltL p q hp hq
    have := (C.lt hp2 hq2).1
    omega
  · rcases List.mem_append.1 h with h | h
    · obtain ⟨x1, x2, x3⟩ := J.ne p q h hq
      exact ⟨x1, x2, fun e => (hq' q e).elim x3 fun e => by have := ltL p q h hq; omega⟩
    · have := (C.lt h hq).1
      exact ⟨by omega, by omega, ne' p q h hq⟩
theorem Bn.new (w : World) : Bn (w.alloc (.cells #[.slice none 0 0, .slice none 0 0, .slice none 0 0] 29)) w.heap.size (.slice none 0 0) (.slice none 0 0) (.slice none 0 0) [] [] [] :=
  ⟨⟨1, World.ownsRow_lit (base := 0) (e := 29) (size := 3) w #[.slice none 0 0, .slice none 0 0, .slice none 0 0] 1 (Nat.zero_le _) (by unfold maxLen; omega) rfl⟩, ⟨rfl, .inl ⟨rfl, rfl⟩⟩, ⟨rfl, .inl ⟨rfl, rfl⟩⟩, ⟨rfl, .inl ⟨rfl, rfl⟩⟩, fun q h => (by cases h), fun q h => (by cases h), fun q h => (by cases h)⟩
def NA (w0 : World) (a b : List Nat) (g : Nat) (x y : Value) (w : World) : Prop :=
  ∃ p1 c1 p2 c2 vl vf vu u1 u2, x = .slice (some ⟨p1, 0, none⟩) a.length c1 ∧ y = .slice (some ⟨p2, 0, none⟩) b.length c2 ∧ NJ w0 w g p1 a.length c1 p2 b.length c2 0 vl vf vu a b u1 u2 [] [] [] ∧ Rep0 w (fun q => q < w.heap.size) u1 (.l 1 (W (a ++ List.replicate 5 0))) ∧ Rep0 w (fun q => q < w.heap.size) u2 (.l 1 (W (b ++ List.replicate 5 0)))
theorem rep_slice {w : World} {H : Nat → Prop} {v : Value} {sz : Nat} {cs : List V} (h : Rep0 w H v (.l sz cs)) : ∃ a n c, v = .slice a n c := by
  obtain ⟨a, n, cap, _, _, _, rfl, _⟩ := (Rep.up (ov := fun _ => none) h).inv_l
  exact ⟨a, n, cap, rfl⟩
theorem in_first {w w1 : World} {H : Nat → Prop} {va : Value} {a : List Nat} (hB : Below w.heap.size w w1) (hH : ∀ q, H q → q < w.heap.size) (hva : Rep0 w H va (.l 1 (W a))) (la : a.length ≤ 1000000000) :
    Calls Try.prog 5 #[.pointer (some ⟨w1.heap.size, 0, none⟩), va] (w1.alloc (.cells #[.slice none 0 0, .slice none 0 0, .slice none 0 0] 29)) (InR (w1.alloc (.cells #[.slice none 0 0, .slice none 0 0, .slice none 0 0] 29)) w1.heap.size (.slice none 0 0) (.slice none 0 0) (.slice none 0 0) [] [] [] a) := by
  have s1 := hB.size
  have b2 := below_tr hB (below_alloc w1 (.cells #[.slice none 0 0, .slice none 0 0, .slice none 0 0] 29))
  refine in_raw (Ha := H) (Bn.new w1) (fun q hq => by have := hH q hq; have := b2.size; omega) (fun q hq h => ?_) (hva.mono (fun _ h => h) fun q hq => b2.block q (hH q hq)) rfl rfl rfl (fun v hv => by simp at hv) (fun v hv => by simp at hv) (fun v hv => by simp at hv) (Nat.zero_le _) la
  have := hH q h
  rcases hq with hq | hq | hq | hq
  · omega
  · cases hq
  · cases hq
  · cases hq
theorem in_second {w w1 w3 : World} {H : Nat → Prop} {vb x : Value} {a b : List Nat} (hB : Below w.heap.size w w1) (hH : ∀ q, H q → q < w.heap.size) (hvb : Rep0 w H vb (.l 1 (W b))) (la : a.length ≤ 1000000000) (lb : b.length ≤ 1000000000) (wa : Wd a) (wb : Wd b)
    (h : InR (w1.alloc (.cells #[.slice none 0 0, .slice none 0 0, .slice none 0 0] 29)) w1.heap.size (.slice none 0 0) (.slice none 0 0) (.slice none 0 0) [] [] [] a (.returned x) w3) :
    Calls Try.prog 5 #[.pointer (some ⟨w1.heap.size, 0, none⟩), vb] w3 (fun e w4 => ∃ g n c, e = .returned (.slice (some ⟨g, 0, none⟩) n c) ∧ NA w a b w1.heap.size x (.slice (some ⟨g, 0, none⟩) n c) w4) := by
  obtain ⟨g, cap, vl', vf', vu', u, Hu, e, hg, bel, own, bn, ru, hu, hq, ng⟩ := h
  cases e
  have s1 := hB.size
  have bA := below_tr hB (below_alloc w1 (.cells #[.slice none 0 0, .slice none 0 0, .slice none 0 0] 29))
  have sA : (w1.alloc (.cells #[.slice none 0 0, .slice none 0 0, .slice none 0 0] 29)).heap.size = w1.heap.size + 1 := by rw [World.size_alloc]
  have s3 := bel.size
  have hq' : ∀ q, Bq w1.heap.size vl' vf' vu' q → w1.heap.size ≤ q := fun q h => by
    rcases hq q h with h | h
    · rcases h with h | h | h | h
      · omega
      · cases h
      · cases h
      · cases h
    · omega
  have bq0 : ∀ q, Bq w1.heap.size (.slice none 0 0) (.slice none 0 0) (.slice none 0 0) q → w1.heap.size ≤ q := fun q h => by
    rcases h with h | h | h | h
    · omega
    · cases h
    · cases h
    · cases h
  have b3 : ∀ q, q < w.heap.size → w3.heap[q]? = w.heap[q]? := fun q h => (bel.block q (by omega) (fun e => by have := bq0 q e; omega)).trans (bA.block q h)
  have one : ∀ (z v : Value), z.oneCell' = true → v ∈ [z] → v.oneCell' = true := fun z v hz hv => by rw [List.mem_singleton.1 hv]; exact hz
  obtain ⟨ua, un, uc, rfl⟩ := rep_slice ru
  refine (in_raw (Ha := H) bn (fun q h => by have := hH q h; omega) (fun q hq h => by have := hH q h; have := hq' q hq; omega) (hvb.mono (fun _ h => h) fun q h => b3 q (hH q h)) rfl rfl rfl (fun v hv => one _ v rfl hv) (fun v hv => one _ v rfl hv) (fun v hv => one _ v rfl hv) (by show 1 ≤ _; decide) lb).mono ?_
  rintro e w4 ⟨g2, cap2, vl2, vf2, vu2, u2, Hu2, rfl, hg2, bel2, own2, bn2, ru2, hu2, hq2, ng2⟩
  have s4 := bel2.size
  have gl := (own.lt g rfl).2
  have hq4 : ∀ q, Bq w1.heap.size vl2 vf2 vu2 q → w1.heap.size ≤ q ∧ q ≠ g ∧ q ≠ g2 := fun q h => by
    refine ⟨?_, fun e => ?_, fun e => ng2 (e ▸ h)⟩
    · rcases hq2 q h with h | h
      · exact hq' q h
      · omega
    · rcases hq2 q h with h | h
      · exact ng (e ▸ h)
      · omega
  refine ⟨g2, _, cap2, rfl, g, cap, g2, cap2, vl2, vf2, vu2, _, u2, rfl, rfl, ⟨⟨bel2.os.trans (bel.os.trans bA.os), bel2.tape.trans (bel.tape.trans bA.tape), bel2.output.trans (bel.output.trans bA.output), by omega, fun q h => (bel2.block q (by omega) (fun e => by have := hq' q e; omega)).trans (b3 q h)⟩, bn2, rfl, rfl, rfl, fun v hv => by simp at hv, fun v hv => by simp at hv, ⟨_, _, _, rfl⟩, rep_slice ru2, ow_base (ow_below own fun q hq => by cases hq; exact bel2.block g gl ng) (Nat.zero_le _), ow_base own2 (Nat.zero_le _), rfl, rfl, wa, wb, fun q h => by have := hq4 q h; exact ⟨by omega, this.2⟩, ⟨by omega, by omega, by omega⟩, fun p h => by simp at h, fun i j vi vj q _ h => by simp at h, fun p q h => by simp at h⟩, ru.mono (fun q h => by have := (hu q h).1; omega) (fun q h => bel2.block q (hu q h).1 (hu q h).2), ru2.mono (fun q h => (hu2 q h).1) (fun _ _ => rfl)⟩
theorem own_cut {w : World} {B e n c k : Nat} {p : Nat} {xs : List Value} (h : w.ownsRow B e 1 (.slice (some ⟨p, 0, none⟩) (n + k) c) (n + k) xs) : w.ownsRow B e 1 (.slice (some ⟨p, 0, none⟩) n c) n (xs.take n) := by
  rcases h.2 with ⟨h1, _⟩ | ⟨g, cap, cur, e1, h1, h2, h3, h4, h5, h6⟩
  · cases h1
  · cases e1
    refine ⟨by rw [List.length_take, h.1]; omega, .inr ⟨_, _, cur, rfl, h1, h2, by omega, h4, h5, ?_⟩⟩
    rw [← h6, List.take_take]
    congr 1
    omega
theorem apt_cons {v : Value} {L : List Value} (h : Apt L) (hx : ∀ u q, u ∈ L → v.ownBlock = some q → u.ownBlock ≠ some q) : Apt (v :: L) :=
  apt_app (apt_one v) h fun z u q hz hu hq => by rw [List.mem_singleton.1 hz] at hq; exact hx u q hu hq
end Go.Proofs.Ytdaedplbhpiacaa
