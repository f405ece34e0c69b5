/-
  LexBack, the plain law: tokens joined and read again.
-/
import Derived.Test.YtggidimpeojgaaaLJ
import Derived.Test.YtggidimpeojgaaaL6
namespace Go.Proofs.Ytggidimpeojgaaa
open Go Go.RowKit Ab
set_option linter.unusedSimpArgs false
set_option linter.unusedVariables false
set_option maxHeartbeats 10000000
def sepV (p : Option Tk) (x : Tk) : List UInt8 := match p with | some a => if gapV a x then [32] else [] | none => []
def jr : Option Tk → List Tk → List UInt8
  | _, [] => []
  | p, x :: r => sepV p x ++ (x.t ++ jr (some x) r)
theorem jn_jr (ts : List Tk) : ∀ n k, k + n = ts.length → jn ts (k + n) = jn ts k ++ jr (if 0 < k then some (ts.getD (k - 1) default) else none) (ts.drop k)
  | 0, k, h => by rw [List.drop_of_length_le (by omega)]; simp [jr]
  | n + 1, k, h => by
    have ih := jn_jr ts n (k + 1) (by omega)
    have hk : k < ts.length := by omega
    have e : ts.getD k default = ts[k] := by rw [List.getD_eq_getElem?_getD, List.getElem?_eq_getElem hk]; rfl
    rw [show k + (n + 1) = k + 1 + n from by omega, ih, if_pos (Nat.succ_pos k), List.drop_eq_getElem_cons hk, jr, jn, Nat.add_sub_cancel, ← e, List.append_assoc, List.append_assoc]
    congr 1
    congr 1
    by_cases h0 : 0 < k
    · simp [h0, sepV]
    · simp [h0, sepV]
theorem jn_all (ts : List Tk) : jn ts ts.length = jr none ts := by
  have h := jn_jr ts ts.length 0 (by omega)
  rw [Nat.zero_add, if_neg (by omega), List.drop_zero] at h
  exact h
def stops (k : Int) (c : UInt8) : Prop := (k = 1 → isDig c = false) ∧ (2 ≤ k ∧ k ≤ 4 → isAl c = false)
theorem run_stop {p : UInt8 → Bool} : ∀ (l : List UInt8) {c : UInt8} {r : List UInt8}, l.drop (run p l) = c :: r → p c = false
  | [], c, r, h => by simp at h
  | d :: l, c, r, h => by
    rw [run] at h
    by_cases hd : p d = true
    · rw [if_pos hd, List.drop_succ_cons] at h
      exact run_stop l h
    · rw [if_neg hd, List.drop_zero] at h
      cases h
      simpa using hd
theorem run_app {p : UInt8 → Bool} : ∀ (t rest : List UInt8), run p t = t.length → (∀ c q, rest = c :: q → p c = false) → run p (t ++ rest) = t.length
  | [], [], _, _ => rfl
  | [], c :: q, _, h => by rw [List.nil_append, run, if_neg (by simp [h c q rfl])]; rfl
  | d :: t, rest, h, hr => by
    rw [List.length_cons, run] at h
    by_cases hd : p d = true
    · rw [if_pos hd] at h
      rw [List.cons_append, run, if_pos hd, run_app t rest (by omega) hr]; rfl
    · rw [if_neg hd] at h; omega
theorem kind_head {c : UInt8} {t : List UInt8} (h : kind (c :: t) ≠ 0) : rowLen (c :: t) = (c :: t).length ∧ ((isDig c = true ∧ kind (c :: t) = 1) ∨ (isDig c = false ∧ isLet c = true ∧ 2 ≤ kind (c :: t) ∧ kind (c :: t) ≤ 4) ∨ (isDig c = false ∧ isLet c = false ∧ isSym c = true ∧ kind (c :: t) = 5)) := by
  have hr : rowLen (c :: t) = (c :: t).length := by
    apply Classical.byContradiction
    intro e
    exact h (by unfold kind; rw [if_pos (.inr e)])
  refine ⟨hr, ?_⟩
  have g0 : (c :: t).getD 0 0 = c := rfl
  unfold kind at h ⊢
  rw [if_neg (by simp [hr])] at h ⊢
  rw [g0] at h ⊢
  cases hd : isDig c
  · rw [hd, if_neg (by simp)] at h
    rw [if_neg (by simp)]
    cases hl : isLet c
    · rw [if_neg (by simp)]
      refine .inr (.inr ⟨rfl, rfl, ?_, rfl⟩)
      rw [rowLen, hd, hl, if_neg (by simp), if_neg (by simp)] at hr
      cases hs : isSym c
      · rw [hs] at hr; simp at hr
      · rfl
    · rw [if_pos rfl]
      refine .inr (.inl ⟨rfl, rfl, ?_⟩)
      split <;> (try split) <;> omega
  · rw [hd, if_pos rfl] at h
    rw [if_pos rfl]
    refine .inl ⟨rfl, ?_⟩
    split
    · rename_i h2; rw [if_pos h2] at h; exact absurd rfl h
    · rfl
theorem let_al {c : UInt8} (h : isLet c = true) : isAl c = true := by simp [isAl, h]
theorem dig_al {c : UInt8} (h : isDig c = true) : isAl c = true := by simp [isAl, h]
theorem no_al {c : UInt8} (h1 : isDig c = false) (h2 : isLet c = false) : isAl c = false := by simp [isAl, h1, h2]
theorem row_head {L : List UInt8} (h : kind (L.take (rowLen L)) ≠ 0) : ∃ c r, L = c :: r ∧ L.take (rowLen L) = c :: r.take (rowLen L - 1) ∧ rowLen L = rowLen L - 1 + 1 := by
  have hp := rowLen_pos h
  cases L with
  | nil => simp [rowLen] at hp
  | cons c r =>
    obtain ⟨n, hn⟩ : ∃ n, rowLen (c :: r) = n + 1 := ⟨rowLen (c :: r) - 1, by omega⟩
    exact ⟨c, r, rfl, by rw [hn]; rfl, by omega⟩
theorem row_stop {L r : List UInt8} {c : UInt8} (h : kind (L.take (rowLen L)) ≠ 0) (hd : L.drop (rowLen L) = c :: r) : stops (kind (L.take (rowLen L)) : Int) c := by
  obtain ⟨d, l, rfl, e, e1⟩ := row_head h
  rw [e] at h ⊢
  obtain ⟨_, hk | hk | hk⟩ := kind_head h
  · rw [rowLen, hk.1, if_pos rfl, List.drop_succ_cons] at hd
    exact ⟨fun _ => run_stop l hd, fun h2 => by omega⟩
  · rw [rowLen, hk.1, hk.2.1, if_neg (by simp), if_pos rfl, List.drop_succ_cons] at hd
    exact ⟨fun h2 => by omega, fun _ => run_stop l hd⟩
  · exact ⟨fun h2 => by omega, fun h2 => by omega⟩
theorem gap_no {p x : Tk} {c : UInt8} {t : List UInt8} (hs : stops p.k c) (hx : okT x = true) (ht : x.t = c :: t) : gapV p x = false := by
  obtain ⟨h1, h2⟩ := of_decide_eq_true hx
  rw [ht] at h2
  obtain ⟨_, hk⟩ := kind_head (c := c) (t := t) (by omega)
  unfold gapV
  by_cases e1 : p.k = 1
  · rw [if_pos e1]
    have := hs.1 e1
    rcases hk with hk | hk | hk
    · rw [this] at hk; exact absurd hk.1 (by simp)
    · rw [decide_eq_false]; omega
    · rw [decide_eq_false]; omega
  · rw [if_neg e1]
    by_cases e2 : p.k = 2 ∨ p.k = 3 ∨ p.k = 4
    · rw [if_pos e2]
      have := hs.2 (by omega)
      rcases hk with hk | hk | hk
      · rw [dig_al hk.1] at this; exact absurd this (by simp)
      · rw [let_al hk.2.1] at this; exact absurd this (by simp)
      · rw [decide_eq_false]; omega
    · rw [if_neg e2]
theorem sep_len (p : Tk) (x : Tk) : (sepV (some p) x).length ≤ 1 := by unfold sepV; simp only; split <;> simp
theorem jr_one (p : Tk) (ts : List Tk) : (jr (some p) ts).length ≤ 1 + (jr none ts).length := by
  cases ts with
  | nil => simp [jr]
  | cons x r =>
    have := sep_len p x
    simp only [jr, List.length_append, sepV] at this ⊢
    simp only [List.length_nil]
    omega
theorem scanA : ∀ (f : Nat) (l : List UInt8) (i : Nat) (ts : List Tk), l.length ≤ f → scanF f l i = some ts →
    (∀ x, x ∈ ts → okT x = true) ∧ (jr none ts).length ≤ l.length ∧ ∀ p : Tk, (∀ c r, l = c :: r → stops p.k c) → (jr (some p) ts).length ≤ l.length
  | 0, l, i, ts, _, h => by
    rw [scanF] at h; cases h
    exact ⟨fun x hx => by simp at hx, Nat.zero_le _, fun p _ => Nat.zero_le _⟩
  | f + 1, [], i, ts, _, h => by
    rw [scanF] at h; cases h
    exact ⟨fun x hx => by simp at hx, Nat.zero_le _, fun p _ => Nat.zero_le _⟩
  | f + 1, c :: r, i, ts, hl, h => by
    rw [List.length_cons] at hl
    rw [scanF] at h
    by_cases hb : isBl c = true
    · rw [if_pos hb] at h
      obtain ⟨a, b, _⟩ := scanA f r (i + 1) ts (by omega) h
      refine ⟨a, by rw [List.length_cons]; omega, fun p _ => ?_⟩
      have := jr_one p ts
      rw [List.length_cons]; omega
    · rw [if_neg hb] at h
      by_cases hk : kind ((c :: r).take (rowLen (c :: r))) = 0
      · rw [if_pos hk] at h; exact absurd h (by simp)
      · rw [if_neg hk] at h
        have hle := rowLen_le (c :: r)
        have hp := rowLen_pos hk
        have hst := fun d q => row_stop (L := c :: r) (r := q) (c := d) hk
        obtain ⟨c', r', e0, e1, e2⟩ := row_head hk
        obtain ⟨rfl, rfl⟩ := List.cons.inj e0
        cases hs : scanF f ((c :: r).drop (rowLen (c :: r))) (i + rowLen (c :: r)) with
        | none => rw [hs] at h; exact absurd h (by simp)
        | some ts' =>
          rw [hs] at h
          obtain rfl := Option.some.inj h
          have hdl : ((c :: r).drop (rowLen (c :: r))).length = (c :: r).length - rowLen (c :: r) := List.length_drop
          have htl : ((c :: r).take (rowLen (c :: r))).length = rowLen (c :: r) := by rw [List.length_take]; omega
          have hcl : (c :: r).length = r.length + 1 := rfl
          obtain ⟨a, b, d⟩ := scanA f _ _ ts' (by omega) hs
          have hx : okT ⟨(kind ((c :: r).take (rowLen (c :: r))) : Int), (c :: r).take (rowLen (c :: r)), (i : Int)⟩ = true := decide_eq_true ⟨by simp only [ne_eq]; omega, rfl⟩
          have d' := d ⟨(kind ((c :: r).take (rowLen (c :: r))) : Int), (c :: r).take (rowLen (c :: r)), (i : Int)⟩ hst
          refine ⟨fun y hy => ?_, ?_, fun p hp' => ?_⟩
          · rcases List.mem_cons.1 hy with rfl | hy
            · exact hx
            · exact a y hy
          · simp only [jr, sepV, List.nil_append, List.length_append]
            omega
          · have g := gap_no (hp' c r rfl) hx e1
            simp only [jr, sepV, g, List.length_append]
            simp only [Bool.false_eq_true, if_false, List.length_nil]
            omega
theorem rowLen_app {x : Tk} {rest : List UInt8} (hx : okT x = true) (hr : ∀ c q, rest = c :: q → stops x.k c) : rowLen (x.t ++ rest) = x.t.length := by
  obtain ⟨h1, h2⟩ := of_decide_eq_true hx
  obtain ⟨k, t, a⟩ := x
  simp only at h1 h2 hr ⊢
  cases t with
  | nil => exact absurd (by rw [h2]; rfl) h1
  | cons c t =>
    obtain ⟨e, hk⟩ := kind_head (c := c) (t := t) (by omega)
    rw [List.cons_append]
    rw [rowLen] at e ⊢
    rcases hk with hk | hk | hk
    · rw [hk.1, if_pos rfl] at e ⊢
      rw [run_app t rest (by simpa using e) (fun d q hq => (hr d q hq).1 (by omega))]; rfl
    · rw [hk.1, hk.2.1, if_neg (by simp), if_pos rfl] at e ⊢
      rw [run_app t rest (by simpa using e) (fun d q hq => (hr d q hq).2 (by omega))]; rfl
    · rw [hk.1, hk.2.1, hk.2.2.1, if_neg (by simp), if_neg (by simp), if_pos rfl] at e ⊢
      exact e
theorem jr_stops {x : Tk} {r : List Tk} (hr : ∀ y, y ∈ r → okT y = true) {c : UInt8} {q : List UInt8} (h : jr (some x) r = c :: q) : stops x.k c := by
  cases r with
  | nil => simp [jr] at h
  | cons y r =>
    obtain ⟨h1, h2⟩ := of_decide_eq_true (hr y List.mem_cons_self)
    rw [jr, sepV] at h
    cases hg : gapV x y
    · rw [hg, if_neg (by simp), List.nil_append] at h
      obtain ⟨k, t, a⟩ := y
      simp only at h1 h2 h
      cases t with
      | nil => exact absurd (by rw [h2]; rfl) h1
      | cons d t =>
        rw [List.cons_append] at h
        obtain ⟨rfl, _⟩ := List.cons.inj h
        obtain ⟨_, hk⟩ := kind_head (c := d) (t := t) (by omega)
        refine ⟨fun e => ?_, fun e => ?_⟩
        · unfold gapV at hg
          rw [if_pos e] at hg
          have := of_decide_eq_false hg
          rcases hk with hk | hk | hk
          · exact absurd (by simp only; omega) this
          · exact hk.1
          · exact hk.1
        · unfold gapV at hg
          rw [if_neg (by omega), if_pos (by omega)] at hg
          have := of_decide_eq_false hg
          simp only [ne_eq, Decidable.not_not] at this
          rcases hk with hk | hk | hk
          · omega
          · omega
          · exact no_al hk.1 hk.2.1
    · rw [hg, if_pos rfl] at h
      obtain ⟨rfl, _⟩ := List.cons.inj h
      exact ⟨fun _ => by decide, fun _ => by decide⟩
theorem bl_head {c : UInt8} {t : List UInt8} (h : kind (c :: t) ≠ 0) : isBl c = false := by
  obtain ⟨_, hk⟩ := kind_head h
  cases hb : isBl c
  · rfl
  · unfold isBl at hb
    have hb := of_decide_eq_true hb
    rcases hk with hk | hk | hk
    · have := hk.1; unfold isDig at this; have := of_decide_eq_true this; omega
    · have := hk.2.1; unfold isLet isSm isCap at this
      rw [Bool.or_eq_true, decide_eq_true_eq, decide_eq_true_eq] at this; omega
    · have h3 := hk.2.2.1
      rcases hb with hb | hb
      · obtain rfl : c = 32 := UInt8.toNat_inj.1 (by rw [hb]; rfl)
        exact absurd h3 (by decide)
      · obtain rfl : c = 9 := UInt8.toNat_inj.1 (by rw [hb]; rfl)
        exact absurd h3 (by decide)
def alike (a b : Tk) : Prop := a.k = b.k ∧ a.t = b.t
def Alike : List Tk → List Tk → Prop
  | [], [] => True
  | a :: r, b :: s => alike a b ∧ Alike r s
  | _, _ => False
theorem scanB : ∀ (ts : List Tk), (∀ x, x ∈ ts → okT x = true) → ∀ (p : Option Tk) (i f : Nat), (jr p ts).length ≤ f → ∃ ms, scanF f (jr p ts) i = some ms ∧ Alike ms ts
  | [], _, p, i, f, _ => by cases f <;> exact ⟨[], rfl, trivial⟩
  | x :: r, hok, p, i, f, hf => by
    have key : ∀ (i f : Nat), (x.t ++ jr (some x) r).length ≤ f → ∃ ms, scanF f (x.t ++ jr (some x) r) i = some ms ∧ Alike ms (x :: r) := fun i f hf => by
      have hx := hok x List.mem_cons_self
      have hr := fun y hy => hok y (List.mem_cons_of_mem _ hy)
      obtain ⟨h1, h2⟩ := of_decide_eq_true hx
      have hrl := rowLen_app hx (rest := jr (some x) r) (fun c q h => jr_stops hr h)
      have hne : x.t ≠ [] := fun e => h1 (by rw [h2, e]; rfl)
      obtain ⟨c, t, ht⟩ : ∃ c t, x.t = c :: t := by
        cases hh : x.t with
        | nil => exact absurd hh hne
        | cons c t => exact ⟨c, t, rfl⟩
      have hkx : kind (c :: t) ≠ 0 := by rw [ht] at h2; omega
      have hb := bl_head hkx
      obtain ⟨f, rfl⟩ : ∃ g, f = g + 1 := ⟨f - 1, by rw [ht, List.cons_append, List.length_cons] at hf; omega⟩
      obtain ⟨ms, hm, ha⟩ := scanB r hr (some x) (i + x.t.length) f (by rw [ht, List.cons_append, List.length_cons, List.length_append] at hf; omega)
      have htk : (x.t ++ jr (some x) r).take x.t.length = x.t := List.take_left' rfl
      have hdr : (x.t ++ jr (some x) r).drop x.t.length = jr (some x) r := List.drop_left' rfl
      refine ⟨⟨kind x.t, x.t, i⟩ :: ms, ?_, ⟨h2.symm, rfl⟩, ha⟩
      have e : x.t ++ jr (some x) r = c :: (t ++ jr (some x) r) := by rw [ht]; rfl
      rw [e, scanF, if_neg (by simp [hb]), ← e, hrl, htk, hdr, if_neg (by rw [ht]; exact hkx), hm]
      rfl
    rw [jr] at hf ⊢
    have hsep : sepV p x = [] ∨ sepV p x = [32] := by
      unfold sepV
      split
      · split
        · exact .inr rfl
        · exact .inl rfl
      · exact .inl rfl
    rcases hsep with e | e
    · rw [e, List.nil_append] at hf ⊢
      exact key i f hf
    · rw [e] at hf ⊢
      obtain ⟨f, rfl⟩ : ∃ g, f = g + 1 := ⟨f - 1, by rw [List.cons_append, List.length_cons] at hf; omega⟩
      obtain ⟨ms, hm, ha⟩ := key (i + 1) f (by simpa using hf)
      refine ⟨ms, ?_, ha⟩
      rw [List.cons_append, List.nil_append, scanF, if_pos (by decide)]
      exact hm
theorem alike_len : ∀ {a b : List Tk}, Alike a b → a.length = b.length
  | [], [], _ => rfl
  | _ :: _, _ :: _, h => by rw [List.length_cons, List.length_cons, alike_len h.2]
theorem alike_get : ∀ {a b : List Tk}, Alike a b → ∀ i, i < a.length → alike (a.getD i default) (b.getD i default)
  | x :: r, y :: s, h, 0, _ => h.1
  | x :: r, y :: s, h, i + 1, hi => alike_get h.2 i (by simpa using hi)
theorem okT_like {a b : Tk} (h : alike a b) : okT a = okT b := by unfold okT; rw [h.1, h.2]
theorem alike_ok : ∀ {a b : List Tk}, Alike a b → (∀ x, x ∈ b → okT x = true) → ∀ x, x ∈ a → okT x = true
  | [], [], _, _, x, hx => by simp at hx
  | x :: r, y :: s, h, hb, z, hz => by
    rcases List.mem_cons.1 hz with rfl | hz
    · rw [okT_like h.1]; exact hb y List.mem_cons_self
    · exact alike_ok h.2 (fun w hw => hb w (List.mem_cons_of_mem _ hw)) z hz
theorem gap_like {a b c d : Tk} (h1 : alike a b) (h2 : alike c d) : gapV a c = gapV b d := by unfold gapV; rw [h1.1, h2.1]
theorem jr_like : ∀ {a b : List Tk}, Alike a b → ∀ (p q : Option Tk), (match p, q with | some x, some y => alike x y | none, none => True | _, _ => False) → jr p a = jr q b
  | [], [], _, p, q, _ => by cases p <;> cases q <;> rfl
  | x :: r, y :: s, h, p, q, hpq => by
    rw [jr, jr, h.1.2, jr_like h.2 (some x) (some y) h.1]
    congr 1
    match p, q, hpq with
    | none, none, _ => rfl
    | some a, some b, hab => simp only [sepV]; rw [gap_like hab h.1]
theorem tot_jr : ∀ (ts : List Tk) (p : Option Tk), tot ts ≤ (jr p ts).length
  | [], _ => Nat.zero_le _
  | x :: r, p => by
    have := tot_jr r (some x)
    unfold tot at *
    rw [jr, List.map_cons, List.sum_cons, List.length_append, List.length_append]
    omega
theorem back_law {s : List UInt8} {ts : List Tk} (hs : scan s 0 = some ts) (hl : s.length ≤ 1000) :
    jnR ts = (jr none ts, 0) ∧ (jr none ts).length ≤ s.length ∧ ∃ ms, scanR (jr none ts) = (ms, 0) ∧ Alike ms ts ∧ ms.length = ts.length ∧ jnR ms = (jr none ts, 0) ∧ tot ts ≤ 1000 ∧ tot ms ≤ 1000 := by
  have h0 : scan s 0 = scanF s.length s 0 := rfl
  rw [h0] at hs
  obtain ⟨a, b, _⟩ := scanA _ _ _ _ (Nat.le_refl _) hs
  have h1 : ∀ {l : List Tk}, (∀ x, x ∈ l → okT x = true) → (jr none l).length ≤ 1000 → jnR l = (jr none l, 0) := fun {l} ha hle => by
    unfold jnR
    rw [if_pos (List.all_eq_true.2 ha), jn_all, if_neg (by omega)]
  obtain ⟨ms, hm, hal⟩ := scanB ts a none 0 (jr none ts).length (Nat.le_refl _)
  have e := jr_like hal none none trivial
  have hsm : scan (jr none ts) 0 = some ms := hm
  refine ⟨h1 a (by omega), b, ms, scanR_some (by omega) hsm, hal, alike_len hal, ?_, ?_, ?_⟩
  · rw [h1 (alike_ok hal a) (by rw [e]; omega), e]
  · have := tot_jr ts none; omega
  · have := tot_jr ms none; rw [e] at this; omega
end Go.Proofs.Ytggidimpeojgaaa
