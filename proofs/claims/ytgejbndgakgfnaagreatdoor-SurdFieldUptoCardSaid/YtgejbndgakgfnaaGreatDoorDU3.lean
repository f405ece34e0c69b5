/-
  Rows of words in a world; limb.MulAdd and nat.Norm upon them.
-/
import Derived.Test.YtgejbndgakgfnaaGreatDoorDU2
import Derived.Test.YtgejbndgakgfnaaGreatDoorDD0
import Derived.Test.YtgejbndgakgfnaaGreatDoorMA
import Derived.Test.YtgejbndgakgfnaaGreatDoorGG
namespace Go.Proofs.YtgejbndgakgfnaaGreatDoor
open Go Go.RowKit Go.Shelf Go.Proofs Ab
set_option linter.unusedSimpArgs false
set_option linter.unusedVariables false
set_option maxHeartbeats 10000000
def RowU (w : World) (lo : Nat) (v : Value) (ds : List Nat) : Prop :=
  ∃ a b o c, v = .slice a ds.length c ∧ ds.length ≤ maxLen ∧ ds.length ≤ c ∧ (0 < ds.length → a = some ⟨b, o, none⟩ ∧ lo ≤ b) ∧ ∀ j, j < ds.length → w.cell? ⟨b, o + j, none⟩ = some (.int .u64 ((ds[j]?.getD 0 : Nat) : Int))
theorem lt_of_cell {w : World} {b o : Nat} {v : Value} (h : w.cell? ⟨b, o, none⟩ = some v) : b < w.heap.size := by
  rcases Nat.lt_or_ge b w.heap.size with h1 | h1
  · exact h1
  · rw [World.cell?, show w.heap[b]? = none from Array.getElem?_eq_none h1] at h
    cases h
theorem W_opt (ds : List Nat) (j : Nat) (h : j < ds.length) : (W ds)[j]? = some (.i .u64 ((ds[j]?.getD 0 : Nat) : Int)) := by
  simp [W, h]
theorem RowU.rep {w : World} {lo : Nat} {v : Value} {ds : List Nat} (h : RowU w lo v ds) : Rep0 w (fun q => lo ≤ q ∧ q < w.heap.size) v (.l 1 (W ds)) := by
  obtain ⟨a, b, o, c, rfl, h1, h2, h3, h4⟩ := h
  refine .l a ds.length c 1 (W ds) (fun j => .int .u64 ((ds[j]?.getD 0 : Nat) : Int)) b o (by decide) (by rw [W_len, Nat.mul_one]) h1 h2 ?_ (fun j hj => h4 j (by rwa [W_len] at hj)) (fun j x hx => ?_)
  · rcases Nat.eq_zero_or_pos ds.length with h5 | h5
    · exact .inl (by rw [List.eq_nil_of_length_eq_zero h5]; rfl)
    · exact .inr ⟨(h3 h5).1, (h3 h5).2, lt_of_cell (h4 0 h5)⟩
  · have hj : j < ds.length := by have := (List.getElem?_eq_some_iff.1 hx).1; rwa [W_len] at this
    rw [W_opt ds j hj] at hx
    cases hx
    exact .i _ _
theorem RowU.of {w : World} {H : Nat → Prop} {lo : Nat} {v : Value} {ds : List Nat} (h : Rep0 w H v (.l 1 (W ds))) (hH : ∀ b, H b → lo ≤ b) : RowU w lo v ds := by
  obtain ⟨a, n, cap, f, b, o, rfl, hsz, hn, hm, hcp, ha, hc, hr⟩ := h.inv_l
  rw [W_len] at hn
  obtain rfl : n = ds.length := by omega
  refine ⟨a, b, o, cap, rfl, hm, hcp, fun h0 => ?_, fun j hj => ?_⟩
  · rcases ha with h | h
    · have := W_len ds; rw [h] at this; simp at this; omega
    · exact ⟨h.1, hH b h.2⟩
  · have h := hr j _ (W_opt ds j hj)
    rw [hc j (by rw [W_len]; exact hj)]
    generalize f j = u at h
    cases h; rfl
theorem RowU.kept {w w' : World} {lo : Nat} {v : Value} {ds : List Nat} (h : RowU w lo v ds) (hk : ∀ b, lo ≤ b → b < w.heap.size → ∀ o x, w.cell? ⟨b, o, none⟩ = some x → w'.cell? ⟨b, o, none⟩ = some x) : RowU w' lo v ds := by
  obtain ⟨a, b, o, c, rfl, h1, h2, h3, h4⟩ := h
  exact ⟨a, b, o, c, rfl, h1, h2, h3, fun j hj => hk b (h3 (by omega)).2 (lt_of_cell (h4 j hj)) _ _ (h4 j hj)⟩
theorem RowU.below {w w' : World} {lo : Nat} {v : Value} {ds : List Nat} (h : RowU w lo v ds) (hb : Below w.heap.size w w') : RowU w' lo v ds :=
  h.kept fun b _ hl o x hx => (hb.cell (p := ⟨b, o, none⟩) hl).trans hx
theorem repall_map {w : World} {H : Nat → Prop} : ∀ {xs : List Value} {ds : List Nat}, RepAll w H xs (W ds) → xs = ds.map fun x : Nat => Value.int .u64 (x : Int)
  | [], [], _ => rfl
  | [], d :: ds, h => by have := h.1; simp [W] at this
  | x :: xs, [], h => by have := h.1; simp [W] at this
  | x :: xs, d :: ds, h => by
    have h0 := h.2 0 x (.i .u64 (d : Int)) rfl rfl
    cases h0
    rw [List.map_cons]
    congr 1
    exact repall_map (w := w) (H := H) ⟨by have := h.1; simpa [W] using this, fun j v y h1 h2 => h.2 (j + 1) v y h1 h2⟩
theorem RowU.own {w : World} {base e n : Nat} {v : Value} {ds : List Nat} (h : w.ownsRow base e 1 v n (ds.map fun x : Nat => Value.int .u64 (x : Int))) (hn : n ≤ maxLen) : RowU w base v ds := by
  have hl : n = ds.length := by have := h.1; rw [List.length_map] at this; omega
  subst hl
  rcases h.2 with ⟨rfl, h0⟩ | ⟨g, cap, cur, rfl, hb, hg, hnc, _⟩
  · have e0 : ds = [] := List.eq_nil_of_length_eq_zero h0
    subst e0
    exact ⟨none, 0, 0, 0, rfl, Nat.zero_le _, Nat.le_refl _, fun h => absurd h (Nat.lt_irrefl 0), fun j hj => absurd hj (Nat.not_lt_zero j)⟩
  · refine ⟨_, g, 0, cap, rfl, hn, hnc, fun _ => ⟨rfl, hb⟩, fun j hj => ?_⟩
    rw [Nat.zero_add, h.cellAt j (by rw [Nat.mul_one]; exact hj), List.getElem?_map, List.getElem?_eq_getElem hj]
    rfl
theorem und_args {w : World} {H : Nat → Prop} {v : Value} {cs : List V} {b d : Int} (h : Rep0 w H v (.l 1 cs)) : RepAll w H [v, .int .u64 b, .int .u64 d] [.l 1 cs, .i .u64 b, .i .u64 d] :=
  ⟨rfl, fun j u x h1 h2 => match j, h1, h2 with
    | 0, h1, h2 => by cases h1; cases h2; exact h
    | 1, h1, h2 => by cases h1; cases h2; exact .i _ _
    | 2, h1, h2 => by cases h1; cases h2; exact .i _ _⟩
theorem und_ma {w : World} {H : Nat → Prop} (hT : TJ w H) (hH : ∀ b, H b → b < w.heap.size) {lo : Nat} {v : Value} {ds : List Nat} (b d : Nat) (hds : Wd ds) (hb : b < 18446744073709551616) (hd : d < 18446744073709551616) (ld : ds.length ≤ 1099511627776) (hr : RowU w lo v ds) :
    Calls Tryz.prog 73 #[v, .int .u64 (b : Int), .int .u64 (d : Int)] w fun e w' => ∃ u, e = .returned (.tuple #[u, .int .u64 (((nv B ds * b + d) / B ^ ds.length : Nat) : Int)]) ∧ Below w.heap.size w w' ∧
      w'.ownsRow w.heap.size 33 1 u ds.length ((fl B ds.length (nv B ds * b + d)).map fun x : Nat => Value.int .u64 (x : Int)) := by
  have h := (mulAdd_spec ds b d hds hb hd ld).2.2.2 w (fun q => H q ∨ (lo ≤ q ∧ q < w.heap.size)) [v, .int .u64 (b : Int), .int .u64 (d : Int)] trivial (hT.mono (fun _ h => .inl h) fun _ _ => rfl) (fun q hq => hq.elim (hH q) (·.2))
    (und_args (hr.rep.mono (fun _ h => .inr h) fun _ _ => rfl))
  refine Calls.mono h ?_
  rintro e w' ⟨u, us, n, xs, rfl, hbw, hown, hra, _, hm, hrs⟩
  obtain ⟨x, rfl⟩ : ∃ x, us = [x] := by
    have := hrs.1
    match us, this with
    | [x], _ => exact ⟨x, rfl⟩
  have hx := hrs.2 0 x _ rfl rfl
  cases hx
  have exs := repall_map hra
  subst exs
  have hn : n = ds.length := by have := hown.1; rw [List.length_map, fl_len] at this; omega
  subst hn
  exact ⟨u, rfl, hbw, hown⟩
theorem und_nm {w : World} {H : Nat → Prop} (hT : TJ w H) (hH : ∀ b, H b → b < w.heap.size) {lo : Nat} {v : Value} {ds : List Nat} (hds : Wd ds) (ld : ds.length ≤ 1099511627776) (hr : RowU w lo v ds) :
    Calls Tryz.prog 49 #[v] w fun e w' => ∃ u, e = .returned u ∧ Below w.heap.size w w' ∧ RowU w' w.heap.size u (dg B (nv B ds)) := by
  have h := (norm_dg ds hds ld) w (fun q => H q ∨ (lo ≤ q ∧ q < w.heap.size)) [v] trivial (hT.mono (fun _ h => .inl h) fun _ _ => rfl) (fun q hq => hq.elim (hH q) (·.2))
    ⟨rfl, fun j u x h1 h2 => match j, h1, h2 with
      | 0, h1, h2 => by cases h1; cases h2; exact hr.rep.mono (fun _ h => .inr h) fun _ _ => rfl⟩
  refine Calls.mono h ?_
  rintro e w' ⟨u, rfl, hbw, N, hN, hres⟩
  rcases hres with hres | ⟨e', sz', cs', n, xs, h1, hsz, ho, hra, _, hm, hno⟩ | ⟨r', h, _⟩
  · cases hres
  · cases h1
    have exs := repall_map hra
    subst exs
    exact ⟨u, rfl, hbw, RowU.own ho hm⟩
  · cases h
end Go.Proofs.YtgejbndgakgfnaaGreatDoor
