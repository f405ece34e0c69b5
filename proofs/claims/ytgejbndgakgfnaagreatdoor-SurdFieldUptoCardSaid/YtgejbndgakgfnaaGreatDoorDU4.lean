/-
  div.Undigits: the number of digits.
-/
import Derived.Test.YtgejbndgakgfnaaGreatDoorDU3
namespace Go.Proofs.YtgejbndgakgfnaaGreatDoor
open Go Go.RowKit Go.Shelf Go.Proofs Ab
set_option linter.unusedSimpArgs false
set_option linter.unusedVariables false
set_option maxHeartbeats 10000000
set_option maxHeartbeats 4000000
set_option maxRecDepth 2000000
attribute [local go_sem] Oper.semAt_some
def valU (b : Nat) (pre : List (Nat × Dg)) : Nat := pre.foldl (fun s x => s * b + x.2.1) 0
theorem valU_snoc (b : Nat) (pre : List (Nat × Dg)) (x : Nat × Dg) : valU b (pre ++ [x]) = valU b pre * b + x.2.1 := by simp [valU]
theorem val_lt {k v b x : Nat} (hv : v < B ^ k) (hb : b < B) (hx : x < B) : v * b + x < B ^ (k + 1) := by
  have h1 : v * b ≤ (B ^ k - 1) * (B - 1) := Nat.mul_le_mul (by omega) (by omega)
  have h2 : (B ^ k - 1) * (B - 1) + (B - 1) = B ^ k * (B - 1) := by
    rw [← Nat.succ_mul]; congr 1; have := Nat.pow_pos (n := k) B0; omega
  have h3 : B * B ^ k = B ^ k * (B - 1) + B ^ k := by rw [Nat.mul_comm, ← Nat.mul_succ]; rfl
  have := Nat.pow_pos (n := k) B0
  rw [Nat.pow_succ, Nat.mul_comm (B ^ k) B]
  omega
theorem valU_lt {b : Nat} (hb : b < B) : ∀ (n : Nat) (pre : List (Nat × Dg)), pre.length = n → valU b pre < B ^ n
  | 0, pre, h => by rw [List.eq_nil_of_length_eq_zero h]; exact Nat.one_pos
  | n + 1, pre, h => by
    have hne : pre ≠ [] := fun e => by rw [e] at h; simp at h
    rw [← List.dropLast_concat_getLast hne, valU_snoc]
    exact val_lt (valU_lt hb n _ (by rw [List.length_dropLast]; omega)) hb (pre.getLast hne).2.2
theorem valU_up {b : Nat} {l : List Nat} (hl : Wd l) : ∀ k, k ≤ l.length → valU b (upU (bkD l hl) k) = nv b (l.drop (l.length - k))
  | 0, _ => by rw [Nat.sub_zero, List.drop_length]; rfl
  | k + 1, h => by
    have h1 : l.length - (k + 1) < l.length := by omega
    have h2 := nv_drop_get (b := b) l (l.length - (k + 1)) h1
    have h3 : (bkD l hl k).2.1 = l.getD (l.length - (k + 1)) 0 := by
      show l[l.length - 1 - k]?.getD 0 = _
      rw [List.getD_eq_getElem?_getD, show l.length - 1 - k = l.length - (k + 1) from by omega]
    rw [upU_succ, valU_snoc, valU_up hl k (by omega), h2, h3, show l.length - (k + 1) + 1 = l.length - k from by omega, Nat.mul_comm]
    omega
theorem und_info : (Tryz.prog.info? 33).map (fun i => (i.zero, i.size, i.bytes)) = some (some (.int .u64 0), 1, 8) := by kernel_rfl
theorem keeps_of_below {w w' : World} (h : Below w.heap.size w w') : KeepsOthers w w' := ⟨h.size, fun k o hk _ => (h.block k (Array.getElem?_eq_some_iff.1 hk).1).trans hk⟩
theorem own_block {w : World} {base e n : Nat} {v : Value} {xs : List Value} (h : w.ownsRow base e 1 v n xs) : ∀ k, v.ownBlock = some k → base ≤ k := fun k hk => by
  rcases h.2 with ⟨rfl, _⟩ | ⟨g, cap, cur, rfl, hb, _⟩
  · cases hk
  · cases hk; exact hb
theorem RowU.lower {w : World} {lo lo' : Nat} {v : Value} {ds : List Nat} (h : RowU w lo v ds) (hl : lo' ≤ lo) : RowU w lo' v ds := by
  obtain ⟨a, b, o, c, h0, h1, h2, h3, h4⟩ := h
  exact ⟨a, b, o, c, h0, h1, h2, fun h => ⟨(h3 h).1, Nat.le_trans hl (h3 h).2⟩, h4⟩
theorem RowU.nil (w : World) (lo : Nat) : RowU w lo (.slice none 0 0) [] := ⟨none, 0, 0, 0, rfl, Nat.zero_le _, Nat.le_refl _, fun h => absurd h (Nat.lt_irrefl 0), fun j hj => absurd hj (Nat.not_lt_zero j)⟩
theorem res_li {w w' : World} {H : Nat → Prop} {lo : Nat} {v : Value} {ds : List Nat} (h : RowU w' lo v ds) (hlo : w.heap.size ≤ lo) (n : Int) : Res w w' H (.tuple #[v, .int .i64 n]) (.t [.l 1 (W ds), .i .i64 n]) := by
  refine ⟨fun q => w.heap.size ≤ q ∧ q < w'.heap.size, fun q hq => hq, .inl (.t [v, .int .i64 n] [.l 1 (W ds), .i .i64 n] rfl fun j u y h1 h2 => ?_)⟩
  match j, h1, h2 with
  | 0, h1, h2 => cases h1; cases h2; exact h.rep.mono (fun q hq => .inr ⟨Nat.le_trans hlo hq.1, hq.2⟩) fun _ _ => rfl
  | 1, h1, h2 => cases h1; cases h2; exact .i _ _
theorem unE_neg {l : List Nat} {b : Nat} (h : ¬ (2 ≤ b ∧ l.all (· < b))) : unD l b = [] ∧ unE l b = 3 := ⟨if_neg h, if_neg h⟩
theorem undigits_raw (l : List Nat) (b : Nat) (hl : Wd l) (hb : b < 18446744073709551616) (ll : l.length ≤ 1000000000) :
    AFun Tryz.prog J0 116 [.l 1 (W l), .i .u64 (b : Int)] (.t [.l 1 (W (unD l b)), .i .i64 (unE l b)]) := by
  refine .of0 rfl fun w H vs hJ hT hH hr => ?_
  obtain ⟨h0, h1⟩ := hr
  obtain ⟨v0, v1, rfl⟩ : ∃ v0 v1, vs = [v0, v1] := by
    match vs, h0 with
    | [v, u], _ => exact ⟨v, u, rfl⟩
  have h2 := h1 0 v0 _ rfl rfl
  have h3 := h1 1 v1 _ rfl rfl
  cases h3
  obtain ⟨a, bk, o, c, rfl, hm, hcp, ha, hc⟩ := RowU.of (lo := 0) h2 (fun _ _ => Nat.zero_le _)
  have hlt : 0 < l.length → bk < w.heap.size := fun h => lt_of_cell (hc 0 h)
  refine (callsIn_wide (n := 3)).1 ?_
  refine callsIn_of_wp_marks Tryz.func116 rfl trivial ?_ rfl
  simp only [Tryz.ntmps116, List.size_toArray, List.length_cons, List.length_nil, Nat.reduceAdd, Nat.reduceSub, Array.replicate_succ, Array.replicate_zero, List.push_toArray, List.append_toArray, List.nil_append, List.cons_append]
  by_cases hb2 : b < 2
  · have hbI : (b : Int) < 2 := by omega
    have hb2' : ¬ 2 ≤ b := by omega
    obtain ⟨e1, e2⟩ := unE_neg (l := l) (b := b) (fun h => hb2' h.1)
    gi_wp2
    refine ⟨trivial, ?_⟩
    gi_wp2
    refine ⟨_, results_tmp2 rfl _ _ _, _, rfl, (Below.refl _ w).alloc (Nat.le_refl _) _, ?_⟩
    rw [e1, e2]
    exact res_li (RowU.nil _ _) (Nat.le_refl _) 3
  · have hbI : ¬ (b : Int) < 2 := by omega
    have hcon := und_contains w.heap.size b a bk o c l (w.alloc (.cells #[.int .u64 (b : Int)] 33)) (Boxed.new w _ _).cell (fun h => (ha h).1) (by omega) (fun j hj => (((Below.refl _ w).alloc (Nat.le_refl _) _).cell (p := ⟨bk, o + j, none⟩) (hlt (by omega))).trans (hc j hj))
    by_cases hany : ∃ j, j < l.length ∧ b ≤ l[j]?.getD 0
    · have hcon' := hcon.mono (R' := fun e w' => e = .returned (.bool true) ∧ w' = w.alloc (.cells #[.int .u64 (b : Int)] 33)) (fun e w' ⟨⟨r, he, hr⟩, hw⟩ => ⟨by rw [he, hr.2 hany], hw⟩)
      gi_wp2_with (refine ⟨trivial, ?_⟩; gi_at_call 129; refine (callsIn_wide.2 hcon').mono ?_; rintro e w' ⟨rfl, rfl⟩)
      refine ⟨_, results_tmp2 rfl _ _ _, _, rfl, (Below.refl _ w).alloc (Nat.le_refl _) _, ?_⟩
      obtain ⟨e1, e2⟩ := unE_neg (l := l) (b := b) (fun h => by
        obtain ⟨j, hj, hbj⟩ := hany
        have := List.all_eq_true.1 h.2 l[j] (List.getElem_mem hj)
        rw [List.getElem?_eq_getElem hj] at hbj
        simp at this hbj; omega)
      rw [e1, e2]
      exact res_li (RowU.nil _ _) (Nat.le_refl _) 3
    · have hcon' := hcon.mono (R' := fun e w' => e = .returned (.bool false) ∧ w' = w.alloc (.cells #[.int .u64 (b : Int)] 33)) (fun e w' ⟨⟨r, he, hr⟩, hw⟩ => ⟨by
        have : r = false := by
          cases r with
          | false => rfl
          | true => exact absurd (hr.1 rfl) hany
        rw [he, this], hw⟩)
      have hBase := Boxed.new w 33 (.int .u64 (b : Int))
      gi_wp2_with (first | (refine ⟨trivial, ?_⟩; gi_at_call 129; refine (callsIn_wide.2 hcon').mono ?_; rintro e w' ⟨rfl, rfl⟩) | (refine ⟨trivial, ?_⟩; gi_at_call 131; refine (bk_in Fence.wide _ trivial rfl _ _ _ _).mono ?_; rintro e w' ⟨rfl, rfl⟩))
      have bB := (((Boxed.new w 33 (.int .u64 (b : Int))).alloc (.cells #[.slice none 0 0] 23)).alloc (.cells #[.slice a l.length c] 22))
      have bA := (Boxed.new (w.alloc (.cells #[.int .u64 (b : Int)] 33)) 23 (.slice none 0 0)).alloc (.cells #[.slice a l.length c] 22)
      have bL := Boxed.new ((w.alloc (.cells #[.int .u64 (b : Int)] 33)).alloc (.cells #[.slice none 0 0] 23)) 22 (.slice a l.length c)
      have hB0 : Below w.heap.size w (((w.alloc (.cells #[.int .u64 (b : Int)] 33)).alloc (.cells #[.slice none 0 0] 23)).alloc (.cells #[.slice a l.length c] 22)) :=
        (((Below.refl _ w).alloc (Nat.le_refl _) _).alloc (by simp) _).alloc (by simp; omega) _
      have hsz : (((w.alloc (.cells #[.int .u64 (b : Int)] 33)).alloc (.cells #[.slice none 0 0] 23)).alloc (.cells #[.slice a l.length c] 22)).heap.size = w.heap.size + 3 := by simp
      simp only [World.size_alloc] at bA bL
      generalize (((w.alloc (.cells #[.int .u64 (b : Int)] 33)).alloc (.cells #[.slice none 0 0] 23)).alloc (.cells #[.slice a l.length c] 22)) = W0 at bB bA bL hB0 hsz ⊢
      clear hcon hcon' hBase
      have hbB : b < B := hb
      refine wpIn_rangeFunc_ownF rfl (by decide) (gf := 135) (lb := #[.pointer (some ⟨w.heap.size + 1 + 1, 0, none⟩)]) rfl trivial (enters_of Tryz.func135 (by kernel_rfl) rfl)
        (bk_stops Fence.wide _ trivial rfl (by decide) (w.heap.size + 1 + 1) w.heap.size bk o c a l hl (by omega) hlt (fun h => (ha h).1) W0 (by omega) (by omega) bL.cell (fun j hj => (hB0.cell (p := ⟨bk, o + j, none⟩) (hlt (by omega))).trans (hc j hj)))
        KpU.t (KpU.b (by omega) (by omega)) (Below.refl _ _) (fun _ => rfl)
        (fun pre X => (Boxed X w.heap.size 33 (.int .u64 (b : Int)) ∧ Boxed X (w.heap.size + 1 + 1) 22 (.slice a l.length c) ∧ ∃ v, Boxed X (w.heap.size + 1) 23 v ∧ RowU X (w.heap.size + 3) v (dg B (valU b pre))) ∧ Below w.heap.size w X)
        (fun _ _ _ => False)
        (OwnFrom.and (Own.from (fun s X Y row hs hg hr => by
          obtain ⟨h1, h5, v, h2, h3⟩ := hs
          exact ⟨boxed_own _ _ (fun (_ : Unit) => Value.int .u64 (b : Int)) () X Y row h1 hg hr, boxed_own _ _ (fun (_ : Unit) => Value.slice a l.length c) () X Y row h5 hg hr, v, boxed_own _ _ (fun (_ : Unit) => v) () X Y row h2 hg hr, h3.kept fun q _ _ o x hx => cell_kept hx hg hr⟩) _) (ownFrom_below (Nat.le_refl _) (by omega)))
        (fun _ _ _ _ _ hs _ _ => hs)
        ⟨⟨bB, bL, _, bA, RowU.nil _ _⟩, hB0⟩
        ?a1 ?assign ?body ?done ?stop
      case assign =>
        intro y x X K hK
        gi_wp2
        exact hK
      case body =>
        rintro y pre x X ⟨⟨h1, h5, v, h2, hrow⟩, hB⟩ hpl
        have hc1 := h1.cell
        have hc2 := h2.cell
        have hvl := valU_lt hbB _ pre rfl
        have hll : (dg B (valU b pre)).length ≤ pre.length := dg_len B2 hvl
        have hTX := hT.mono (fun _ h => h) fun q hq => hB.block q (hH q hq)
        have hHX := fun q hq => Nat.lt_of_lt_of_le (hH q hq) hB.size
        have hma := und_ma hTX hHX b x.2.1 (Wd_dg _) hb x.2.2 (by omega) hrow
        have hnl := nv_lt (b := B) (Wd_dg (valU b pre))
        rw [nv_dg B2] at hma hnl
        have hTl := val_lt hnl hbB (show x.2.1 < B from x.2.2)
        have hds : valU b (pre ++ [x]) = valU b pre * b + x.2.1 := valU_snoc b pre x
        generalize dg B (valU b pre) = ds at hma hTl hll hrow
        generalize valU b pre * b + x.2.1 = T at hma hTl hds
        obtain ⟨top, htop⟩ : ∃ top, top = T / B ^ ds.length := ⟨_, rfl⟩
        have htB : top < B := by rw [htop]; exact (Nat.div_lt_iff_lt_mul (Nat.pow_pos B0)).2 (by rw [Nat.mul_comm]; exact hTl)
        have hval : nv B (fl B ds.length T ++ [top]) = T := by rw [nv_app, fl_len, nv_fl, nv_one, htop]; exact Nat.mod_add_div _ _
        have hwd : Wd (fl B ds.length T ++ [top]) := Lt_app.2 ⟨fl_Lt B0 _ _, Lt_cons.2 ⟨htB, Lt_nil⟩⟩
        rw [← htop] at hma
        clear htop hvl hnl
        obtain ⟨i0, hi, hz0, hz1, hz2⟩ := info_parts und_info
        have hmx : ds.length + 1 ≤ maxLen := by
          have : (1000000001 : Nat) ≤ maxLen := by decide
          omega
        gi_wp2_with (first
          | (refine ⟨trivial, ?_⟩; gi_at_call 73; refine (CallsIn.inRound y (callsIn_wide.2 hma)).mono ?_; rintro e X1 ⟨u, rfl, hb1, hown⟩)
          | (gi_at_builtin; refine wpListIn_append_own _ rfl _ _ 22 rfl X.heap.size 33 i0 (.int .u64 0) 1 8 Tryz.underlying22 hi hz0 hz1 hz2 rfl (by decide) _ _ _ rfl (hown.alloc _) ⟨_, 0, none⟩ 1 1 [.int .u64 (top : Int)] rfl rfl (cell_one_new _ _ _) (by simp [Value.oneCell']) hmx (by omega) (by have := hb1.size; simp; omega) ?_; intro v' X2 hown' hgrow _; obtain ⟨g', cap', rfl⟩ := ownsRow_succ hown'
             have hb2 : Below X.heap.size X X2 := (hb1.alloc hb1.size _).grown hgrow (by have := hb1.size; simp; omega) (own_block hown)
             have hrow2 : RowU X2 X.heap.size (.slice (some ⟨g', 0, none⟩) (ds.length + 1) cap') (fl B ds.length T ++ [top]) := RowU.own (n := ds.length + 1) (by rw [List.map_append]; exact hown') hmx
             have hnm := und_nm (hTX.mono (fun _ h => h) fun q hq => hb2.block q (hHX q hq)) (fun q hq => Nat.lt_of_lt_of_le (hHX q hq) hb2.size) hwd (by rw [List.length_append, fl_len, List.length_singleton]; omega) hrow2
             rw [hval] at hnm)
          | (refine ⟨trivial, ?_⟩; gi_at_call 49; refine (CallsIn.inRound y (callsIn_wide.2 hnm)).mono ?_; rintro e X3 ⟨r, rfl, hb3, hr3⟩
             have hb4 : Below X.heap.size X X3 := hb2.trans (hb3.mono hb2.size)
             have h2' : Boxed X3 (w.heap.size + 1) 23 v := (hb4.block _ h2.lt).trans h2
             have hr4 := hr3
             obtain ⟨a3, b3, o3, c3, rfl, _⟩ := hr4
             have hc3 := h2'.cell
             have hf3 := h2'.frozen))
        have hs2 := hb2.size
        refine ⟨(keeps_of_below hb4).trans (KeepsOthers.setCell _ _ _), ⟨(hb4.mono hB.size).setCell (p := ⟨w.heap.size + 1, 0, none⟩) (Nat.le_succ _) _, ?_⟩, ⟨?_, ?_, _, h2'.set _, ?_⟩, (hB.trans (hb4.mono hB.size)).setCell (p := ⟨w.heap.size + 1, 0, none⟩) (Nat.le_succ _) _⟩
        · exact (Below.heap_setCell X3 ⟨w.heap.size + 1, 0, none⟩ _ (w.heap.size + 1 + 1) (by simp)).trans (hb4.block _ h5.lt)
        · exact (Below.heap_setCell X3 ⟨w.heap.size + 1, 0, none⟩ _ w.heap.size (by simp)).trans ((hb4.block _ h1.lt).trans h1)
        · exact (Below.heap_setCell X3 ⟨w.heap.size + 1, 0, none⟩ _ (w.heap.size + 1 + 1) (by simp)).trans ((hb4.block _ h5.lt).trans h5)
        · rw [hds]
          have h5l := h5.lt
          exact (hr3.lower (by omega)).kept fun q hq _ o x hx => (World.cell?_of_block (a := ⟨q, o, none⟩) (Below.heap_setCell X3 ⟨w.heap.size + 1, 0, none⟩ _ q (by show q ≠ w.heap.size + 1; omega))).trans hx
      case done =>
        rintro D ys X hD rfl ⟨⟨h1, h5, v, h2, hrow⟩, hB⟩ hK
        have hc2 := h2.cell
        have hvv := valU_up (b := b) hl l.length (Nat.le_refl _)
        rw [Nat.sub_self, List.drop_zero] at hvv
        rw [hvv] at hrow
        have hvl := valU_lt hbB _ (upU (bkD l hl) l.length) rfl
        rw [hvv, upU_len] at hvl
        have hll : (dg B (nv b l)).length ≤ l.length := dg_len B2 hvl
        have hnm := und_nm (hT.mono (fun _ h => h) fun q hq => hB.block q (hH q hq)) (fun q hq => Nat.lt_of_lt_of_le (hH q hq) hB.size) (Wd_dg _) (by omega) hrow
        rw [nv_dg B2] at hnm
        have hr4 := hrow
        obtain ⟨a3, b3, o3, c3, rfl, _⟩ := hr4
        have hKl := (Array.getElem?_eq_some_iff.1 hK).1
        gi_wp2_with (refine ⟨trivial, ?_⟩; gi_at_call 49; refine (callsIn_wide.2 hnm).mono ?_; rintro e X3 ⟨r, rfl, hb3, hr3⟩)
        have hK3 := (hb3.block D hKl).trans hK
        refine ⟨by simp, .inl ⟨_, _, rfl, run_takeDeferred hK3, ?_⟩⟩
        obtain ⟨e1, e2⟩ : unD l b = dg B (nv b l) ∧ unE l b = 0 := by
          have h9 : 2 ≤ b ∧ l.all (· < b) = true := ⟨by omega, List.all_eq_true.2 fun x hx => by
            obtain ⟨i, hi, rfl⟩ := List.mem_iff_getElem.1 hx
            rcases Nat.lt_or_ge l[i] b with h8 | h8
            · simpa using h8
            · exact absurd ⟨i, hi, by rw [List.getElem?_eq_getElem hi]; exact h8⟩ hany⟩
          exact ⟨if_pos h9, if_pos h9⟩
        refine ⟨_, results_tmp2 rfl _ _ _, _, rfl, (hB.trans (hb3.mono hB.size)).trans (belowK_b (w := w) (Nat.le_refl _) X3 D _ _ (by omega) hK3 rfl rfl), ?_⟩
        rw [e1, e2]
        exact res_li (hr3.kept fun q _ _ o x hx => cell_kept hx (grownBy_putObj' _ D (.deferred none)) (fun r e => by cases e; exact ⟨_, hK3, rfl⟩)) hB.size 0
      case stop =>
        rintro D k pre X _ _ h _
        exact h.elim
end Go.Proofs.YtgejbndgakgfnaaGreatDoor
