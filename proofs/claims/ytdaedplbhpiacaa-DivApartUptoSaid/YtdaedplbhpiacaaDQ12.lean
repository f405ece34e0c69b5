/-
  DivApart: a round: the checks; the answers in the book; its end.
-/
import Derived.Test.YtdaedplbhpiacaaDQ11
namespace Go.Proofs.Ytdaedplbhpiacaa
open Go Go.RowKit Go.Proofs Ab
set_option linter.unusedSimpArgs false
set_option linter.unusedVariables false
set_option maxHeartbeats 10000000
set_option maxHeartbeats 4000000
set_option maxRecDepth 2000000
theorem da_checks {a : Act} {w0 w : World} {R : Exit → Act → World → Prop} {k β : Nat} {A1 A2 : List Nat} {L : List (List Nat)} {f us : Nat → Value} (hz : a.tmps.size = 307) (hd : a.defers = []) (hf : ∀ t, t < 52 → a.tmps.getD t undef = us t) (hA : AnsD w0 w β A1 A2 f us) (h2 : f 2 = .int .u64 (β : Int)) (h10 : f 10 = .int .i64 (k : Int))
    (h7 : k = 0 → Rep0 w (fun q => q < w.heap.size) (f 7) (.ip [.any, .l 1 (LA L), .l 1 (LA L)] 0)) (lL : L.length ≤ 1000000) (aL : ∀ a, a ∈ L → a.length ≤ 1000000000000) (wd1 : Wd A1) (wd2 : Wd A2) (b1 : A1.length ≤ 10000000) (b2 : A2.length ≤ 10000000) (hβ : 2 ≤ β) (hβ2 : β < 18446744073709551616)
    (kk : ∀ (a' : Act) (w' : World), a'.tmps.size = 307 → (∀ t, t ∈ kpD → a'.tmps.getD t undef = us t) → a'.defers = [] → Below w.heap.size w w' → (qd 20 (daD Try.f3)).wp Try.prog R a' w') : (qd 11 (daD Try.f3)).wp Try.prog R a w := by
  have hus : ∀ t, t ∈ kpD → t < 52 := by decide
  have hlen := ansD_len (A2 := A2) (us := us) wd1 b1 hβ
  have mid : ∀ (a' : Act) (w' : World), a'.tmps.size = 307 → (∀ t, t ∈ kpD → a'.tmps.getD t undef = a.tmps.getD t undef) → a'.defers = [] → Below w.heap.size w w' → (qd 12 (daD Try.f3)).wp Try.prog R a' w' := fun a1 w1 z1 s1 d1 B1 => by
    have C := hA.cl.below B1
    have su : ∀ t, t ∈ kpD → a1.tmps.getD t undef = us t := fun t ht => (s1 t ht).trans (hf t (hus t ht))
    obtain ⟨m1, hm1, o1⟩ := hA.was
    obtain ⟨m2, hm2, o2⟩ := hA.old2
    have o1' := ow_below o1 fun q hq => B1.block q (o1.lt q hq).2
    have o2' := ow_below o2 fun q hq => B1.block q (o2.lt q hq).2
    have memA : ∀ {v : Value} {A : List Nat}, (v, A) ∈ ansD β A1 A2 us → Rep0 w1 (fun q => q < w1.heap.size) v (.l 1 (W A)) ∧ A.length ≤ 9223372036854775807 ∧ A.length ≤ 1099511627776 := fun h => by
      have h1 := hlen _ h
      exact ⟨(C.rep h).1, (C.rep h).2.1, Nat.le_trans h1 (by decide)⟩
    have p13 := memA (v := us 13) (A := qQ (nv B A1) (nv B A2)) (by simp [ansD])
    have p14 := memA (v := us 14) (A := qR (nv B A1) (nv B A2)) (by simp [ansD])
    have p16 := memA (v := us 16) (A := qQ (nv B A1) (nv B A2)) (by simp [ansD])
    have p17 := memA (v := us 17) (A := qR (nv B A1) (nv B A2)) (by simp [ansD])
    have p19 := memA (v := us 19) (A := qR (nv B A1) (nv B A2)) (by simp [ansD])
    have p21 := memA (v := us 21) (A := upQ (nv B A1) (nv B A2)) (by simp [ansD])
    have p23 := memA (v := us 23) (A := nrQ (nv B A1) (nv B A2)) (by simp [ansD])
    have p25 := memA (v := us 25) (A := dg B (nv B A1 / β)) (by simp [ansD])
    have p28 := memA (v := us 28) (A := exQ (nv B A1) (nv B A2)) (by simp [ansD])
    have p30 := memA (v := us 30) (A := dg β (nv B A1)) (by simp [ansD])
    have p32 := memA (v := us 32) (A := qR (nv B A1 * nv B A1) (nv B A2)) (by simp [ansD])
    have p34 := memA (v := us 34) (A := dg B (nv B A1)) (by simp [ansD])
    have cw := rqword_spec A1 β wd1 hβ2 (by omega)
    have cd := rdigs_spec A1 β wd1 hβ2 (by omega)
    rw [show dgD (nv B A1) β = dg β (nv B A1) from if_neg (by omega)] at cd
    refine da_chk (H := fun q => q < w1.heap.size) (x := A1) (y := A2) z1 d1 (fun q h => h) p13.2.1 p14.2.1 p21.2.1 p23.2.1 p28.2.1 p30.2.2 p32.2.1 p34.2.1 p25.2.1
      (rquo_spec A1 A2 wd1 wd2 (by omega) (by omega)) (rup_spec A1 A2 wd1 wd2 (by omega) (by omega)) (rnear_spec A1 A2 wd1 wd2 (by omega) (by omega)) cw (rexact_spec A1 A2 wd1 wd2 (by omega) (by omega)) cd (rmulmod_spec A1 A1 A2 wd1 wd1 wd2 (by omega) (by omega) (by omega)) (rnorm_spec A1 wd1 (by omega)) (fun p hp => ?_) (fun a' w' z s d b => kk a' w' z (fun t ht => (s t ht).trans (su t ht)) d (below_tr B1 b))
    simp only [List.mem_cons, List.not_mem_nil, or_false] at hp
    rcases hp with rfl | rfl | rfl | rfl | rfl | rfl | rfl | rfl | rfl | rfl | rfl | rfl | rfl | rfl | rfl | rfl | rfl | rfl | rfl | rfl
    · rw [su 2 (by decide), hA.old 2 (by decide), h2]; exact .i _ _
    · rw [su 11 (by decide)]; exact .base (own_rep o1' hm1)
    · rw [su 12 (by decide)]; exact .base (own_rep o2' hm2)
    · rw [su 13 (by decide)]; exact .base p13.1
    · rw [su 14 (by decide)]; exact .base p14.1
    · rw [su 15 (by decide), hA.s15]; exact .i _ _
    · rw [su 16 (by decide)]; exact .base p16.1
    · rw [su 17 (by decide)]; exact .base p17.1
    · rw [su 18 (by decide), hA.s18]; exact .i _ _
    · rw [su 19 (by decide)]; exact .base p19.1
    · rw [su 20 (by decide), hA.s20]; exact .i _ _
    · rw [su 21 (by decide)]; exact .base p21.1
    · rw [su 22 (by decide), hA.s22]; exact .i _ _
    · rw [su 23 (by decide)]; exact .base p23.1
    · rw [su 25 (by decide)]; exact .base p25.1
    · rw [su 28 (by decide)]; exact .base p28.1
    · rw [su 29 (by decide), hA.s29]; exact .i _ _
    · rw [su 30 (by decide)]; exact .base p30.1
    · rw [su 32 (by decide)]; exact .base p32.1
    · rw [su 34 (by decide)]; exact .base p34.1
  have e10 : a.tmps.getD 10 undef = .int .i64 (k : Int) := (hf 10 (by decide)).trans ((hA.old 10 (by decide)).trans h10)
  have e7 : a.tmps.getD 7 undef = f 7 := (hf 7 (by decide)).trans (hA.old 7 (by decide))
  refine da_unt (H := fun q => q < w.heap.size) (x0 := .any) (L := L) (k := k) hz hd (fun q h => h) (untouched_spec L .any lL aL) (fun hk => ?_) e10 mid
  rw [e7]; exact .base (h7 hk)
theorem da_outs {a : Act} {w0 w w1 : World} {R : Exit → Act → World → Prop} {β b m : Nat} {A1 A2 : List Nat} {f us : Nat → Value} {vl vf vu : Value} {Lv Fv Uv : List Value} (hz : a.tmps.size = 307) (hd : a.defers = []) (hf : ∀ t, t ∈ kpD → a.tmps.getD t undef = us t) (hA : AnsD w0 w β A1 A2 f us) (h7 : f 7 = .pointer (some ⟨b, 0, none⟩)) (hB0 : Below w0.heap.size w0 w) (hB1 : Below w.heap.size w w1)
    (hb : Bn w0 b vl vf vu Lv Fv Uv) (l1 : Lv.length = m) (l2 : Fv.length = m) (l3 : Uv.length = m) (cl : ∀ v, v ∈ Lv → v.oneCell' = true) (cf : ∀ v, v ∈ Fv → v.oneCell' = true) (cu : ∀ v, v ∈ Uv → v.oneCell' = true) (hm : m ≤ 500)
    (kk : ∀ (a' : Act) (w' : World) (vl' vf' vu' : Value) (Fs Us : List Value), a'.tmps.size = 307 → a'.defers = [] → (∀ t, t ∈ [2, 7, 8, 9, 10] → a'.tmps.getD t undef = f t) → Outs w0 b vl vf vu Lv Fv Uv ((ansD β A1 A2 us).map fun p => p.1) w' vl' vf' vu' Fs Us → (∀ q, Bq b vl' vf' vu' q → Bq b vl vf vu q ∨ w0.heap.size ≤ q) → Cl w0 w' (ansD β A1 A2 us) → (∀ p q, p ∈ ansD β A1 A2 us → p.1.ownBlock = some q → ¬ Bq b vl' vf' vu' q) → (qd 21 (daD Try.f3)).wp Try.prog R a' w') : (qd 20 (daD Try.f3)).wp Try.prog R a w1 := by
  have C := hA.cl.below hB1
  have hb1 := (hb.below hB0).below hB1
  have E7 : a.tmps.getD 7 undef = .pointer (some ⟨b, 0, none⟩) := (hf 7 (by decide)).trans ((hA.old 7 (by decide)).trans h7)
  obtain ⟨vs, hvs⟩ : ∃ vs, vs = [us 13, us 14, us 16, us 17, us 19, us 21, us 23, us 25, us 28, us 30, us 32, us 34] := ⟨_, rfl⟩
  have hev : (ansD β A1 A2 us).map (fun p => p.1) = vs := by rw [hvs]; simp [ansD]
  have hform : ∀ v, v ∈ vs → ∃ a n c, v = Value.slice a n c := fun v hv => by
    rw [← hev] at hv
    obtain ⟨p, hp, rfl⟩ := List.mem_map.1 hv
    exact (C.rep (v := p.1) (A := p.2) hp).2.2
  have hlt := hb1.lt
  have bw : Below w1.heap.size w1 (World.alloc w1 (.cells #[us 13, us 14, us 16, us 17, us 19, us 21, us 23, us 25, us 28, us 30, us 32, us 34] 23)) := by
    exact below_alloc w1 _
  have own := World.ownsRow_lit (base := 0) (e := 23) (size := 1) w1 #[us 13, us 14, us 16, us 17, us 19, us 21, us 23, us 25, us 28, us 30, us 32, us 34] 12 (Nat.zero_le _) (by unfold maxLen; omega) rfl
  have sz : w1.heap.size < (World.alloc w1 (.cells #[us 13, us 14, us 16, us 17, us 19, us 21, us 23, us 25, us 28, us 30, us 32, us 34] 23)).heap.size := by
    rw [World.size_alloc]; exact Nat.lt_succ_self _
  have hva : Rep0 (World.alloc w1 (.cells #[us 13, us 14, us 16, us 17, us 19, us 21, us 23, us 25, us 28, us 30, us 32, us 34] 23)) (fun q => q = w1.heap.size) (.slice (some ⟨w1.heap.size, 0, none⟩) 12 12) (.l 1 (vs.map V.c)) := by
    refine row_l Nat.one_pos own ?_ (by unfold maxLen; omega) fun q hq => by cases hq; rfl
    rw [← hvs]
    exact ⟨by rw [List.length_map], fun j v x h1 h2 => by
      rw [List.getElem?_map, h1] at h2
      cases h2; exact .c _⟩
  generalize hW : World.alloc w1 (.cells #[us 13, us 14, us 16, us 17, us 19, us 21, us 23, us 25, us 28, us 30, us 32, us 34] 23) = W at *
  have hout := out_raw (va := .slice (some ⟨w1.heap.size, 0, none⟩) 12 12) (vs := vs) (Ha := fun q => q = w1.heap.size) (hb1.below bw) (fun q hq => by rw [hq]; exact sz) (fun q hq h => by have := hlt q hq; omega) hva l1 l2 l3 cl cf cu (fun v hv => by obtain ⟨a, n, c, rfl⟩ := hform v hv; rfl) (by omega) (by rw [hvs]; show 12 ≤ _; omega)
  refine wp_seq ?_
  obtain ⟨a13, n13, c13, e13⟩ := hform (us 13) (by rw [hvs]; simp)
  obtain ⟨a14, n14, c14, e14⟩ := hform (us 14) (by rw [hvs]; simp)
  obtain ⟨a16, n16, c16, e16⟩ := hform (us 16) (by rw [hvs]; simp)
  obtain ⟨a17, n17, c17, e17⟩ := hform (us 17) (by rw [hvs]; simp)
  obtain ⟨a19, n19, c19, e19⟩ := hform (us 19) (by rw [hvs]; simp)
  obtain ⟨a21, n21, c21, e21⟩ := hform (us 21) (by rw [hvs]; simp)
  obtain ⟨a23, n23, c23, e23⟩ := hform (us 23) (by rw [hvs]; simp)
  obtain ⟨a25, n25, c25, e25⟩ := hform (us 25) (by rw [hvs]; simp)
  obtain ⟨a28, n28, c28, e28⟩ := hform (us 28) (by rw [hvs]; simp)
  obtain ⟨a30, n30, c30, e30⟩ := hform (us 30) (by rw [hvs]; simp)
  obtain ⟨a32, n32, c32, e32⟩ := hform (us 32) (by rw [hvs]; simp)
  obtain ⟨a34, n34, c34, e34⟩ := hform (us 34) (by rw [hvs]; simp)
  refine da_out (Qf := fun w' => OutR W b vl vf vu Lv Fv Uv vs (.returned (.tuple #[])) w') hz E7 ((hf 13 (by decide)).trans e13) ((hf 14 (by decide)).trans e14) ((hf 16 (by decide)).trans e16) ((hf 17 (by decide)).trans e17) ((hf 19 (by decide)).trans e19) ((hf 21 (by decide)).trans e21) ((hf 23 (by decide)).trans e23) ((hf 25 (by decide)).trans e25) ((hf 28 (by decide)).trans e28) ((hf 30 (by decide)).trans e30) ((hf 32 (by decide)).trans e32) ((hf 34 (by decide)).trans e34) ?_ fun a2 w2 z2 s2 d2 hQ => ?_
  · rw [← e13, ← e14, ← e16, ← e17, ← e19, ← e21, ← e23, ← e25, ← e28, ← e30, ← e32, ← e34, hW]
    exact hout.mono fun e w' h => by
      obtain ⟨x1, x2, x3, x4, x5, he, h⟩ := h
      exact ⟨he, x1, x2, x3, x4, x5, rfl, h⟩
  obtain ⟨vl', vf', vu', Fs, Us, _, hbel, hbn, lF, lU, fF, fU, hq⟩ := hQ
  have s0 := hB0.size
  have s1 := hB1.size
  have sW := bw.size
  have hold : ∀ q, Bq b vl vf vu q → q < w0.heap.size := hb.lt
  have C2 : Cl w0 w2 (ansD β A1 A2 us) := (C.below bw).keep fun p x hp hx => by
    have h := (C.below bw).lt hp hx
    exact hbel.block x h.2 (fun h' => by have := hold x h'; omega)
  refine kk a2 w2 vl' vf' vu' Fs Us z2 (d2.trans hd) (fun t ht => ?_) ⟨⟨hbel.os.trans (bw.os.trans (hB1.os.trans hB0.os)), hbel.tape.trans (bw.tape.trans (hB1.tape.trans hB0.tape)), hbel.output.trans (bw.output.trans (hB1.output.trans hB0.output)), by have := hbel.size; omega, fun x hx hne => (hbel.block x (by omega) hne).trans ((bw.block x (by omega)).trans ((hB1.block x (by omega)).trans (hB0.block x hx)))⟩, by rw [hev]; exact hbn, by rw [hev]; exact lF, by rw [hev]; exact lU, fF, fU⟩ (fun x hx => (hq x hx).imp id fun h => by omega) C2 (fun p x hp hx hbq => ?_)
  · have h1 : t < 286 ∧ t ∈ kpD ∧ t < 11 := by
      have : ∀ t, t ∈ [2, 7, 8, 9, 10] → t < 286 ∧ t ∈ kpD ∧ t < 11 := by decide
      exact this t ht
    rw [s2 t h1.1, hf t h1.2.1, hA.old t h1.2.2]
  · have h := (C.below bw).lt hp hx
    have h1 := C.lt hp hx
    rcases hq x hbq with h2 | h2
    · have := hold x h2; omega
    · omega
theorem da_scr {a : Act} {w : World} {R : Exit → Act → World → Prop} {b : Nat} {Qf : World → Prop} (hz : a.tmps.size = 307) (h7 : a.tmps.getD 7 undef = .pointer (some ⟨b, 0, none⟩)) (h10 : a.tmps.getD 10 undef = .int .i64 0)
    (hcall : Calls Try.prog 26 #[.pointer (some ⟨b, 0, none⟩)] w (fun e w' => e = .returned (.tuple #[]) ∧ Qf w'))
    (kk : ∀ (a' : Act) (w' : World), a'.tmps.size = 307 → (∀ t, t < 52 → a'.tmps.getD t undef = a.tmps.getD t undef) → a'.defers = a.defers → Qf w' → R .normal a' w') : (qd 21 (daD Try.f3)).wp Try.prog R a w := by
  have g10 := gI hz h10 (by decide)
  have g7 := gI hz h7 (by decide)
  have kkA := PLift.up kk
  clear kk
  refine wp_seq_k fun K0 hK0 => ?_
  have hk0 := PLift.up hK0
  clear hK0
  refine wp_region_lit ?_
  go_wp2
  refine hk0.down _ _ ?_
  refine wp_cond_true (by rw [eval_tmp]; dsimp only; rw [gset_eq (by simp [hz])]) ?_
  refine wp_region_lit ?_
  go_wp2_with (go_at_call 26; refine hcall.mono ?_; rintro e w1 ⟨rfl, hq⟩)
  refine kkA.down _ w1 (by simp [hz]) (fun t ht => ?_) rfl hq
  dsimp only
  rw [gset_ne (by omega), gset_ne (by omega), gset_ne (by omega), gset_ne (by omega)]
theorem da_noscr {a : Act} {w : World} {R : Exit → Act → World → Prop} {k : Nat} (hz : a.tmps.size = 307) (h10 : a.tmps.getD 10 undef = .int .i64 (k : Int)) (hk : k ≠ 0)
    (kk : ∀ (a' : Act), a'.tmps.size = 307 → (∀ t, t < 52 → a'.tmps.getD t undef = a.tmps.getD t undef) → a'.defers = a.defers → R .normal a' w) : (qd 21 (daD Try.f3)).wp Try.prog R a w := by
  have g10 := gI hz h10 (by decide)
  have hk' : ¬ (k : Int) = 0 := by omega
  have kkA := PLift.up kk
  clear kk
  refine wp_seq_k fun K0 hK0 => ?_
  have hk0 := PLift.up hK0
  clear hK0
  refine wp_region_lit ?_
  go_wp2
  refine hk0.down _ _ ?_
  refine wp_cond_false (by rw [eval_tmp]; dsimp only; rw [gset_eq (by simp [hz])]; exact congrArg Value.bool (beq_eq_false_iff_ne.2 hk')) ?_
  go_wp2
  refine kkA.down _ (by simp [hz]) (fun t ht => ?_) rfl
  dsimp only
  rw [gset_ne (by omega), gset_ne (by omega)]
def daL (f : Func) : Code := ql (qb (q2 (q1 (qd 5 (qf f)))))
theorem da_cond {a : Act} {w : World} {R : Exit → Act → World → Prop} {k : Nat} (hz : a.tmps.size = 307) (h10 : a.tmps.getD 10 undef = .int .i64 (k : Int)) (hk : k ≤ 2)
    (kt : k < 2 → ∀ a' : Act, a'.tmps.size = 307 → (∀ t, t < 52 → a'.tmps.getD t undef = a.tmps.getD t undef) → a'.defers = a.defers → R .normal a' w)
    (kf : k = 2 → ∀ a' : Act, a'.tmps.size = 307 → (∀ t, t < 52 → a'.tmps.getD t undef = a.tmps.getD t undef) → a'.defers = a.defers → R (.exit 0) a' w) : (q1 (daL Try.f3)).wp Try.prog R a w := by
  have g10 := gI hz h10 (by decide)
  have hA := PLift.up (And.intro kt kf)
  clear kt kf
  by_cases hi : (k : Int) < 2
  · refine wp_seq_k fun K0 hK0 => ?_
    have hk0 := PLift.up hK0
    clear hK0
    refine wp_region_lit ?_
    go_wp2
    refine hk0.down _ _ ?_
    refine wp_cond_true (by rw [eval_tmp]; dsimp only; rw [gset_eq (by simp [hz])]) ?_
    go_wp2
    refine hA.down.1 (by omega) _ (by simp [hz]) (fun t ht => ?_) rfl
    dsimp only
    rw [gset_ne (by omega), gset_ne (by omega)]
  · refine wp_seq_k fun K0 hK0 => ?_
    have hk0 := PLift.up hK0
    clear hK0
    refine wp_region_lit ?_
    go_wp2
    refine hk0.down _ _ ?_
    refine wp_cond_false (by rw [eval_tmp]; dsimp only; rw [gset_eq (by simp [hz])]) ?_
    go_wp2
    refine hA.down.2 (by omega) _ (by simp [hz]) (fun t ht => ?_) rfl
    dsimp only
    rw [gset_ne (by omega), gset_ne (by omega)]
theorem da_step {a : Act} {w : World} {R : Exit → Act → World → Prop} {k : Nat} (hz : a.tmps.size = 307) (h10 : a.tmps.getD 10 undef = .int .i64 (k : Int)) (hk : k ≤ 1000)
    (kk : ∀ a' : Act, a'.tmps.size = 307 → (∀ t, t < 52 → t ≠ 10 → a'.tmps.getD t undef = a.tmps.getD t undef) → a'.tmps.getD 10 undef = .int .i64 ((k : Int) + 1) → a'.defers = a.defers → R .normal a' w) : (q2 (q2 (daL Try.f3))).wp Try.prog R a w := by
  have g10 := gI hz h10 (by decide)
  have kkA := PLift.up kk
  clear kk
  refine wp_region_lit ?_
  go_wp2
  refine kkA.down _ (by simp [hz]) (fun t ht hne => ?_) ?_ rfl
  · dsimp only
    rw [gset_ne (by omega), gset_ne (by omega), gset_ne (by omega)]
  · dsimp only
    rw [gset_eq (by simp [hz])]
end Go.Proofs.Ytdaedplbhpiacaa
