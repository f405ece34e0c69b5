/-
  DivApart: a round's calls, one after the other.
-/
import Derived.Test.YtdaedplbhpiacaaDQ8
namespace Go.Proofs.Ytdaedplbhpiacaa
open Go Go.RowKit Go.Proofs Ab
set_option linter.unusedSimpArgs false
set_option linter.unusedVariables false
set_option maxHeartbeats 10000000
set_option maxHeartbeats 4000000
set_option maxRecDepth 2000000
theorem us2 {N : Nat} {a a' : Act} {f : Nat → Value} {t1 t2 : Nat} {v1 v2 : Value} (hf : ∀ t, t < N → a.tmps.getD t undef = f t) (hs : ∀ t, t < N → t ≠ t1 → t ≠ t2 → a'.tmps.getD t undef = a.tmps.getD t undef) (h1 : a'.tmps.getD t1 undef = v1) (h2 : a'.tmps.getD t2 undef = v2) : ∀ t, t < N → a'.tmps.getD t undef = up (up f t1 v1) t2 v2 t := fun t ht => by
  by_cases e : t = t2
  · rw [e, up_eq]; exact h2
  · rw [up_ne e]
    by_cases e1 : t = t1
    · rw [e1, up_eq]; exact h1
    · rw [up_ne e1, hs t ht e1 e, hf t ht]
theorem us3 {N : Nat} {a a' : Act} {f : Nat → Value} {t1 t2 t3 : Nat} {v1 v2 v3 : Value} (hf : ∀ t, t < N → a.tmps.getD t undef = f t) (hs : ∀ t, t < N → t ≠ t1 → t ≠ t2 → t ≠ t3 → a'.tmps.getD t undef = a.tmps.getD t undef) (h1 : a'.tmps.getD t1 undef = v1) (h2 : a'.tmps.getD t2 undef = v2) (h3 : a'.tmps.getD t3 undef = v3) : ∀ t, t < N → a'.tmps.getD t undef = up (up (up f t1 v1) t2 v2) t3 v3 t := fun t ht => by
  by_cases e : t = t3
  · rw [e, up_eq]; exact h3
  · rw [up_ne e]
    by_cases e2 : t = t2
    · rw [e2, up_eq]; exact h2
    · rw [up_ne e2]
      by_cases e1 : t = t1
      · rw [e1, up_eq]; exact h1
      · rw [up_ne e1, hs t ht e1 e2 e, hf t ht]
def ansD (β : Nat) (A1 A2 : List Nat) (us : Nat → Value) : List (Value × List Nat) :=
  [(us 13, qQ (nv B A1) (nv B A2)), (us 14, qR (nv B A1) (nv B A2)), (us 16, qQ (nv B A1) (nv B A2)), (us 17, qR (nv B A1) (nv B A2)), (us 19, qR (nv B A1) (nv B A2)), (us 21, upQ (nv B A1) (nv B A2)), (us 23, nrQ (nv B A1) (nv B A2)), (us 25, dg B (nv B A1 / β)), (us 28, exQ (nv B A1) (nv B A2)), (us 30, dg β (nv B A1)), (us 32, qR (nv B A1 * nv B A1) (nv B A2)), (us 34, dg B (nv B A1))]
structure AnsD (w w' : World) (β : Nat) (A1 A2 : List Nat) (f us : Nat → Value) : Prop where
  old : ∀ t, t < 11 → us t = f t
  was : ∃ m, m ≤ maxLen ∧ w'.ownsRow w.heap.size 24 1 (us 11) m (Wv A1)
  old2 : ∃ m, m ≤ maxLen ∧ w'.ownsRow w.heap.size 24 1 (us 12) m (Wv A2)
  s15 : us 15 = .int .i64 (qE (nv B A2))
  s18 : us 18 = .int .i64 (qE (nv B A2))
  s20 : us 20 = .int .i64 (qE (nv B A2))
  s22 : us 22 = .int .i64 (qE (nv B A2))
  s29 : us 29 = .int .i64 (exE (nv B A1) (nv B A2))
  cl : Cl w w' (ansD β A1 A2 us)
theorem da_calls {a : Act} {w : World} {R : Exit → Act → World → Prop} {β p1 n1 c1 p2 n2 c2 : Nat} {A1 A2 Z1 Z2 : List Nat} {f : Nat → Value} (hz : a.tmps.size = 307) (hf : ∀ t, t < 52 → a.tmps.getD t undef = f t) (h2 : f 2 = .int .u64 (β : Int)) (h8 : f 8 = .slice (some ⟨p1, 0, none⟩) n1 c1) (h9 : f 9 = .slice (some ⟨p2, 0, none⟩) n2 c2)
    (r1 : w.ownsRow 0 24 1 (.slice (some ⟨p1, 0, none⟩) (n1 + 5) c1) (n1 + 5) (Wv (A1 ++ Z1))) (r2 : w.ownsRow 0 24 1 (.slice (some ⟨p2, 0, none⟩) (n2 + 5) c2) (n2 + 5) (Wv (A2 ++ Z2))) (l1 : A1.length = n1) (l2 : A2.length = n2) (wd1 : Wd A1) (wd2 : Wd A2) (b1 : n1 ≤ 10000000) (b2 : n2 ≤ 10000000) (hβ : 2 ≤ β) (hβ2 : β < 18446744073709551616)
    (kk : ∀ (a' : Act) (w' : World) (us : Nat → Value), a'.tmps.size = 307 → a'.defers = a.defers → (∀ t, t < 52 → a'.tmps.getD t undef = us t) → Below w.heap.size w w' → AnsD w w' β A1 A2 f us → (qd 11 (daD Try.f3)).wp Try.prog R a' w') : (daD Try.f3).wp Try.prog R a w := by
  have kkA := PLift.up kk
  clear kk
  obtain ⟨x, hx⟩ : ∃ x, x = Value.slice (some ⟨p1, 0, none⟩) n1 c1 := ⟨_, rfl⟩
  obtain ⟨y, hy⟩ : ∃ y, y = Value.slice (some ⟨p2, 0, none⟩) n2 c2 := ⟨_, rfl⟩
  have lt1 : p1 < w.heap.size := (r1.lt p1 rfl).2
  have lt2 : p2 < w.heap.size := (r2.lt p2 rfl).2
  have rx : ∀ w', Below w.heap.size w w' → Rep0 w' (fun q => q = p1 ∨ q = p2) x (.l 1 (W A1)) := fun w' hb => by
    rw [hx]; exact rowp_l (ow_below r1 fun q hq => by cases hq; exact hb.block _ lt1) l1 (by omega) (.inl rfl)
  have ry : ∀ w', Below w.heap.size w w' → Rep0 w' (fun q => q = p1 ∨ q = p2) y (.l 1 (W A2)) := fun w' hb => by
    rw [hy]; exact rowp_l (ow_below r2 fun q hq => by cases hq; exact hb.block _ lt2) l2 (by omega) (.inr rfl)
  have hH : ∀ w', Below w.heap.size w w' → ∀ q, (q = p1 ∨ q = p2) → q < w'.heap.size := fun w' hb q hq => by
    have := hb.size
    rcases hq with rfl | rfl <;> omega
  have e8 := (hf 8 (by decide)).trans h8
  have e9 := (hf 9 (by decide)).trans h9
  have cells : ∀ {p m c : Nat} {A Z : List Nat}, w.ownsRow 0 24 1 (.slice (some ⟨p, 0, none⟩) (m + 5) c) (m + 5) (Wv (A ++ Z)) → A.length = m → ∀ (j : Nat) (u : Value), (Wv A)[j]? = some u → w.cell? ⟨p, j, none⟩ = some u := fun {p m c A Z} ho hl j u hu => by
    have hj := (List.getElem?_eq_some_iff.1 hu).1
    simp only [Wv, List.length_map] at hj
    rw [ho.cellAt j (by omega), ← hu]
    simp only [Wv, List.getElem?_map, List.getElem?_append_left hj]
  refine wp_seq ?_
  refine da_was (A1 := A1) (A2 := A2) hz e8 e9 (by simp [Wv, l1]) (by simp [Wv, l2]) (by omega) (by omega) lt1 lt2 (cells r1 l1) (cells r2 l2) fun a1 w1 v1 v2 z1 s1 k11 k12 d1 B1 o1 o2 => ?_
  have f1 := us2 hf s1 k11 k12
  have C1 : Cl w w1 [] := ⟨fun p hp => by simp at hp, fun i j vi vj q _ h => by simp at h⟩
  have Bb1 : Below w1.heap.size w1 w1 := ⟨rfl, rfl, rfl, Nat.le_refl _, fun _ _ => rfl⟩
  have rd : ∀ {a' : Act} {g : Nat → Value}, (∀ t, t < 52 → a'.tmps.getD t undef = g t) → g 2 = f 2 → g 8 = f 8 → g 9 = f 9 → a'.tmps.getD 2 undef = .int .u64 (β : Int) ∧ a'.tmps.getD 8 undef = x ∧ a'.tmps.getD 9 undef = y := fun {a' g} hg e2 e8 e9 =>
    ⟨(hg 2 (by decide)).trans (e2.trans h2), (hg 8 (by decide)).trans (e8.trans (h8.trans hx.symm)), (hg 9 (by decide)).trans (e9.trans (h9.trans hy.symm))⟩
  have two : ∀ {w0 w' : World} {u v : Value} {m k : Nat} {X Y : List Nat}, w'.ownsRow w0.heap.size 24 1 u m (Wv X) → w'.ownsRow w0.heap.size 24 1 v k (Wv Y) → (∀ q, u.ownBlock = some q → v.ownBlock ≠ some q) → Cl w0 w' [(u, X), (v, Y)] := fun {w0 w' u v m k X Y} ou ov huv => ⟨fun p hp => by
    simp only [List.mem_cons, List.not_mem_nil, or_false] at hp
    rcases hp with rfl | rfl
    · exact ⟨m, own_mx ou, ou⟩
    · exact ⟨k, own_mx ov, ov⟩, apt_app (L := [u]) (M := [v]) (apt_one _) (apt_one _) fun a b q ha hb => by
      rw [List.mem_singleton.1 ha, List.mem_singleton.1 hb]; exact huv q⟩
  refine wp_seq ?_
  obtain ⟨i2, i8, i9⟩ := rd f1 rfl rfl rfl
  refine da1 z1 i8 i9 (quo_raw (hH w1 B1) (rx w1 B1) (ry w1 B1) wd1 wd2 (by omega) (by omega)) fun a2 w2 u13 u14 m13 m14 z2 s2 k13 k14 k15 d2 B2' o13 o14 x13 => ?_
  have f2 := us3 f1 s2 k13 k14 k15
  have B2 := below_tr B1 B2'
  have C2 := C1.step B1.size B2' (two o13 o14 x13)
  refine wp_seq ?_
  obtain ⟨i2, i8, i9⟩ := rd f2 rfl rfl rfl
  refine da2 z2 i8 i9 (quo_raw (hH w2 B2) (rx w2 B2) (ry w2 B2) wd1 wd2 (by omega) (by omega)) fun a3 w3 u16 u17 m16 m17 z3 s3 k16 k17 k18 d3 B3' o16 o17 x16 => ?_
  have f3 := us3 f2 s3 k16 k17 k18
  have B3 := below_tr B2 B3'
  have Bb3 := below_tr B2' B3'
  have C3 := C2.step B2.size B3' (two o16 o17 x16)
  refine wp_seq ?_
  obtain ⟨i2, i8, i9⟩ := rd f3 rfl rfl rfl
  refine da3 z3 i8 i9 (mod_raw (hH w3 B3) (rx w3 B3) (ry w3 B3) wd1 wd2 (by omega) (by omega)) fun a4 w4 u19 m19 z4 s4 k19 k20 d4 B4' o19 b19 => ?_
  have f4 := us2 f3 s4 k19 k20
  have B4 := below_tr B3 B4'
  have Bb4 := below_tr Bb3 B4'
  have C4 := C3.step B3.size B4' (Cl.one o19 b19)
  refine wp_seq ?_
  obtain ⟨i2, i8, i9⟩ := rd f4 rfl rfl rfl
  refine da4 z4 i8 i9 (up_raw (hH w4 B4) (rx w4 B4) (ry w4 B4) wd1 wd2 (by omega) (by omega)) fun a5 w5 u21 m21 z5 s5 k21 k22 d5 B5' o21 b21 => ?_
  have f5 := us2 f4 s5 k21 k22
  have B5 := below_tr B4 B5'
  have Bb5 := below_tr Bb4 B5'
  have C5 := C4.step B4.size B5' (Cl.one o21 b21)
  refine wp_seq ?_
  obtain ⟨i2, i8, i9⟩ := rd f5 rfl rfl rfl
  refine da5 z5 i8 i9 (near_raw (hH w5 B5) (rx w5 B5) (ry w5 B5) wd1 wd2 (by omega) (by omega)) fun a6 w6 u23 m23 z6 s6 k23 k24 d6 B6' o23 b23 => ?_
  have f6 := us2 f5 s6 k23 k24
  have B6 := below_tr B5 B6'
  have Bb6 := below_tr Bb5 B6'
  have C6 := C5.step B5.size B6' (Cl.one o23 b23)
  refine wp_seq ?_
  obtain ⟨i2, i8, i9⟩ := rd f6 rfl rfl rfl
  refine da6 z6 i8 i2 (to_raw3 (vs := [x, .int .u64 (β : Int)]) (wordO A1 β wd1 (by omega) hβ2 (by omega)) (fun w' H' v h => (Rep.up (ov := fun _ => none) h).inv_i) (fun w' H' v h => (Rep.up (ov := fun _ => none) h).inv_i) (hH w6 B6) (rp2 (rx w6 B6) (.i _ _))) fun a7 w7 u25 m25 z7 s7 k25 k26 k27 d7 B7' o25 b25 => ?_
  have f7 := us3 f6 s7 k25 k26 k27
  have B7 := below_tr B6 B7'
  have Bb7 := below_tr Bb6 B7'
  have C7 := C6.step B6.size B7' (Cl.one o25 b25)
  refine wp_seq ?_
  obtain ⟨i2, i8, i9⟩ := rd f7 rfl rfl rfl
  refine da7 z7 i8 i9 (exact_raw (hH w7 B7) (rx w7 B7) (ry w7 B7) wd1 wd2 (by omega) (by omega)) fun a8 w8 u28 m28 z8 s8 k28 k29 d8 B8' o28 b28 => ?_
  have f8 := us2 f7 s8 k28 k29
  have B8 := below_tr B7 B8'
  have Bb8 := below_tr Bb7 B8'
  have C8 := C7.step B7.size B8' (Cl.one o28 b28)
  refine wp_seq ?_
  obtain ⟨i2, i8, i9⟩ := rd f8 rfl rfl rfl
  refine da8 z8 i8 i2 (to_raw (vs := [x, .int .u64 (β : Int)]) (digO A1 β wd1 hβ2 hβ (by omega)) (fun w' H' v h => (Rep.up (ov := fun _ => none) h).inv_i) (hH w8 B8) (rp2 (rx w8 B8) (.i _ _))) fun a9 w9 u30 m30 z9 s9 k30 k31 d9 B9' o30 b30 => ?_
  have f9 := us2 f8 s9 k30 k31
  have B9 := below_tr B8 B9'
  have Bb9 := below_tr Bb8 B9'
  have C9 := C8.step B8.size B9' (Cl.one o30 b30)
  refine wp_seq ?_
  obtain ⟨i2, i8, i9⟩ := rd f9 rfl rfl rfl
  refine da9 z9 i8 i9 (mulMod_raw (hH w9 B9) (rx w9 B9) (rx w9 B9) (ry w9 B9) wd1 wd1 wd2 (by omega) (by omega) (by omega)) fun a10 w10 u32 m32 z10 s10 k32 k33 d10 B10' o32 b32 => ?_
  have f10 := us2 f9 s10 k32 k33
  have B10 := below_tr B9 B10'
  have Bb10 := below_tr Bb9 B10'
  have C10 := C9.step B9.size B10' (Cl.one o32 b32)
  refine wp_seq ?_
  obtain ⟨i2, i8, i9⟩ := rd f10 rfl rfl rfl
  have sA := below_alloc w10 (.cells #[.int .u64 1] 24)
  have Bw := below_tr B10 sA
  have oneo := World.ownsRow_lit (base := 0) (e := 24) (size := 1) w10 #[.int .u64 1] 1 (Nat.zero_le _) (by unfold maxLen; omega) rfl
  have rone : Rep0 (w10.alloc (.cells #[.int .u64 1] 24)) (fun q => q < (w10.alloc (.cells #[.int .u64 1] 24)).heap.size) (.slice (some ⟨w10.heap.size, 0, none⟩) 1 1) (.l 1 (W [1])) := own_rep (A := [1]) oneo (by unfold maxLen; omega)
  have hex := exact_raw (w := w10.alloc (.cells #[.int .u64 1] 24)) (fun q h => h) ((rx _ Bw).mono (fun q h => hH _ Bw q h) fun _ _ => rfl) rone wd1 (b := [1]) (fun z hz => by rw [List.mem_singleton.1 hz]; decide) (by omega) (by decide)
  rw [show nv B [1] = 1 from rfl, show exQ (nv B A1) 1 = dg B (nv B A1) from by unfold exQ; rw [if_neg (by decide), if_pos (Nat.mod_one _), Nat.div_one]] at hex
  refine da10 z10 i8 hex fun a11 w11 u34 m34 z11 s11 k34 k35 d11 B11' o34 b34 => ?_
  have f11 := us2 f10 s11 k34 k35
  have B11n := below_tr sA B11'
  have B11 := below_tr B10 B11n
  have Bb11 := below_tr Bb10 B11n
  have C11 := C10.step B10.size B11n (Cl.one (ow_base o34 sA.size) b34)
  have Bq := below_tr B2' (below_tr B3' (below_tr B4' (below_tr B5' (below_tr B6' (below_tr B7' (below_tr B8' (below_tr B9' (below_tr B10' B11n))))))))
  have own1 := ow_below o1 fun q hq => Bq.block q (o1.lt q hq).2
  have own2 := ow_below o2 fun q hq => Bq.block q (o2.lt q hq).2
  have dd : a11.defers = a.defers := d11.trans (d10.trans (d9.trans (d8.trans (d7.trans (d6.trans (d5.trans (d4.trans (d3.trans (d2.trans d1)))))))))
  refine kkA.down a11 w11 _ z11 dd f11 B11 ⟨fun t ht => ?_, ⟨n1, own_mx own1, own1⟩, ⟨n2, own_mx own2, own2⟩, rfl, rfl, rfl, rfl, rfl, ?_⟩
  · have q : ∀ k, 11 ≤ k → t ≠ k := fun k hk => by omega
    simp only [up_ne (q 11 (by decide)), up_ne (q 12 (by decide)), up_ne (q 13 (by decide)), up_ne (q 14 (by decide)), up_ne (q 15 (by decide)), up_ne (q 16 (by decide)), up_ne (q 17 (by decide)), up_ne (q 18 (by decide)), up_ne (q 19 (by decide)), up_ne (q 20 (by decide)), up_ne (q 21 (by decide)), up_ne (q 22 (by decide)), up_ne (q 23 (by decide)), up_ne (q 24 (by decide)), up_ne (q 25 (by decide)), up_ne (q 26 (by decide)), up_ne (q 27 (by decide)), up_ne (q 28 (by decide)), up_ne (q 29 (by decide)), up_ne (q 30 (by decide)), up_ne (q 31 (by decide)), up_ne (q 32 (by decide)), up_ne (q 33 (by decide)), up_ne (q 34 (by decide)), up_ne (q 35 (by decide))]
  · exact C11
end Go.Proofs.Ytdaedplbhpiacaa
