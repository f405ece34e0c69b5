/-
  DivApart: the checks with memory; the answers in the book.
-/
import Derived.Test.YtdaedplbhpiacaaDQ10
namespace Go.Proofs.Ytdaedplbhpiacaa
open Go Go.RowKit Go.Proofs Ab
set_option linter.unusedSimpArgs false
set_option linter.unusedVariables false
set_option maxHeartbeats 10000000
set_option maxHeartbeats 4000000
set_option maxRecDepth 2000000
theorem nodk_at {h e : Nat → Prop} {l : List Nat} {g : Nat → Value} {A : AC} (hl : (l.all fun t => nod t A) = true) : nodk ⟨h, e, l.map fun t => (t, g t)⟩ A := fun m v hm => by
  obtain ⟨t, ht, he⟩ := List.mem_map.1 hm
  have e1 : t = m := congrArg Prod.fst he
  exact e1 ▸ List.all_eq_true.1 hl t ht
def kpD : List Nat := [0, 1, 2, 7, 8, 9, 10, 11, 12, 13, 14, 15, 16, 17, 18, 19, 20, 21, 22, 23, 24, 25, 26, 27, 28, 29, 30, 31, 32, 33, 34, 35]
theorem da_chk {a : Act} {w : World} {R : Exit → Act → World → Prop} {H : Nat → Prop} {x y Q Rm U N X D P M W2 : List Nat} {β r e1 e2 e3 e4 e5 e xe : Int} (hz : a.tmps.size = 307) (hd : a.defers = []) (hH : ∀ q, H q → q < w.heap.size)
    (lQ : Q.length ≤ 9223372036854775807) (lR : Rm.length ≤ 9223372036854775807) (lU : U.length ≤ 9223372036854775807) (lN : N.length ≤ 9223372036854775807) (lX : X.length ≤ 9223372036854775807) (lD : D.length ≤ 1099511627776) (lP : P.length ≤ 9223372036854775807) (lM : M.length ≤ 9223372036854775807) (lW : W2.length ≤ 9223372036854775807)
    (c1 : AFun Try.prog J0 15 [.l 1 (W x), .l 1 (W y)] (.t [.l 1 (W Q), .l 1 (W Rm), .i .i64 e])) (c2 : AFun Try.prog J0 16 [.l 1 (W x), .l 1 (W y)] (.t [.l 1 (W U), .i .i64 e1])) (c3 : AFun Try.prog J0 17 [.l 1 (W x), .l 1 (W y)] (.t [.l 1 (W N), .i .i64 e2])) (c4 : AFun Try.prog J0 18 [.l 1 (W x), .i .u64 β] (.t [.l 1 (W W2), .i .u64 r, .i .i64 e3])) (c5 : AFun Try.prog J0 19 [.l 1 (W x), .l 1 (W y)] (.t [.l 1 (W X), .i .i64 xe])) (c6 : AFun Try.prog J0 20 [.l 1 (W x), .i .u64 β] (.t [.l 1 (W D), .i .i64 e4])) (c7 : AFun Try.prog J0 21 [.l 1 (W x), .l 1 (W x), .l 1 (W y)] (.t [.l 1 (W P), .i .i64 e5])) (c8 : AFun Try.prog J0 24 [.l 1 (W x)] (.o 24 1 (W M)))
    (henv : ∀ p, p ∈ ([(2, .i .u64 β), (11, .l 1 (W x)), (12, .l 1 (W y)), (13, .l 1 (W Q)), (14, .l 1 (W Rm)), (15, .i .i64 e), (16, .l 1 (W Q)), (17, .l 1 (W Rm)), (18, .i .i64 e), (19, .l 1 (W Rm)), (20, .i .i64 e), (21, .l 1 (W U)), (22, .i .i64 e), (23, .l 1 (W N)), (25, .l 1 (W W2)), (28, .l 1 (W X)), (29, .i .i64 xe), (30, .l 1 (W D)), (32, .l 1 (W P)), (34, .l 1 (W M))] : List (Nat × V)) → Rep w H (fun _ => none) (a.tmps.getD p.1 undef) p.2)
    (kk : ∀ (a' : Act) (w' : World), a'.tmps.size = 307 → (∀ t, t ∈ kpD → a'.tmps.getD t undef = a.tmps.getD t undef) → a'.defers = [] → Below w.heap.size w w' → (qd 20 (daD Try.f3)).wp Try.prog R a' w') : (qd 12 (daD Try.f3)).wp Try.prog R a w := by
  have hconc : Conc w ⟨H, fun _ => False, kpD.map fun t => (t, a.tmps.getD t undef)⟩ w H (fun _ => none) 307 a ⟨[(2, .i .u64 β), (11, .l 1 (W x)), (12, .l 1 (W y)), (13, .l 1 (W Q)), (14, .l 1 (W Rm)), (15, .i .i64 e), (16, .l 1 (W Q)), (17, .l 1 (W Rm)), (18, .i .i64 e), (19, .l 1 (W Rm)), (20, .i .i64 e), (21, .l 1 (W U)), (22, .i .i64 e), (23, .l 1 (W N)), (25, .l 1 (W W2)), (28, .l 1 (W X)), (29, .i .i64 xe), (30, .l 1 (W D)), (32, .l 1 (W P)), (34, .l 1 (W M))], [], 0⟩ := by
    refine ⟨⟨BelE.refl _ _, tj0 _ _, hH, fun b h _ => .inl h, fun id o h => (by cases h), fun i j oi oj vi vj q _ h => (by cases h)⟩, hz, hd, fun m v hm => ?_, ?_, fun _ _ => rfl⟩
    · obtain ⟨t, _, he⟩ := List.mem_map.1 hm
      cases he; rfl
    · exact env_lk (fun t => a.tmps.getD t undef) _ henv
  have hw := dchk_walk x y Q Rm U N X D P M W2 β r e1 e2 e3 e4 e5 e xe lQ lR lU lN lX lD lP lM lW c1 c2 c3 c4 c5 c6 c7 c8
  refine seq_go fol (by kernel_rfl) (nodk_at (by decide)) hconc hw ?_
  intro a1 w1 H1 ov1 s1 hv1 hc1
  refine seq_go fol (by kernel_rfl) (nodk_at (by decide)) hc1 hv1 ?_
  intro a2 w2 H2 ov2 s2 hv2 hc2
  refine seq_go fol (by kernel_rfl) (nodk_at (by decide)) hc2 hv2 ?_
  intro a3 w3 H3 ov3 s3 hv3 hc3
  refine seq_go fol (by kernel_rfl) (nodk_at (by decide)) hc3 hv3 ?_
  intro a4 w4 H4 ov4 s4 hv4 hc4
  refine seq_go fol (by kernel_rfl) (nodk_at (by decide)) hc4 hv4 ?_
  intro a5 w5 H5 ov5 s5 hv5 hc5
  refine seq_go fol (by kernel_rfl) (nodk_at (by decide)) hc5 hv5 ?_
  intro a6 w6 H6 ov6 s6 hv6 hc6
  refine seq_go fol (by kernel_rfl) (nodk_at (by decide)) hc6 hv6 ?_
  intro a7 w7 H7 ov7 s7 hv7 hc7
  refine last_go fol (by kernel_rfl) (nodk_at (by decide)) hc7 hv7 ?_
  intro a8 w8 H8 ov8 s8 _ hc8
  exact kk a8 w8 hc8.siz (fun t ht => hc8.kp t _ (List.mem_map.2 ⟨t, ht, rfl⟩)) hc8.dfr (hc8.mem.bel.below (fun _ h => h))
theorem da_unt {a : Act} {w : World} {R : Exit → Act → World → Prop} {H : Nat → Prop} {x0 : V} {L : List (List Nat)} {k : Nat} (hz : a.tmps.size = 307) (hd : a.defers = []) (hH : ∀ q, H q → q < w.heap.size)
    (c1 : AFun Try.prog J0 14 [.ip [x0, .l 1 (LA L), .l 1 (LA L)] 0] (.b true))
    (h7 : k = 0 → Rep w H (fun _ => none) (a.tmps.getD 7 undef) (.ip [x0, .l 1 (LA L), .l 1 (LA L)] 0)) (h10 : a.tmps.getD 10 undef = .int .i64 (k : Int))
    (kk : ∀ (a' : Act) (w' : World), a'.tmps.size = 307 → (∀ t, t ∈ kpD → a'.tmps.getD t undef = a.tmps.getD t undef) → a'.defers = [] → Below w.heap.size w w' → (qd 12 (daD Try.f3)).wp Try.prog R a' w') : (qd 11 (daD Try.f3)).wp Try.prog R a w := by
  have hm0 : ∀ m v, (m, v) ∈ kpD.map (fun t => (t, a.tmps.getD t undef)) → a.tmps.getD m undef = v := fun m v hm => by
    obtain ⟨t, _, he⟩ := List.mem_map.1 hm
    cases he; rfl
  by_cases hk : k = 0
  · subst hk
    have hconc : Conc w ⟨H, fun _ => False, kpD.map fun t => (t, a.tmps.getD t undef)⟩ w H (fun _ => none) 307 a ⟨[(7, .ip [x0, .l 1 (LA L), .l 1 (LA L)] 0), (10, .i .i64 0)], [], 0⟩ := by
      refine ⟨⟨BelE.refl _ _, tj0 _ _, hH, fun b h _ => .inl h, fun id o h => (by cases h), fun i j oi oj vi vj q _ h => (by cases h)⟩, hz, hd, hm0, ?_, fun _ _ => rfl⟩
      refine env_lk (fun t => a.tmps.getD t undef) _ fun p hp => ?_
      simp only [List.mem_cons, List.not_mem_nil, or_false] at hp
      rcases hp with rfl | rfl
      · exact h7 rfl
      · show Rep _ _ _ (a.tmps.getD 10 undef) _
        rw [h10]; exact .i _ _
    refine last_go fol (by kernel_rfl) (nodk_at (by decide)) hconc (dunt_walk x0 L c1) ?_
    intro a5 w5 H5 ov5 s5 _ hc5
    exact kk a5 w5 hc5.siz (fun t ht => hc5.kp t _ (List.mem_map.2 ⟨t, ht, rfl⟩)) hc5.dfr (hc5.mem.bel.below (fun _ h => h))
  · have hconc : Conc w ⟨H, fun _ => False, kpD.map fun t => (t, a.tmps.getD t undef)⟩ w H (fun _ => none) 307 a ⟨[(10, .i .i64 (k : Int))], [], 0⟩ := by
      refine ⟨⟨BelE.refl _ _, tj0 _ _, hH, fun b h _ => .inl h, fun id o h => (by cases h), fun i j oi oj vi vj q _ h => (by cases h)⟩, hz, hd, hm0, ?_, fun _ _ => rfl⟩
      refine env_lk (fun t => a.tmps.getD t undef) _ fun p hp => ?_
      rw [List.mem_singleton.1 hp]
      show Rep _ _ _ (a.tmps.getD 10 undef) _
      rw [h10]; exact .i _ _
    refine last_go fol (by kernel_rfl) (nodk_at (by decide)) hconc (dunt_walk1 k hk) ?_
    intro a5 w5 H5 ov5 s5 _ hc5
    exact kk a5 w5 hc5.siz (fun t ht => hc5.kp t _ (List.mem_map.2 ⟨t, ht, rfl⟩)) hc5.dfr (hc5.mem.bel.below (fun _ h => h))
theorem ansD_len {β : Nat} {A1 A2 : List Nat} {us : Nat → Value} (w1 : Wd A1) (b1 : A1.length ≤ 10000000) (hβ : 2 ≤ β) : ∀ p, p ∈ ansD β A1 A2 us → p.2.length ≤ 1000000000 := by
  obtain ⟨m, hm⟩ : ∃ m, m = A1.length := ⟨_, rfl⟩
  have hA : nv B A1 < B ^ m := hm ▸ nv_lt w1
  have lQ : (qQ (nv B A1) (nv B A2)).length ≤ 1000000000 := by have := qQ_len (v := nv B A2) hA; omega
  have lR : (qR (nv B A1) (nv B A2)).length ≤ 1000000000 := by have := qR_len (v := nv B A2) hA; omega
  have lS : ∀ z, z ≤ nv B A1 + 1 → (dg B z).length ≤ 1000000000 := fun z hz => by
    have h5 : B ^ m * 2 ≤ B ^ (m + 1) := Nat.mul_le_mul_left _ B2
    have : 0 < B ^ m := Nat.pow_pos (Nat.lt_of_lt_of_le (by decide) B2)
    have := dgle (v := z) (m := m + 1) (by omega)
    omega
  have lU : (upQ (nv B A1) (nv B A2)).length ≤ 1000000000 := by
    have hd := Nat.div_le_self (nv B A1) (nv B A2)
    unfold upQ
    split
    · exact Nat.zero_le _
    · split
      · exact lS _ (by omega)
      · exact lS _ (by omega)
  have lN : (nrQ (nv B A1) (nv B A2)).length ≤ 1000000000 := by
    have hd := Nat.div_le_self (nv B A1) (nv B A2)
    unfold nrQ
    split
    · exact Nat.zero_le _
    · split
      · exact lS _ (by omega)
      · exact lS _ (by omega)
  have lX : (exQ (nv B A1) (nv B A2)).length ≤ 1000000000 := by
    have hd := Nat.div_le_self (nv B A1) (nv B A2)
    unfold exQ
    split
    · exact Nat.zero_le _
    · split
      · exact lS _ (by omega)
      · exact Nat.zero_le _
  have lW : (dg B (nv B A1 / β)).length ≤ 1000000000 := by
    have hd := Nat.div_le_self (nv B A1) β
    exact lS _ (by omega)
  have lD : (dg β (nv B A1)).length ≤ 1000000000 := by
    have h1 : nv B A1 < β ^ (64 * m) := by
      refine Nat.lt_of_lt_of_le hA ?_
      have h2 : (2 : Nat) ^ (64 * m) ≤ β ^ (64 * m) := Nat.pow_le_pow_left hβ _
      rw [Nat.pow_mul, show (2 : Nat) ^ 64 = B from rfl] at h2
      exact h2
    have := dg_len hβ h1
    omega
  have lP : (qR (nv B A1 * nv B A1) (nv B A2)).length ≤ 1000000000 := by
    have h1 : nv B A1 * nv B A1 < B ^ (m + m) := by rw [Nat.pow_add]; exact Nat.mul_lt_mul_of_lt_of_lt hA hA
    have := qR_len (v := nv B A2) h1
    omega
  intro p hp
  simp only [ansD, List.mem_cons, List.not_mem_nil, or_false] at hp
  rcases hp with rfl | rfl | rfl | rfl | rfl | rfl | rfl | rfl | rfl | rfl | rfl | rfl
  · exact lQ
  · exact lR
  · exact lQ
  · exact lR
  · exact lR
  · exact lU
  · exact lN
  · exact lW
  · exact lX
  · exact lD
  · exact lP
  · exact lS _ (by omega)
end Go.Proofs.Ytdaedplbhpiacaa
