/-
  DivApart: the head, a round, the law.
-/
import Derived.Test.YtdaedplbhpiacaaDQ12
namespace Go.Proofs.Ytdaedplbhpiacaa
open Go Go.RowKit Go.Proofs Ab
set_option linter.unusedSimpArgs false
set_option linter.unusedVariables false
set_option maxHeartbeats 10000000
set_option maxHeartbeats 4000000
set_option maxRecDepth 2000000
theorem dknown_raw (w : World) : Calls Try.prog 4 #[] w (fun e w' => e = .returned (.bool true) ∧ Below w.heap.size w w') := by
  refine ((dknown_spec.to0 rfl) w (fun _ => False) [] trivial (tj0 _ _) (fun _ h => h.elim) ⟨rfl, fun j v x h => by simp at h⟩).mono ?_
  rintro e w' ⟨v, rfl, hB, N, hN, h⟩
  rcases h with h | ⟨e, sz, cs, n, xs, he, _⟩ | ⟨r, h, _⟩
  · cases h; exact ⟨rfl, hB⟩
  · cases he
  · cases h
theorem da_begin {a : Act} {w : World} {R : Exit → Act → World → Prop} (hz : a.tmps.size = 307)
    (kk : ∀ (a' : Act) (w1 : World), a'.tmps.size = 307 → (∀ t, t < 3 → a'.tmps.getD t undef = a.tmps.getD t undef) → a'.defers = a.defers → Below w.heap.size w w1 → (qd 2 (qf Try.f3)).wp Try.prog R a' w1) : (qf Try.f3).wp Try.prog R a w := by
  have hA := PLift.up kk
  clear kk
  refine wp_seq_k fun K0 hK0 => ?_
  have hk0 := PLift.up hK0
  clear hK0
  refine wp_region_lit ?_
  go_wp2
  refine hk0.down _ _ ?_
  clear hk0
  refine wp_seq_k fun K1 hK1 => ?_
  have hk1 := PLift.up hK1
  clear hK1
  refine wp_seq_k fun K2 hK2 => ?_
  have hk2 := PLift.up hK2
  clear hK2
  have kn := dknown_raw w
  refine wp_region_lit ?_
  go_wp2_with (go_at_call 4; refine kn.mono ?_; rintro e w1 ⟨rfl, hB⟩)
  refine hk2.down _ _ ?_
  refine wp_cond_false (by rw [eval_tmp]; dsimp only; rw [gset_eq (by simp [hz])]) ?_
  go_wp2
  refine hk1.down _ _ ?_
  refine hA.down _ w1 (by simp [hz]) (fun t ht => ?_) rfl hB
  dsimp only
  rw [gset_ne (by omega), gset_ne (by omega), gset_ne (by omega)]
theorem da_book {a : Act} {w : World} {R : Exit → Act → World → Prop} (hz : a.tmps.size = 307)
    (kk : ∀ (a' : Act), a'.tmps.size = 307 → (∀ t, t < 3 → a'.tmps.getD t undef = a.tmps.getD t undef) → a'.tmps.getD 7 undef = .pointer (some ⟨w.heap.size, 0, none⟩) → a'.defers = a.defers → R .normal a' (w.alloc (.cells #[.slice none 0 0, .slice none 0 0, .slice none 0 0] 29))) : (q1 (qd 2 (qf Try.f3))).wp Try.prog R a w := by
  have hA := PLift.up kk
  clear kk
  refine wp_region_lit ?_
  go_wp2
  refine hA.down _ (by simp [hz]) (fun t ht => ?_) ?_ rfl
  · dsimp only
    rw [gset_ne (by omega), gset_ne (by omega), gset_ne (by omega)]
  · dsimp only
    rw [gset_eq (by simp [hz])]
theorem da_in {a : Act} {w : World} {R : Exit → Act → World → Prop} {b : Nat} {va vb : Value} {Q1 : Value → World → Prop} {Q2 : Value → World → Value → World → Prop} (hz : a.tmps.size = 307) (h0 : a.tmps.getD 0 undef = va) (h1 : a.tmps.getD 1 undef = vb) (h7 : a.tmps.getD 7 undef = .pointer (some ⟨b, 0, none⟩))
    (c1 : Calls Try.prog 5 #[.pointer (some ⟨b, 0, none⟩), va] w (fun e w1 => ∃ g n c, e = .returned (.slice (some ⟨g, 0, none⟩) n c) ∧ Q1 (.slice (some ⟨g, 0, none⟩) n c) w1)) (c2 : ∀ x w1, Q1 x w1 → Calls Try.prog 5 #[.pointer (some ⟨b, 0, none⟩), vb] w1 (fun e w2 => ∃ g n c, e = .returned (.slice (some ⟨g, 0, none⟩) n c) ∧ Q2 x w1 (.slice (some ⟨g, 0, none⟩) n c) w2))
    (kk : ∀ (a' : Act) (w1 w2 : World) (x y : Value), a'.tmps.size = 307 → (∀ t, t < 8 → a'.tmps.getD t undef = a.tmps.getD t undef) → a'.tmps.getD 8 undef = x → a'.tmps.getD 9 undef = y → a'.defers = a.defers → Q1 x w1 → Q2 x w1 y w2 → R .normal a' w2) : (q1 (qd 3 (qf Try.f3))).wp Try.prog R a w := by
  have g0 := gI hz h0 (by decide)
  have g1 := gI hz h1 (by decide)
  have g7 := gI hz h7 (by decide)
  have hA := PLift.up (And.intro kk c2)
  clear kk c2
  refine wp_region_lit ?_
  go_wp2_with (first
    | (go_at_call 5; refine c1.mono ?_; clear c1; rintro e w1 ⟨gx, nx, cx, rfl, hQ1⟩; have hP := PLift.up hQ1; clear hQ1)
    | (go_at_call 5; refine (hA.down.2 _ _ hP.down).mono ?_; rintro e w2 ⟨gy, ny, cy, rfl, hQ2⟩))
  refine hA.down.1 _ w1 w2 _ _ (by simp [hz]) (fun t ht => ?_) ?_ ?_ rfl hP.down hQ2
  · dsimp only
    rw [gset_ne (by omega), gset_ne (by omega), gset_ne (by omega), gset_ne (by omega), gset_ne (by omega), gset_ne (by omega), gset_ne (by omega), gset_ne (by omega)]
  · dsimp only
    rw [gset_ne (by decide), gset_eq (by simp [hz])]
  · dsimp only
    rw [gset_eq (by simp [hz])]
theorem da_end {a : Act} {w : World} {R : Exit → Act → World → Prop} {b : Nat} {Qf : World → Prop} (hz : a.tmps.size = 307) (h7 : a.tmps.getD 7 undef = .pointer (some ⟨b, 0, none⟩))
    (c1 : Calls Try.prog 27 #[.pointer (some ⟨b, 0, none⟩)] w (fun e w1 => e = .returned (.bool true) ∧ Qf w1))
    (kk : ∀ (a' : Act) (w1 : World), a'.tmps.size = 307 → a'.tmps.getD 6 undef = .bool true → a'.defers = a.defers → Qf w1 → R .ret a' w1) : (qd 6 (qf Try.f3)).wp Try.prog R a w := by
  have g7 := gI hz h7 (by decide)
  have hA := PLift.up kk
  clear kk
  refine wp_seq_k fun K0 hK0 => ?_
  have hk0 := PLift.up hK0
  clear hK0
  refine wp_region_lit ?_
  go_wp2_with (go_at_call 27; refine c1.mono ?_; rintro e w1 ⟨rfl, hQ⟩)
  refine hk0.down _ _ ?_
  refine wp_ret ?_
  refine hA.down _ w1 (by simp [hz]) ?_ rfl hQ
  dsimp only
  rw [gset_eq (by simp [hz])]
theorem or2 (n : Nat) (h : n < 18446744073709551616) : ∃ k : Nat, 2 ≤ k ∧ k < 18446744073709551616 ∧ bits .or .u64 (n : Int) 2 = (k : Int) := by
  have q : bits .or .u64 (n : Int) 2 = IntKind.u64.wrap (((BitVec.ofInt 64 (n : Int) ||| BitVec.ofInt 64 2).toNat : Nat) : Int) := rfl
  have h1 : 2 ≤ (BitVec.ofInt 64 (n : Int) ||| BitVec.ofInt 64 2).toNat := by rw [BitVec.toNat_or]; exact Nat.right_le_or
  have h2 : (BitVec.ofInt 64 (n : Int) ||| BitVec.ofInt 64 2).toNat < 18446744073709551616 := BitVec.isLt _
  exact ⟨_, h1, h2, by rw [q]; exact wu ⟨Int.natCast_nonneg _, by omega⟩⟩
theorem da_base {a : Act} {w : World} {R : Exit → Act → World → Prop} {z : Int} (hz : a.tmps.size = 307) (h2 : a.tmps.getD 2 undef = .int .u64 z)
    (kk : ∀ (a' : Act), a'.tmps.size = 307 → (∀ t, t < 52 → t ≠ 2 → a'.tmps.getD t undef = a.tmps.getD t undef) → a'.tmps.getD 2 undef = .int .u64 (bits .or .u64 z 2) → a'.defers = a.defers → R .normal a' w) : (q1 (qd 4 (qf Try.f3))).wp Try.prog R a w := by
  have g2 := gI hz h2 (by decide)
  have kkA := PLift.up kk
  clear kk
  refine wp_region_lit ?_
  go_wp2
  refine kkA.down _ (by simp [hz]) (fun t ht h => ?_) ?_ rfl
  · dsimp only [Act.put]
    repeat rw [gset_ne (by omega)]
  · dsimp only [Act.put]
    repeat (first | rw [gset_eq (by simp [hz])] | rw [gset_ne (by decide)])
theorem da_round {a : Act} {W0 w : World} {R : Exit → Act → World → Prop} {β k m b p1 n1 c1 p2 n2 c2 : Nat} {vl vf vu : Value} {A1 A2 : List Nat} {u1 u2 : Value} {L : List (Value × List Nat)} {Fs Us : List Value} (hz : a.tmps.size = 307) (hd : a.defers = []) (h2 : a.tmps.getD 2 undef = .int .u64 (β : Int)) (h7 : a.tmps.getD 7 undef = .pointer (some ⟨b, 0, none⟩)) (h8 : a.tmps.getD 8 undef = .slice (some ⟨p1, 0, none⟩) n1 c1) (h9 : a.tmps.getD 9 undef = .slice (some ⟨p2, 0, none⟩) n2 c2) (h10 : a.tmps.getD 10 undef = .int .i64 (k : Int))
    (J : NJ W0 w b p1 n1 c1 p2 n2 c2 m vl vf vu A1 A2 u1 u2 L Fs Us) (hu : k = 0 → m = 0 ∧ Rep0 w (fun q => q < w.heap.size) u1 (.l 1 (W (A1 ++ List.replicate 5 0))) ∧ Rep0 w (fun q => q < w.heap.size) u2 (.l 1 (W (A2 ++ List.replicate 5 0)))) (hm : m ≤ 400) (b1 : n1 ≤ 10000000) (b2 : n2 ≤ 10000000) (hβ : 2 ≤ β) (hβ2 : β < 18446744073709551616)
    (kk : ∀ (a' : Act) (w' : World) (vl' vf' vu' : Value) (A1' A2' : List Nat) (L' : List (Value × List Nat)) (Fs' Us' : List Value), a'.tmps.size = 307 → a'.defers = [] → (∀ t, t ∈ [2, 7, 8, 9, 10] → a'.tmps.getD t undef = a.tmps.getD t undef) → NJ W0 w' b p1 n1 c1 p2 n2 c2 (m + 12) vl' vf' vu' A1' A2' u1 u2 L' Fs' Us' → R .normal a' w') : (daD Try.f3).wp Try.prog R a w := by
  have hl1 := J.l1
  have hl2 := J.l2
  have lt1 : p1 < w.heap.size := (J.r1.lt p1 rfl).2
  have lt2 : p2 < w.heap.size := (J.r2.lt p2 rfl).2
  refine da_calls (f := fun t => a.tmps.getD t undef) hz (fun t _ => rfl) h2 h8 h9 J.r1 J.r2 J.l1 J.l2 J.wd1 J.wd2 b1 b2 hβ hβ2 fun a1 w1 us z1 d1 f1 B1 hA => ?_
  have s1 := B1.size
  refine da_checks (k := k) (L := [A1 ++ List.replicate 5 0, A2 ++ List.replicate 5 0]) z1 (d1.trans hd) f1 hA h2 h10 (fun hk => ?_) (by show 2 ≤ _; decide) (fun x hx => ?_) J.wd1 J.wd2 (by omega) (by omega) hβ hβ2 fun a2 w2 z2 f2 d2 B2 => ?_
  · obtain ⟨hm0, v1, v2⟩ := hu hk
    have eF : Fs = [] := List.eq_nil_of_length_eq_zero (by rw [J.lF, hm0])
    have eU : Us = [] := List.eq_nil_of_length_eq_zero (by rw [J.lU, hm0])
    have hbn := J.bn.below B1
    rw [eF, eU] at hbn
    have q1 := ow_below J.r1 fun q hq => B1.block q (J.r1.lt q hq).2
    have q2 := ow_below J.r2 fun q hq => B1.block q (J.r2.lt q hq).2
    have q3 := v1.mono (w' := w1) (H' := fun q => q < w1.heap.size) (fun q h => by omega) fun q h => B1.block q h
    have q4 := v2.mono (w' := w1) (H' := fun q => q < w1.heap.size) (fun q h => by omega) fun q h => B1.block q h
    show Rep0 w1 _ (a.tmps.getD 7 undef) _
    rw [h7]
    refine hbn.ip (fun q hq => hbn.lt q hq) rfl rfl (by show 2 ≤ _; decide) (fun j x A hj hA => ?_) (fun j x A hj hA => ?_)
    · match j, hj, hA with
      | 0, hj, hA => cases hj; cases hA; exact own_rep q1 (by unfold maxLen; omega)
      | 1, hj, hA => cases hj; cases hA; exact own_rep q2 (by unfold maxLen; omega)
    · match j, hj, hA with
      | 0, hj, hA => cases hj; cases hA; exact q3
      | 1, hj, hA => cases hj; cases hA; exact q4
  · simp only [List.mem_cons, List.not_mem_nil, or_false] at hx
    rcases hx with rfl | rfl <;> (rw [List.length_append, List.length_replicate]; omega)
  have sl : ∀ {v : Value}, (∃ a n c, v = Value.slice a n c) → v.oneCell' = true := fun h => by obtain ⟨a, n, c, rfl⟩ := h; rfl
  have formL : ∀ v, v ∈ L.map (fun p => p.1) → ∃ a n c, v = Value.slice a n c ∧ n ≤ 1000000000000 := fun v hv => by
    obtain ⟨p, hp, rfl⟩ := List.mem_map.1 hv
    obtain ⟨x, hx, ho⟩ := J.own p hp
    obtain ⟨a, c, e⟩ := ow_shape ho
    exact ⟨a, x, c, e, by omega⟩
  refine da_outs (m := m + 2) z2 d2 f2 hA h7 B1 B2 J.bn (by simp [J.lL]) (by simp [J.lF]) (by simp [J.lU]) (fun v hv => ?_) (fun v hv => ?_) (fun v hv => ?_) (by omega) fun a3 w3 vl' vf' vu' Fs' Us' z3 d3 s3 O hq' C ne' => ?_
  · rcases List.mem_cons.1 hv with rfl | hv
    · rfl
    rcases List.mem_cons.1 hv with rfl | hv
    · rfl
    obtain ⟨a, n, c, rfl, _⟩ := formL v hv; rfl
  · rcases List.mem_cons.1 hv with rfl | hv
    · rfl
    rcases List.mem_cons.1 hv with rfl | hv
    · rfl
    obtain ⟨a, c, rfl⟩ := J.fF v hv; rfl
  · rcases List.mem_cons.1 hv with rfl | hv
    · exact sl J.f1
    rcases List.mem_cons.1 hv with rfl | hv
    · exact sl J.f2
    obtain ⟨a, c, rfl⟩ := J.fU v hv; rfl
  have lenM : (ansD β A1 A2 us).length = 12 := rfl
  have hM := ansD_len (A2 := A2) (us := us) J.wd1 (by omega) hβ
  have nq : ∀ q, Bq b vl' vf' vu' q → q ≠ p1 ∧ q ≠ p2 := fun q h => by
    rcases hq' q h with h | h
    · exact (J.hq q h).2
    · exact ⟨by omega, by omega⟩
  have N1 : RowN w3 p1 n1 c1 := (J.rowN1.1).keep (O.bel.block p1 lt1 (fun h => (J.hq p1 h).2.1 rfl))
  have N2 : RowN w3 p2 n2 c2 := (J.rowN1.2).keep (O.bel.block p2 lt2 (fun h => (J.hq p2 h).2.2 rfl))
  by_cases hk : k = 0
  · have e10 : a3.tmps.getD 10 undef = .int .i64 0 := (s3 10 (by decide)).trans (by rw [h10, hk]; rfl)
    have hsc := scribble_raw (b := b) (Ls := L.map (fun p => p.1) ++ (ansD β A1 A2 us).map fun p => p.1) (Fs := Fs ++ Fs') O.bn (by simp only [List.length_append, List.length_map, J.lL, J.lF, O.lf]) (by simp only [List.length_append, List.length_map, J.lL, lenM]; omega) (fun v hv => ?_) (fun v hv => (List.mem_append.1 hv).elim (J.fF v) (O.ff v)) N1 N2 (by omega) (by omega) J.hp.2.2 (fun h => (nq p1 h).1 rfl) (fun h => (nq p2 h).2 rfl)
    · refine da_scr (Qf := fun w4 => BelE w3 (fun x => x = p1 ∨ x = p2) w4 ∧ RowN w4 p1 n1 c1 ∧ RowN w4 p2 n2 c2) z3 ((s3 7 (by decide)).trans h7) e10 hsc fun a4 w4 z4 s4 d4 hQ => ?_
      obtain ⟨A1', A2', J'⟩ := J.next O hq' C hM ne' lenM hQ.1 hQ.2.1 hQ.2.2
      have e39 : ∀ t, t ∈ [2, 7, 8, 9, 10] → t < 52 := by decide
      exact kk a4 w4 _ _ _ _ _ _ _ _ z4 (d4.trans d3) (fun t ht => (s4 t (e39 t ht)).trans (s3 t ht)) J'
    · rcases List.mem_append.1 hv with hv | hv
      · exact formL v hv
      · obtain ⟨p, hp, rfl⟩ := List.mem_map.1 hv
        obtain ⟨x, _, ho⟩ := C.own p hp
        obtain ⟨a, c, e⟩ := ow_shape ho
        have hl := ho.1
        simp only [Wv, List.length_map] at hl
        have := hM p hp
        exact ⟨a, x, c, e, by omega⟩
  · refine da_noscr (k := k) z3 ((s3 10 (by decide)).trans h10) hk fun a4 z4 s4 d4 => ?_
    obtain ⟨A1', A2', J'⟩ := J.next O hq' C hM ne' lenM (BelE.refl _ _) N1 N2
    have e39 : ∀ t, t ∈ [2, 7, 8, 9, 10] → t < 52 := by decide
    exact kk a4 w3 _ _ _ _ _ _ _ _ z4 (d4.trans d3) (fun t ht => (s4 t (e39 t ht)).trans (s3 t ht)) J'
theorem da_zero {a : Act} {w : World} {R : Exit → Act → World → Prop} (hz : a.tmps.size = 307)
    (kk : ∀ (a' : Act), a'.tmps.size = 307 → (∀ t, t < 10 → a'.tmps.getD t undef = a.tmps.getD t undef) → a'.tmps.getD 10 undef = .int .i64 0 → a'.defers = a.defers → R .normal a' w) : (q1 (q1 (qd 5 (qf Try.f3)))).wp Try.prog R a w := by
  have hA := PLift.up kk
  clear kk
  refine wp_region_lit ?_
  go_wp2
  refine hA.down _ (by simp [hz]) (fun t ht => ?_) ?_ rfl
  · dsimp only
    rw [gset_ne (by omega)]
  · dsimp only
    rw [gset_eq (by simp [hz])]
theorem divApart_spec (a b : List Nat) (n : Nat) (wa : Wd a) (wb : Wd b) (la : a.length ≤ 10000000) (lb : b.length ≤ 10000000) (hn : n < 18446744073709551616) : AFun Try.prog J0 3 [.l 1 (W a), .l 1 (W b), .i .u64 (n : Int)] (.b true) := by
  refine .of0 rfl fun w H vs hJ hT hH hr => ?_
  obtain ⟨hr0, hr1⟩ := hr
  obtain ⟨v0, v1, v2, rfl⟩ : ∃ v0 v1 v2, vs = [v0, v1, v2] := by
    match vs, hr0 with
    | [v, u, z], _ => exact ⟨v, u, z, rfl⟩
  have h0 := hr1 0 v0 _ rfl rfl
  have h1 := hr1 1 v1 _ rfl rfl
  obtain rfl := (Rep.up (ov := fun _ => none) (hr1 2 v2 _ rfl rfl)).inv_i
  clear hr1 hr0
  refine calls_at (vs := [v0, v1, .int .u64 (n : Int)]) Try.func3 (c := qf Try.f3) rfl (by show 3 ≤ _; decide) fun a0 z0 e0 d0 => ?_
  have i0 : a0.tmps.getD 0 undef = v0 := e0 0 (by show 0 < 3; decide)
  have i1 : a0.tmps.getD 1 undef = v1 := e0 1 (by show 1 < 3; decide)
  have i2 : a0.tmps.getD 2 undef = .int .u64 (n : Int) := e0 2 (by show 2 < 3; decide)
  change a0.tmps.size = 307 at z0
  refine da_begin z0 fun a1 w1 z1 s1 d1 B1 => ?_
  refine wp_seq ?_
  refine da_book z1 fun a2 z2 s2 k7 d2 => ?_
  refine wp_seq ?_
  refine da_in (b := w1.heap.size) (va := v0) (vb := v1) (Q1 := fun x w3 => InR (w1.alloc (.cells #[.slice none 0 0, .slice none 0 0, .slice none 0 0] 29)) w1.heap.size (.slice none 0 0) (.slice none 0 0) (.slice none 0 0) [] [] [] a (.returned x) w3) (Q2 := fun x _ y w4 => NA w a b w1.heap.size x y w4) z2 ((s2 0 (by decide)).trans ((s1 0 (by decide)).trans i0)) ((s2 1 (by decide)).trans ((s1 1 (by decide)).trans i1)) k7
    ((in_first B1 hH h0 (by omega)).mono ?_) (fun x w3 hQ => in_second B1 hH h1 (by omega) (by omega) wa wb hQ) fun a3 w3 w4 x y z3 s3 k8 k9 d3 _ hQ => ?_
  · intro e w' h
    have h' := h
    obtain ⟨g, cap, _, _, _, _, _, rfl, _⟩ := h'
    exact ⟨g, _, cap, rfl, h⟩
  obtain ⟨p1, c1, p2, c2, vl, vf, vu, u1, u2, rfl, rfl, J, ru1, ru2⟩ := hQ
  have g2' : a3.tmps.getD 2 undef = .int .u64 (n : Int) := (s3 2 (by decide)).trans ((s2 2 (by decide)).trans ((s1 2 (by decide)).trans i2))
  have g7' : a3.tmps.getD 7 undef = .pointer (some ⟨w1.heap.size, 0, none⟩) := (s3 7 (by decide)).trans k7
  have gd' : a3.defers = [] := d3.trans (d2.trans (d1.trans d0))
  obtain ⟨β, hβ, hβ2, hβe⟩ := or2 n hn
  refine wp_seq ?_
  refine da_base z3 g2' fun a3 z3 s3' g2 d3' => ?_
  rw [hβe] at g2
  have g7 := (s3' 7 (by decide) (by decide)).trans g7'
  have k8 := (s3' 8 (by decide) (by decide)).trans k8
  have k9 := (s3' 9 (by decide) (by decide)).trans k9
  have gd := d3'.trans gd'
  refine wp_seq ?_
  refine wp_seq ?_
  refine da_zero z3 fun a4 z4 s4 k10 d4 => ?_
  refine wp_block ?_
  refine wp_loop (fun a' w' => ∃ (k : Nat) (vl vf vu : Value) (A1 A2 : List Nat) (L : List (Value × List Nat)) (Fs Us : List Value), k ≤ 2 ∧ a'.tmps.size = 307 ∧ a'.defers = [] ∧ a'.tmps.getD 2 undef = .int .u64 (β : Int) ∧ a'.tmps.getD 7 undef = .pointer (some ⟨w1.heap.size, 0, none⟩) ∧ a'.tmps.getD 8 undef = .slice (some ⟨p1, 0, none⟩) a.length c1 ∧ a'.tmps.getD 9 undef = .slice (some ⟨p2, 0, none⟩) b.length c2 ∧ a'.tmps.getD 10 undef = .int .i64 (k : Int) ∧
      NJ w w' w1.heap.size p1 a.length c1 p2 b.length c2 (12 * k) vl vf vu A1 A2 u1 u2 L Fs Us ∧ (k = 0 → Rep0 w' (fun q => q < w'.heap.size) u1 (.l 1 (W (A1 ++ List.replicate 5 0))) ∧ Rep0 w' (fun q => q < w'.heap.size) u2 (.l 1 (W (A2 ++ List.replicate 5 0)))))
    (fun a' _ => 2 - (intOf (a'.tmps.getD 10 undef)).toNat) ?_ ?_
  · exact ⟨0, vl, vf, vu, a, b, [], [], [], by decide, z4, d4.trans gd, (s4 2 (by decide)).trans g2, (s4 7 (by decide)).trans g7, (s4 8 (by decide)).trans k8, (s4 9 (by decide)).trans k9, k10, J, fun _ => ⟨ru1, ru2⟩⟩
  · rintro a' w' ⟨k, vl, vf, vu, A1, A2, L, Fs, Us, hk, hz, hd, h2, h7, h8, h9, h10, J, hu⟩
    refine wp_seq ?_
    refine da_cond hz h10 hk (fun hlt a5 z5 s5 d5 => ?_) (fun hge a5 z5 s5 d5 => ?_)
    · refine wp_seq ?_
      refine wp_block ?_
      refine da_round (k := k) z5 (d5.trans hd) ((s5 2 (by decide)).trans h2) ((s5 7 (by decide)).trans h7) ((s5 8 (by decide)).trans h8) ((s5 9 (by decide)).trans h9) ((s5 10 (by decide)).trans h10) J (fun h => ⟨by omega, hu h⟩) (by omega) la lb hβ hβ2 fun a6 w6 vl' vf' vu' A1' A2' L' Fs' Us' z6 d6 s6 J6 => ?_
      have t7 : ∀ t, t ∈ [2, 7, 8, 9, 10] → t < 52 := by decide
      have e6 : ∀ t, t ∈ [2, 7, 8, 9, 10] → a6.tmps.getD t undef = a'.tmps.getD t undef := fun t ht => (s6 t ht).trans (s5 t (t7 t ht))
      refine da_step z6 ((e6 10 (by decide)).trans h10) (by omega) fun a7 z7 s7 k7 d7 => ?_
      refine ⟨⟨k + 1, vl', vf', vu', A1', A2', L', Fs', Us', by omega, z7, d7.trans d6, (s7 2 (by decide) (by decide)).trans ((e6 2 (by decide)).trans h2), (s7 7 (by decide) (by decide)).trans ((e6 7 (by decide)).trans h7), (s7 8 (by decide) (by decide)).trans ((e6 8 (by decide)).trans h8), (s7 9 (by decide) (by decide)).trans ((e6 9 (by decide)).trans h9), by rw [k7]; rfl, by rw [show 12 * (k + 1) = 12 * k + 12 from by omega]; exact J6, fun h => by omega⟩, ?_⟩
      rw [k7, h10]
      simp only [intOf]; omega
    · subst hge
      have lt1 := J.r1.lt p1 rfl
      have lt2 := J.r2.lt p2 rfl
      have hp := J.hp
      have fin := apart_raw J.bn (by simp) (by simp [J.lL]) (apt_cons (apt_cons J.apt fun u q hu hq => ?_) fun u q hu hq => ?_) (fun j v hj => ?_)
      · refine da_end (Qf := fun w9 => BelE w' (fun x => ∃ (j : Nat) (v : Value), (Value.slice (some ⟨p1, 0, none⟩) a.length c1 :: Value.slice (some ⟨p2, 0, none⟩) b.length c2 :: L.map fun p => p.1)[j]? = some v ∧ v.ownBlock = some x) w9) z5 ((s5 7 (by decide)).trans h7) fin fun a9 w9 z9 k6 d9 hQ => ?_
        refine ⟨d9.trans (d5.trans hd), _, results_tmp rfl _ _ _, _, rfl, ⟨hQ.os.trans J.bel.os, hQ.tape.trans J.bel.tape, hQ.output.trans J.bel.output, Nat.le_trans J.bel.size hQ.size, fun q hq => (hQ.block q (Nat.lt_of_lt_of_le hq J.bel.size) (fun h => ?_)).trans (J.bel.block q hq)⟩, fun _ => False, fun _ h => h.elim, .inl ?_⟩
        · obtain ⟨j, v, hj, hv⟩ := h
          rcases List.mem_cons.1 (List.mem_of_getElem? hj) with rfl | hm
          · cases hv; exact absurd hp.1 (Nat.not_le_of_lt hq)
          rcases List.mem_cons.1 hm with rfl | hm
          · cases hv; exact absurd hp.2.1 (Nat.not_le_of_lt hq)
          obtain ⟨p, hpL, rfl⟩ := List.mem_map.1 hm
          obtain ⟨m, _, ho⟩ := J.own p hpL
          have := (ho.lt q hv).1
          omega
        · rw [k6]; exact .b true
      · obtain ⟨p, hpL, rfl⟩ := List.mem_map.1 hu
        cases hq
        exact fun e => (J.ne p _ hpL e).2.1 rfl
      · cases hq
        rcases List.mem_cons.1 hu with rfl | hu
        · intro e; cases e; exact hp.2.2 rfl
        obtain ⟨p, hpL, rfl⟩ := List.mem_map.1 hu
        exact fun e => (J.ne p _ hpL e).1 rfl
      · rcases List.mem_cons.1 (List.mem_of_getElem? hj) with rfl | hm
        · exact ⟨_, _, by omega, own_cut J.r1⟩
        rcases List.mem_cons.1 hm with rfl | hm
        · exact ⟨_, _, by omega, own_cut J.r2⟩
        obtain ⟨p, hpL, rfl⟩ := List.mem_map.1 hm
        obtain ⟨m, hm, ho⟩ := J.own p hpL
        exact ⟨m, _, hm, ow_base ho (Nat.zero_le _)⟩
end Go.Proofs.Ytdaedplbhpiacaa
