/-
  surdlaw23.GaussApart: the law, whole.
-/
import Derived.Test.YteaiegppmbcibaaBG3
namespace Go.Proofs.Yteaiegppmbcibaa
open Go Go.RowKit Go.Shelf Go.Proofs Ab
set_option linter.unusedSimpArgs false
set_option linter.unusedVariables false
set_option maxHeartbeats 10000000
set_option maxHeartbeats 4000000
set_option maxRecDepth 2000000
attribute [local go_sem] Oper.semAt_some
theorem gaussApart_spec (l : Zl) (zs : List GZ) (m : Nat) (hm : m ≤ 9223372036854775807) (hl : ZOk l m) (lz : zs.length ≤ 100000000) : AFun Try.prog J0 3 [.l 2 (ZC l), .l 2 (NC zs)] (.b true) := by
  refine .of0 rfl fun w H vs hJ hT hH hr => ?_
  obtain ⟨hr0, hr1⟩ := hr
  obtain ⟨v0, v1, rfl⟩ : ∃ v0 v1, vs = [v0, v1] := by
    match vs, hr0 with
    | [v, u], _ => exact ⟨v, u, rfl⟩
  have h0 := hr1 0 v0 _ rfl rfl
  have h1 := hr1 1 v1 _ rfl rfl
  have hk := (gknown_spec.to0 rfl) w H [] hJ hT hH ⟨rfl, fun j v x h => by simp at h⟩
  obtain ⟨cs, hcs⟩ : ∃ cs, cs = sml l := ⟨_, rfl⟩
  have hc : Cb cs 9 := hcs ▸ sml_Cb l
  have lc : cs.length ≤ 5 := by rw [hcs, sml_len]; omega
  have hsm := small_spec l m hm hl
  rw [← hcs] at hsm
  go_enter Try.func3, Try.ntmps3
  refine wp_seq_k fun K0 hK0 => ?_
  have hk0 := PLift.up hK0
  clear hK0
  go_wp2
  refine hk0.down _ _ ?_
  refine wp_seq_k fun K1 hK1 => ?_
  have hk1 := PLift.up hK1
  clear hK1
  go_wp2_with (go_at_call 4; refine hk.mono ?_; rintro e w1 ⟨v, rfl, hB1, hres⟩; obtain rfl := res_b hres)
  refine hk1.down _ _ ?_
  refine wp_seq_k fun K2 hK2 => ?_
  have hk2 := PLift.up hK2
  clear hK2
  go_wp2
  refine hk2.down _ _ ?_
  refine wp_seq_k fun K3 hK3 => ?_
  have hk3 := PLift.up hK3
  clear hK3
  obtain ⟨W2, hW2⟩ : ∃ W2, W2 = w1.alloc (.cells #[.slice none 0 0, .slice none 0 0, .slice none 0 0, .slice none 0 0, .slice none 0 0, .slice none 0 0, .slice none 0 0] 33) := ⟨_, rfl⟩
  have hbox : W2.heap[w1.heap.size]? = some (.cells #[.slice none 0 0, .slice none 0 0, .slice none 0 0, .slice none 0 0, .slice none 0 0, .slice none 0 0, .slice none 0 0] 33 (0, 0)) := by rw [hW2]; exact heap_alloc_new w1 _
  have hs2 : W2.heap.size = w1.heap.size + 1 := by rw [hW2]; simp
  have hB2 : Below w.heap.size w W2 := by rw [hW2]; exact hB1.alloc hB1.size _
  rw [← hW2]
  clear hW2 hk
  have hT2 : TJ W2 H := hT.mono (fun _ h => h) (fun q hq => hB2.block q (hH q hq))
  have hsmall := (hsm.to0 rfl) W2 H [v0] trivial hT2 (fun q hq => Nat.lt_of_lt_of_le (hH q hq) hB2.size) ⟨rfl, fun j v x e1 e2 => by
    match j, e1, e2 with
    | 0, e1, e2 => cases e1; cases e2; exact h0.mono (fun _ h => h) (fun q hq => hB2.block q (hH q hq))⟩
  have hs1 := hB1.size
  have hql : (nfl cs).length ≤ 1000 := by rw [nfl_len]; omega
  have hqa : ∀ p, p ∈ nfl cs → p.2.length ≤ 1000000000 := fun p hp => Nat.le_trans ((ZOk_small (by omega) (Cb_B hc (by decide))).2 p hp).2 (by decide)
  go_wp2_with (first
    | (go_at_call 6; refine hsmall.mono ?_; rintro e W3 ⟨v3, rfl, hB3, hres3⟩; obtain ⟨N3, hN3, hv3⟩ := res_l hres3
       have hb3 : W3.heap[w1.heap.size]? = _ := (hB3.block _ (by omega)).trans hbox
       have hzin := zIn_raw (Bk.new (w := W3) (H := fun q => H q ∨ N3 q) (hT2.mono (fun _ h => .inl h) (fun q hq => hB3.block q (Nat.lt_of_lt_of_le (hH q hq) hB2.size))) (fun q h => h.elim (fun h => Nat.lt_of_lt_of_le (hH q h) (Nat.le_trans hB2.size hB3.size)) (fun h => (hN3 q h).2)) hb3 (fun h => h.elim (fun h => by have := hH _ h; omega) (fun h => by have := (hN3 _ h).1; omega))) hv3 hql hqa)
    | (go_at_call 5; refine hzin.mono ?_; rintro e W4 ⟨r, Hf, rfl, hbel4, f1, f2, f3, f4, f5, f6⟩))
  refine hk3.down _ _ ?_
  have hLL : fsF (nfl cs) (nfl cs).length = LL ((nfl cs).map fun p => p.2 ++ List.replicate 5 0) := by simp [fsF, LL, List.take_length]
  have hFU : fuF (nfl cs) (nfl cs).length = nfl cs ++ List.replicate 5 (false, []) := by unfold fuF; rw [List.take_length, show (nfl cs).length + 5 - (nfl cs).length = 5 from by omega]
  unfold bkV at f6
  rw [hLL] at f6
  have hrest := rest_walk cs zs (.l 1 (lsF (nfl cs) (nfl cs).length)) (.l 1 [.l 2 (ZC (nfl cs))]) ((nfl cs).map fun p => p.2 ++ List.replicate 5 0) (nfl cs) (fuF (nfl cs) (nfl cs).length) hc lc lz (by rw [List.length_map]; omega) (fun a ha => by
    obtain ⟨p, hp, rfl⟩ := List.mem_map.1 ha
    have := hqa p hp
    rw [List.length_append, List.length_replicate]; omega) hFU (by omega)
  have hbl : ∀ q, q < w.heap.size → W4.heap[q]? = w.heap[q]? := fun q hq => (hbel4.block q (by have := hB3.size; omega) (by omega)).trans ((hB3.block q (by omega)).trans (hB2.block q hq))
  have hs4 := hbel4.size
  have hs3 := hB3.size
  refine wp_mono (avc_sound (J := J0) (w0 := W4) (H0 := ⟨Hf, fun _ => False, []⟩) (N := Try.f3.ntmps) fol (fun w' _ => trivial) _ a3.p2.p2.p2.p2 (by kernel_rfl) (fun _ _ h => by cases h) _ _ _ W4 Hf (fun _ => none) ⟨⟨BelE.refl _ _, f4, f2, fun q h _ => .inl h, fun id o h => (by cases h), fun i j oi oj vi vj q _ h => (by cases h)⟩, rfl, rfl, fun _ _ h => (by cases h), ?env, fun _ _ => rfl⟩ hrest) ?post
  case env =>
    intro t
    show Rep W4 Hf _ _ (lk [(1, .l 2 (NC zs)), (5, _), (6, .l 2 (ZC (nfl cs)))] t)
    unfold lk
    split
    · rename_i e; subst e; exact .base (h1.mono (fun q h => f1 q (.inl h)) (fun q hq => hbl q (hH q hq)))
    · unfold lk
      split
      · rename_i e; subst e; exact .base f6
      · unfold lk
        split
        · rename_i e; subst e; exact .base f5
        · exact .any _
  case post =>
    intro ex a' w' hq
    have last : ∀ (s' : St) (H' : Nat → Prop) (ov' : Nat → Option Value), s'.get 4 = .b true → Conc W4 ⟨Hf, fun _ => False, []⟩ w' H' ov' Try.f3.ntmps a' s' →
        a'.defers = [] ∧ ∃ v, (results Try.f3 a'.tmps).run Try.prog w' = .ok v w' ∧ ∃ v', Ending.returned v = .returned v' ∧ Below w.heap.size w w' ∧ Res w w' H v' (.b true) := fun s' H' ov' h4 hc' => by
      have he4 := hc'.env 4
      rw [h4] at he4
      have e4 := he4.inv_b
      have hb := hc'.mem.bel
      refine ⟨hc'.dfr, _, results_tmp rfl _ _ _, _, rfl, ⟨hb.os.trans (hbel4.os.trans (hB3.os.trans hB2.os)), hb.tape.trans (hbel4.tape.trans (hB3.tape.trans hB2.tape)), hb.output.trans (hbel4.output.trans (hB3.output.trans hB2.output)), by have := hb.size; omega, fun q hq => (hb.block q (by omega) (fun h => h)).trans (hbl q hq)⟩, fun _ => False, fun _ h => h.elim, .inl ?_⟩
      rw [e4]; exact .b true
    cases ex with
    | normal => obtain ⟨s', H', ov', hq, hc'⟩ := hq; exact last s' H' ov' hq.2 hc'
    | ret => obtain ⟨s', H', ov', hq, hc'⟩ := hq; exact last s' H' ov' hq.2 hc'
    | exit i => obtain ⟨s', H', ov', hq, hc'⟩ := hq; exact absurd hq.1 (by simp)
    | goto l => exact hq.elim
    | panic ch => exact hq.elim
    | outgrown => exact hq.elim
end Go.Proofs.Yteaiegppmbcibaa
