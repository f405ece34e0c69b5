/-
  The book: a number to be handed in, told of the memory.
-/
import Derived.Test.YteaiegppmbcibaaBK1
namespace Go.Proofs.Yteaiegppmbcibaa
open Go Go.RowKit Go.Proofs Ab
set_option linter.unusedSimpArgs false
set_option linter.unusedVariables false
set_option maxHeartbeats 10000000
def bkO (n : Nat) (ls fs us : List V) (rest : List V) : Nat → Option Ob := lo [(0, some ⟨33, 7, .ow 1 1 n :: .ow 1 2 n :: .ow 1 3 n :: rest, true, true⟩), (1, some ⟨55, 1, ls, true, false⟩), (2, some ⟨55, 1, fs, true, false⟩), (3, some ⟨55, 1, us, true, false⟩)]
theorem bkO_mu {n : Nat} {ls fs us : List V} {rest : List V} {i : Nat} {o : Ob} (h : bkO n ls fs us rest i = some o) : o.mu = true ∧ i < 4 := by
  simp only [bkO, lo] at h
  split at h
  · cases h; exact ⟨rfl, by omega⟩
  · split at h
    · cases h; exact ⟨rfl, by omega⟩
    · split at h
      · cases h; exact ⟨rfl, by omega⟩
      · split at h
        · cases h; exact ⟨rfl, by omega⟩
        · cases h
def Bk (w : World) (H E : Nat → Prop) (b n : Nat) (ls fs us : List V) (rest : List V) : Prop :=
  ∃ ov, Mem w ⟨H, E, []⟩ w H ov (bkO n ls fs us rest) ∧ (∃ v0, ov 0 = some v0 ∧ blk v0 = some b) ∧ (∀ id, 4 ≤ id → ov id = none) ∧ ∀ q, E q → ¬ H q ∧ q < w.heap.size
theorem Mem.ks {w0 w : World} {H1 E : Nat → Prop} {k1 : List (Nat × Value)} {H : Nat → Prop} {ov : Nat → Option Value} {ob : Nat → Option Ob} (h : Mem w0 ⟨H1, E, k1⟩ w H ov ob) (k2 : List (Nat × Value)) : Mem w0 ⟨H1, E, k2⟩ w H ov ob := ⟨h.bel, h.tj, h.Hlt, h.low, h.obj, h.sep⟩
theorem in_raw {w : World} {H E : Nat → Prop} {b n : Nat} {ls fs us : List V} {v3 v4 v5 v6 : V} {va : Value} {a : List Nat} (hb : Bk w H E b n ls fs us [v3, v4, v5, v6]) (hva : Rep0 w H va (.l 1 (W a))) (hrest : ∀ x, x ∈ [v3, v4, v5, v6] → x.cell = true ∨ x = .nl) (hn : n ≤ 1000000) (la : a.length ≤ 1000000000) (l1 : ls.length = n) (l2 : fs.length = n) (l3 : us.length = n) :
    Calls Try.prog 38 #[.pointer (some ⟨b, 0, none⟩), va] w fun e w' => ∃ r H' E', e = .returned r ∧ BelE w E w' ∧ (∀ q, H q → H' q) ∧ (∀ q, H' q → H q ∨ E q ∨ w.heap.size ≤ q) ∧ (∀ q, E' q → E q ∨ w.heap.size ≤ q) ∧
      Bk w' H' E' b (n + 1) (ls ++ [.l 1 (W a)]) (fs ++ [.l 1 (W (a ++ List.replicate 5 0))]) (us ++ [.l 1 (W (a ++ List.replicate 5 0))]) [v3, v4, v5, v6] ∧ Rep0 w' H' r (.l 1 (W a)) := by
  obtain ⟨ov, hm, ⟨v0, hv0, hb0⟩, hnew, hE⟩ := hb
  refine run_pc Try.func38 rfl (vs := [.pointer (some ⟨b, 0, none⟩), va]) (by show 2 ≤ _; decide) (ks := [(0, .pointer (some ⟨b, 0, none⟩))])
    (s0 := ⟨[(0, .pt 0 0), (1, .l 1 (W a))], [(0, some ⟨33, 7, [.ow 1 1 n, .ow 1 2 n, .ow 1 3 n, v3, v4, v5, v6], true, true⟩), (1, some ⟨55, 1, ls, true, false⟩), (2, some ⟨55, 1, fs, true, false⟩), (3, some ⟨55, 1, us, true, false⟩)], 4⟩)
    (Mem.ks hm _) (fun m v h => by
      cases List.mem_singleton.1 h
      exact ⟨Nat.succ_pos _, rfl⟩) (fun k hk => ?_) (fun k hk => ?_) hnew (fun act hconc => ?_)
  · match k, hk with
    | 0, _ => exact .pt 0 0 b v0 hv0 hb0
    | 1, _ => exact .base hva
  · match k, hk with
    | k + 2, _ => rfl
  refine seq_go (A1 := a38.p1) (A2 := a38.p2.p1.seq a38.p2.p2.p1) fol (by kernel_rfl) (fun m v h => by cases List.mem_singleton.1 h; rfl) hconc (in_walk n ls fs us v3 v4 v5 v6 a hn la l1 l2 l3) ?_
  intro a1 w1 H1 ov1 s1 hv1 hc1
  refine seq_go (A1 := a38.p2.p1) (A2 := a38.p2.p2.p1) fol (by kernel_rfl) (fun m v h => by cases List.mem_singleton.1 h; rfl) hc1 hv1 ?_
  intro a2 w2 H2 ov2 s2 hv2 hc2
  refine last_go (A1 := a38.p2.p2.p1) fol (by kernel_rfl) (fun m v h => by cases List.mem_singleton.1 h; rfl) hc2 hv2 ?_
  intro a3 w3 H3 ov3 s3 ⟨h1, h2, h3⟩ hc3
  obtain ⟨H4, hc4⟩ := fz_conc hc3 Nat.one_pos h1 h2
  refine wp_mono (avc_sound (J := J0) fol (fun w' _ => trivial) _ a38.p2.p2.p2 (by kernel_rfl) (fun m v h => by cases List.mem_singleton.1 h; rfl) _ _ a3 w3 H4 ov3 hc4 h3) fun ex a' w' hq => ?_
  have last : ∀ (s' : St) (H' : Nat → Prop) (ov' : Nat → Option Value), inK n ls fs us [v3, v4, v5, v6] a s' → Conc w ⟨H, E, [(0, .pointer (some ⟨b, 0, none⟩))]⟩ w' H' ov' Try.f38.ntmps a' s' →
      a'.defers = [] ∧ ∃ r, (results Try.f38 a'.tmps).run Try.prog w' = .ok r w' ∧ ∃ r' H' E', Ending.returned r = .returned r' ∧ BelE w E w' ∧ (∀ q, H q → H' q) ∧ (∀ q, H' q → H q ∨ E q ∨ w.heap.size ≤ q) ∧ (∀ q, E' q → E q ∨ w.heap.size ≤ q) ∧
      Bk w' H' E' b (n + 1) (ls ++ [.l 1 (W a)]) (fs ++ [.l 1 (W (a ++ List.replicate 5 0))]) (us ++ [.l 1 (W (a ++ List.replicate 5 0))]) [v3, v4, v5, v6] ∧ Rep0 w' H' r' (.l 1 (W a)) := by
    rintro s' H' ov' ⟨i1, i2, i3, o0, n1, n2, n3, d12, d13, d23, o1, o2, o3, g4, g0⟩ hc'
    obtain ⟨r, hr⟩ : ∃ r : Nat → Nat, r = fun i => match i with | 0 => 0 | 1 => i1 | 2 => i2 | 3 => i3 | k + 4 => s'.nx + k := ⟨_, rfl⟩
    have r0 : r 0 = 0 := by rw [hr]
    have r1 : r 1 = i1 := by rw [hr]
    have r2 : r 2 = i2 := by rw [hr]
    have r3 : r 3 = i3 := by rw [hr]
    have r4 : ∀ k, r (k + 4) = s'.nx + k := fun k => by rw [hr]
    clear hr
    have ec : ∀ x, x ∈ [v3, v4, v5, v6] → cRen r x x := fun x hx => (hrest x hx).elim (fun h => .inl ⟨rfl, h⟩) (fun h => .inr (.inr ⟨h, h⟩))
    have hob : ∀ i o2, bkO (n + 1) (ls ++ [.l 1 (W a)]) (fs ++ [.l 1 (W (a ++ List.replicate 5 0))]) (us ++ [.l 1 (W (a ++ List.replicate 5 0))]) [v3, v4, v5, v6] i = some o2 → ∃ o1, s'.ob (r i) = some o1 ∧ oRen r o1 o2 := fun i o2 h => by
      have hi := (bkO_mu h).2
      have row : ∀ {k : Nat} {o : Ob}, s'.ob k = some o → Ab.rfo o = false → oRen r o o := fun ho hr => by
        obtain ⟨u, _, hor⟩ := hc'.mem.obj _ _ ho
        exact oRen.refl (hor.cl hr)
      match i, hi with
      | 0, _ =>
        cases h
        refine ⟨⟨33, 7, [.ow 1 i1 (n + 1), .ow 1 i2 (n + 1), .ow 1 i3 (n + 1), v3, v4, v5, v6], true, true⟩, by rw [r0]; exact o0, rfl, rfl, rfl, rfl, rfl, fun j x1 x2 h1 h2 => ?_⟩
        match j, h1, h2 with
        | 0, h1, h2 => cases h1; cases h2; exact .inr (.inl ⟨1, 1, n + 1, by rw [r1], rfl⟩)
        | 1, h1, h2 => cases h1; cases h2; exact .inr (.inl ⟨1, 2, n + 1, by rw [r2], rfl⟩)
        | 2, h1, h2 => cases h1; cases h2; exact .inr (.inl ⟨1, 3, n + 1, by rw [r3], rfl⟩)
        | 3, h1, h2 => cases h1; cases h2; exact ec _ (by simp)
        | 4, h1, h2 => cases h1; cases h2; exact ec _ (by simp)
        | 5, h1, h2 => cases h1; cases h2; exact ec _ (by simp)
        | 6, h1, h2 => cases h1; cases h2; exact ec _ (by simp)
      | 1, _ => cases h; exact ⟨_, by rw [r1]; exact o1, row o1 rfl⟩
      | 2, _ => cases h; exact ⟨_, by rw [r2]; exact o2, row o2 rfl⟩
      | 3, _ => cases h; exact ⟨_, by rw [r3]; exact o3, row o3 rfl⟩
    have hx : ∀ i o v q, s'.ob i = some o → ov' i = some v → blk v = some q → (H q ∨ H' q) → H' q := fun i o v q hi hv hq h => by
      rcases h with h | h
      · exfalso
        obtain ⟨u, hu, hor⟩ := hc'.mem.obj i o hi
        rw [hv] at hu; cases hu
        rcases hor.ow q hq with h5 | h5
        · have := hm.Hlt q h; omega
        · exact (hE q h5).1 h
      · exact h
    have M := mem_rebase (H2 := fun q => H q ∨ H' q) hc'.mem (fun q h => .inr h) (fun q h => h.elim (fun h => Nat.lt_of_lt_of_le (hm.Hlt q h) hc'.mem.bel.size) (hc'.mem.Hlt q)) hx (fun i j o p hi hj he => by
      have h1 := (bkO_mu hi).2
      have h2 := (bkO_mu hj).2
      match i, j, h1, h2 with
      | 0, 0, _, _ => rfl
      | 1, 1, _, _ => rfl
      | 2, 2, _, _ => rfl
      | 3, 3, _, _ => rfl
      | 0, 1, _, _ => rw [r0, r1] at he; omega
      | 0, 2, _, _ => rw [r0, r2] at he; omega
      | 0, 3, _, _ => rw [r0, r3] at he; omega
      | 1, 0, _, _ => rw [r0, r1] at he; omega
      | 1, 2, _, _ => rw [r1, r2] at he; omega
      | 1, 3, _, _ => rw [r1, r3] at he; omega
      | 2, 0, _, _ => rw [r0, r2] at he; omega
      | 2, 1, _, _ => rw [r1, r2] at he; omega
      | 2, 3, _, _ => rw [r2, r3] at he; omega
      | 3, 0, _, _ => rw [r0, r3] at he; omega
      | 3, 1, _, _ => rw [r1, r3] at he; omega
      | 3, 2, _, _ => rw [r2, r3] at he; omega) hob []
    have hkp := hc'.kp 0 _ (List.mem_singleton.2 rfl)
    have he0 := hc'.env 0
    rw [hkp, g0] at he0
    obtain ⟨b', u, eb, hu, hbu⟩ := he0.inv_pt
    cases eb
    have he4 := hc'.env 4
    rw [g4] at he4
    refine ⟨hc'.dfr, _, resSlots_run (show resSlots Try.f38.results.toList = some [4] from rfl) _ _, _, fun q => H q ∨ H' q, _, rfl, hc'.mem.bel, fun q h => .inl h, fun q h => h.elim .inl fun h => ?_, ?_, ⟨_, M, ⟨u, by rw [r0]; exact hu, hbu⟩, fun id hid => ?_, ?_⟩, (he4.down rfl).mono (fun q h => .inr h) (fun _ _ => rfl)⟩
    · rcases Nat.lt_or_ge q w.heap.size with h5 | h5
      · rcases hc'.mem.low q h h5 with h6 | h6
        · exact .inl h6
        · exact .inr (.inl h6)
      · exact .inr (.inr h5)
    · rintro q ⟨i, o, v, hi, hv, hq⟩
      obtain ⟨o1', h1, _⟩ := hob i o hi
      obtain ⟨u', hu', hor⟩ := hc'.mem.obj _ _ h1
      rw [hv] at hu'; cases hu'
      rcases hor.ow q hq with h5 | h5
      · exact .inr h5
      · exact .inl h5
    · obtain ⟨k, rfl⟩ : ∃ k, id = k + 4 := ⟨id - 4, by omega⟩
      rw [r4]; exact hc'.new _ (Nat.le_add_right _ _)
    · rintro q ⟨i, o, v, hi, hv, hq⟩
      obtain ⟨u', hu', hor⟩ := M.obj i o hi
      rw [hv] at hu'; cases hu'
      refine ⟨fun h => ?_, (hor.lt hq).2⟩
      have := (hor.fz q hq).1 h
      rw [(bkO_mu hi).1] at this; cases this
  cases ex with
  | normal => obtain ⟨s', H', ov', hq, hc'⟩ := hq; exact ⟨.inl rfl, last s' H' ov' hq.2 hc'⟩
  | ret => obtain ⟨s', H', ov', hq, hc'⟩ := hq; exact ⟨.inr rfl, last s' H' ov' hq.2 hc'⟩
  | exit i => obtain ⟨s', H', ov', hq, hc'⟩ := hq; exact absurd hq.1 (by simp)
  | goto l => exact hq.elim
  | panic ch => exact hq.elim
  | outgrown => exact hq.elim
end Go.Proofs.Yteaiegppmbcibaa
