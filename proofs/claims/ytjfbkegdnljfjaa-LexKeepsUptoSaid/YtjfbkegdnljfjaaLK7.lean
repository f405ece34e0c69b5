/-
  LexKeeps: between the layer's pieces and what is told of the memory.
-/
import Derived.Test.YtjfbkegdnljfjaaLK6
namespace Go.Proofs.Ytjfbkegdnljfjaa
open Go Go.RowKit Go.Shelf Go.Proofs Ab
set_option linter.unusedSimpArgs false
set_option linter.unusedVariables false
set_option maxHeartbeats 10000000
set_option maxHeartbeats 4000000
set_option maxRecDepth 2000000
theorem row_l {w : World} {B e sz n : Nat} {v : Value} {xs : List Value} {cs : List V} {H : Nat → Prop} (hsz : 0 < sz) (ho : w.ownsRow B e sz v n xs) (hr : RepAll w H xs cs) (hm : n ≤ maxLen) (hH : ∀ q, v.ownBlock = some q → H q) : Rep0 w H v (.l sz cs) := by
  have hl : cs.length = n * sz := by rw [← hr.1]; exact ho.1
  rcases ho.2 with ⟨rfl, rfl⟩ | ⟨g, cap, cur, rfl, h1, h2, h3, h4⟩
  · have hcs : cs = [] := List.eq_nil_of_length_eq_zero (by rw [hl]; exact Nat.zero_mul _)
    subst hcs
    exact .l none 0 0 sz [] (fun _ => undef) 0 0 hsz (Nat.zero_mul _).symm (Nat.zero_le _) (Nat.le_refl _) (.inl rfl) (fun j hj => absurd hj (Nat.not_lt_zero j)) (fun j x hx => by simp at hx)
  · refine .l _ n cap sz cs (fun j => xs[j]?.getD undef) g 0 hsz hl hm h3 (.inr ⟨rfl, hH g rfl⟩) (fun j hj => ?_) (fun j x hx => ?_)
    · rw [Nat.zero_add, ho.cellAt j (by rw [← hl]; exact hj), List.getElem?_eq_getElem (by rw [hr.1]; exact hj)]; rfl
    · have hj : j < xs.length := by rw [hr.1]; exact (List.getElem?_eq_some_iff.1 hx).1
      rw [List.getElem?_eq_getElem hj]
      exact hr.2 j _ x (List.getElem?_eq_getElem hj) hx
theorem row_pre {w : World} {B N g cap : Nat} {xs : List Value} {l1 l2 : List Tk} {H : Nat → Prop} (ho : w.ownsRow B 27 3 (.slice (some ⟨g, 0, none⟩) N cap) N xs) (hr : RepAll w (fun _ => False) xs (T (l1 ++ l2))) (hm : l1.length ≤ maxLen) (hc : l1.length ≤ cap) (hH : H g) : Rep0 w H (.slice (some ⟨g, 0, none⟩) l1.length cap) (.l 3 (T l1)) := by
  have hl : xs.length = (l1 ++ l2).length * 3 := by rw [hr.1, T_len]
  rw [List.length_append] at hl
  have h1 := ho.1
  refine .l _ _ _ 3 _ (fun j => xs[j]?.getD undef) g 0 (by decide) (T_len l1) hm hc (.inr ⟨rfl, hH⟩) (fun j hj => ?_) (fun j x hx => ?_)
  · rw [T_len] at hj
    rw [Nat.zero_add, ho.cellAt j (by omega), List.getElem?_eq_getElem (by omega)]; rfl
  · have hj : j < (T l1).length := (List.getElem?_eq_some_iff.1 hx).1
    have hj3 := hj
    rw [T_len] at hj3
    have hjx : j < xs.length := by omega
    rw [List.getElem?_eq_getElem hjx]
    exact (hr.2 j _ x (List.getElem?_eq_getElem hjx) (by rw [← T_app, List.getElem?_append_left hj]; exact hx)).mono (fun _ h => h.elim) (fun _ h => h.elim)
theorem T_cells (l : List Tk) : ∀ x, x ∈ T l → x.cell = true := fun x hx => List.all_eq_true.1 (T_cell l) x hx
theorem PT_cells (l : List (List Tk)) : ∀ x, x ∈ PT l → x.cell = true := fun x hx => List.all_eq_true.1 (PT_cellA l) x hx
theorem Rwl.cells {B : Nat} {w : World} {vs : Value} {vl : List Value} {ps : List (List Tk)} {H : Nat → Prop} (h : Rwl B w vs vl ps) (hb : ∀ p, p ∈ ps → p.length ≤ maxLen) (hH : ∀ (j : Nat) (v : Value) (q : Nat), vl[j]? = some v → v.ownBlock = some q → H q) : RepAll w H vl (PT ps) := by
  refine ⟨by rw [PT_len]; exact h.len, fun j v x hv hx => ?_⟩
  obtain ⟨p, xs, hp, ho, hr⟩ := h.pcs hv
  simp only [PT, List.getElem?_map, hp, Option.map_some, Option.some.injEq] at hx
  subst hx
  exact row_l (by decide) ho (T_rep hr) (hb p (List.mem_of_getElem? hp)) fun q hq => hH j v q hv hq
theorem Rwl.read {B : Nat} {w : World} {vs : Value} {vl : List Value} {ps : List (List Tk)} {H : Nat → Prop} (h : Rwl B w vs vl ps) (hb : ∀ p, p ∈ ps → p.length ≤ maxLen) (hps : ps.length ≤ maxLen) (h1 : ∀ q, vs.ownBlock = some q → H q) (hH : ∀ (j : Nat) (v : Value) (q : Nat), vl[j]? = some v → v.ownBlock = some q → H q) : Rep0 w H vs (.l 1 (PT ps)) :=
  row_l Nat.one_pos h.row (h.cells hb hH) hps h1
theorem Rwl.readc {B : Nat} {w : World} {vs : Value} {vl : List Value} {ps : List (List Tk)} {H : Nat → Prop} (h : Rwl B w vs vl ps) (hps : ps.length ≤ maxLen) (h1 : ∀ q, vs.ownBlock = some q → H q) : Rep0 w H vs (.l 1 (vl.map V.c)) :=
  row_l Nat.one_pos h.row ⟨by simp, fun j v x hv hx => by
    simp only [List.getElem?_map, hv, Option.map_some, Option.some.injEq] at hx
    subst hx; exact .c v⟩ hps h1
theorem blk_ob {w : World} {B e sz n : Nat} {v : Value} {xs : List Value} (h : w.ownsRow B e sz v n xs) : blk v = v.ownBlock := by
  rcases h.2 with ⟨rfl, _⟩ | ⟨g, cap, cur, rfl, _⟩ <;> rfl
theorem mem2 {w : World} {H : Nat → Prop} {ks : List (Nat × Value)} {e0 z0 n0 e1 z1 n1 : Nat} {v0 v1 : Value} {xs0 xs1 : List Value} {cs0 cs1 : List V} (hlt : ∀ q, H q → q < w.heap.size)
    (o0 : w.ownsRow 0 e0 z0 v0 n0 xs0) (r0 : RepAll w H xs0 cs0) (c0 : ∀ x, x ∈ cs0 → x.cell = true) (m0 : n0 ≤ maxLen) (p0 : 0 < z0) (f0 : ∀ q, v0.ownBlock = some q → ¬ H q)
    (o1 : w.ownsRow 0 e1 z1 v1 n1 xs1) (r1 : RepAll w H xs1 cs1) (c1 : ∀ x, x ∈ cs1 → x.cell = true) (m1 : n1 ≤ maxLen) (p1 : 0 < z1) (f1 : ∀ q, v1.ownBlock = some q → ¬ H q)
    (sep : ∀ q, v0.ownBlock = some q → v1.ownBlock ≠ some q) :
    Mem w ⟨H, fun q => v0.ownBlock = some q ∨ v1.ownBlock = some q, ks⟩ w H (fun i => match i with | 0 => some v0 | 1 => some v1 | _ => none) (lo [(0, some ⟨e0, z0, cs0, true, false⟩), (1, some ⟨e1, z1, cs1, true, false⟩)]) := by
  have b0 := blk_ob o0
  have b1 := blk_ob o1
  refine ⟨BelE.refl _ _, tj0 _ _, hlt, fun b h _ => .inl h, fun id o h => ?_, fun i j oi oj vi vj b hij hi hj hvi hvj hb => ?_⟩
  · simp only [lo] at h
    split at h
    · rename_i e; subst e; cases h
      exact ⟨v0, rfl, ObRep.row o0 p0 r0 c0 m0 (fun b hb => f0 b (b0 ▸ hb)) (fun b hb => .inr (.inl (b0 ▸ hb))) _⟩
    · split at h
      · rename_i e; subst e; cases h
        exact ⟨v1, rfl, ObRep.row o1 p1 r1 c1 m1 (fun b hb => f1 b (b1 ▸ hb)) (fun b hb => .inr (.inr (b1 ▸ hb))) _⟩
      · cases h
  · have key : ∀ k o, lo [(0, some ⟨e0, z0, cs0, true, false⟩), (1, some ⟨e1, z1, cs1, true, false⟩)] k = some o → k = 0 ∨ k = 1 := fun k o h => by
      simp only [lo] at h
      split at h
      · exact .inl (by omega)
      · split at h
        · exact .inr (by omega)
        · cases h
    rcases key i oi hi with rfl | rfl
    · rcases key j oj hj with rfl | rfl
      · exact absurd rfl hij
      · cases hvi; cases hvj
        rw [b0] at hb; rw [b1]; exact sep b hb
    · rcases key j oj hj with rfl | rfl
      · cases hvi; cases hvj
        rw [b1] at hb; rw [b0]
        exact fun h => sep b h hb
      · exact absurd rfl hij
theorem conc_row {w0 w : World} {H0 : HS} {H : Nat → Prop} {ov : Nat → Option Value} {N : Nat} {a : Act} {s : St} {t i n : Nat} {l : List Tk} (hc : Conc w0 H0 w H ov N a s) (g : s.get t = .ow 3 i n) (ho : s.ob i = some ⟨27, 3, T l, true, false⟩) :
    ∃ xs, w.ownsRow 0 27 3 (a.tmps.getD t undef) n xs ∧ RepAll w (fun _ => False) xs (T l) ∧ ov i = some (a.tmps.getD t undef) ∧ ∀ q, (a.tmps.getD t undef).ownBlock = some q → ¬ H q ∧ (w0.heap.size ≤ q ∨ H0.e q) := by
  have he := hc.env t
  rw [g] at he
  generalize a.tmps.getD t undef = v at *
  obtain ⟨ba, cap, e, ho', hm, hcp, ha⟩ := he.inv_ow
  obtain ⟨u, hu, hor⟩ := hc.mem.obj i _ ho
  rw [ho'] at hu; cases hu
  rcases hor.bd with ⟨h', _⟩ | ⟨_, _, n', xs, hown, hra, hnm⟩
  · cases h'
  · have hb := blk_ob hown
    have hnn : n' = n := by
      rcases hown.2 with ⟨h1, h2⟩ | ⟨g', cap', cur, h1, _⟩
      · rw [e] at h1; cases h1; exact h2
      · rw [e] at h1; cases h1; rfl
    subst hnn
    exact ⟨xs, hown, T_rep hra, ho', fun q hq => ⟨fun h => (by have := (hor.fz q (hb ▸ hq)).1 h; cases this), hor.ow q (hb ▸ hq)⟩⟩
def lkQ (f : Func) (n : Nat) : Code := qd n (f.body.getD .skip)
theorem drp_p2 : ∀ (n : Nat) (A : AC), (drp n A).p2 = drp (n + 1) A
  | 0, A => rfl
  | n + 1, A => drp_p2 n A.p2
theorem part_go {n i N : Nat} {w0 : World} {H0 : HS} {C1 C2 C3 : Code} {A : AC} {K : St → Prop} {s : St} {a : Act} {w : World} {H : Nat → Prop} {ov : Nat → Option Value} {R : Exit → Act → World → Prop} (hsp : C1 = C2.seq C3)
    (hc : cCode Try.prog N C2 = some (drp i A).p1) (hn : nodk H0 (drp i A).p1) (hconc : Conc w0 H0 w H ov N a s)
    (hv : avc (AFun Try.prog J0) (XFun Try.prog) (chain (n + 1) (drp i A)) (fun e s' => e = .normal ∧ K s') s)
    (k : ∀ a' w' H' ov' s', avc (AFun Try.prog J0) (XFun Try.prog) (chain n (drp (i + 1) A)) (fun e s' => e = .normal ∧ K s') s' → Conc w0 H0 w' H' ov' N a' s' → C3.wp Try.prog R a' w') : C1.wp Try.prog R a w := by
  subst hsp
  refine seq_go (A1 := (drp i A).p1) (A2 := chain n (drp i A).p2) fol hc hn hconc hv ?_
  rw [drp_p2]; exact k
theorem part_last {i N : Nat} {w0 : World} {H0 : HS} {C1 C2 C3 : Code} {A : AC} {K : St → Prop} {s : St} {a : Act} {w : World} {H : Nat → Prop} {ov : Nat → Option Value} {R : Exit → Act → World → Prop} (hsp : C1 = C2.seq C3)
    (hc : cCode Try.prog N C2 = some (drp i A).p1) (hn : nodk H0 (drp i A).p1) (hconc : Conc w0 H0 w H ov N a s)
    (hv : avc (AFun Try.prog J0) (XFun Try.prog) (chain 0 (drp i A)) (fun e s' => e = .normal ∧ K s') s)
    (k : ∀ a' w' H' ov' s', K s' → Conc w0 H0 w' H' ov' N a' s' → C3.wp Try.prog R a' w') : C1.wp Try.prog R a w := by
  subst hsp
  exact last_go (A1 := (drp i A).p1) fol hc hn hconc hv k
theorem mark_loop {a : Act} {w : World} {R : Exit → Act → World → Prop} {sa : Option Addr} {sc : Nat} {vl : List Value} {ps : List (List Tk)} (hz : a.tmps.size = 232) (h15 : a.tmps.getD 15 undef = .slice sa ps.length sc) (hm : ps.length ≤ 10000001) (hpl : ∀ p, p ∈ ps → p.length ≤ 10000001)
    (hR : Rwl 0 w (.slice sa ps.length sc) vl ps)
    (kk : ∀ (a' : Act) (w' : World), a'.tmps.size = 232 → (∀ t, t < 20 → a'.tmps.getD t undef = a.tmps.getD t undef) → a'.defers = a.defers → Ma w w' (.slice sa ps.length sc) vl (mps ps ps.length) → R .normal a' w') :
    (lkC Try.f3 16).wp Try.prog R a w := by
  have g15 := gI hz h15 (by decide)
  have hA := PLift.up (And.intro hR kk)
  clear hR kk
  refine wp_seq (wp_region_lit ?_)
  go_wp2
  refine wp_loop (fun a' w' => ∃ k : Nat, k ≤ ps.length ∧ a'.tmps.size = 232 ∧ (∀ t, t < 20 → a'.tmps.getD t undef = a.tmps.getD t undef) ∧ a'.tmps.getD 128 undef = .int .i64 (ps.length : Int) ∧ a'.tmps.getD 129 undef = .int .i64 (k : Int) ∧ a'.defers = a.defers ∧ Ma w w' (.slice sa ps.length sc) vl (mps ps k))
    (fun a' _ => ps.length - (intOf (a'.tmps.getD 129 undef)).toNat) ?_ ?_
  · refine ⟨0, Nat.zero_le _, by simp [hz], fun t ht => ?_, ?_, ?_, rfl, ⟨rfl, rfl, rfl, Nat.le_refl _, fun q _ _ => rfl, by rw [mps_zero]; exact hA.down.1⟩⟩
    · dsimp only
      rw [gset_ne (by omega), gset_ne (by omega), gset_ne (by omega)]
    · dsimp only
      rw [gset_ne (by omega), gset_eq (by simp [hz])]
    · dsimp only
      rw [gset_eq (by simp [hz])]; rfl
  · rintro a' w' ⟨k, hk, hz', hsame, h128, h129, hd, hM⟩
    have h15' := (hsame 15 (by decide)).trans h15
    by_cases hlt : k < ps.length
    · refine mark_round hz' h15' h128 h129 hlt hm hpl hM fun a2 w2 hz2 hs2 e129 hd2 hM2 => ?_
      refine ⟨⟨k + 1, hlt, hz2, fun t ht => (hs2 t (by omega) (by omega) (by omega)).trans (hsame t ht), (hs2 128 (by decide) (by decide) (by decide)).trans h128, by rw [e129]; rfl, hd2.trans hd, hM2⟩, ?_⟩
      rw [e129, h129]
      simp only [intOf]; omega
    · obtain rfl : k = ps.length := by omega
      have g128 := gI hz' h128 (by decide)
      have g129 := gI hz' h129 (by decide)
      refine wp_seq (wp_region_lit ?_)
      go_wp2
      refine wp_cond_false (by rw [eval_tmp]; dsimp only; rw [gset_eq (by simp [hz'])]) ?_
      go_wp2
      refine hA.down.2 _ w' (by simp [hz']) (fun t ht => ?_) (by first | rfl | exact hd) hM
      dsimp only
      rw [gset_ne (by omega)]
      exact hsame t ht
end Go.Proofs.Ytjfbkegdnljfjaa
