/-
  From a walk's end to a law's statement: it answers true, what was handed in reads as it did.
-/
import Derived.Test.YtngohbpgdeiodaaAb15
import Derived.ProofKit
import Derived.OpenShut
import Derived.JoinedCond
import Derived.Carry
import Derived.ChangeSlices
namespace Go.Proofs.Ytngohbpgdeiodaa
open Go Go.ChangeShapes Go.WideShapes Go.ChangeAt Go.RowKit Ab
set_option linter.unusedSimpArgs false
set_option linter.unusedVariables false
set_option maxHeartbeats 10000000

theorem trodAll_below {H : Type} {enc : TypeId × Value → H} {P : Program} (hl : laidOutB P = true) {W W' : World} (hb : Below W.heap.size W W') :
    ∀ {ts : List TypeId} {vs : List Value} {ds : List (DataW H)} {ps : List MemPlace}, (∀ t, t ∈ ts → P.readableRec t = true ∧ t < P.types.size) → DataW.TrodAll enc P W 0 (fun _ => true) true ts vs ds ps → (∀ x, x ∈ ps → x.block < W.heap.size) →
      DataW.TrodAll enc P W' 0 (fun b => decide (b < W.heap.size)) true ts vs ds ps
  | [], vs, ds, ps, _, h, _ => by
    obtain ⟨rfl, rfl, rfl⟩ := trodAll_nil h
    exact trodAll_mk0
  | t :: ts, vs, ds, ps, hr, h, hlt => by
    obtain ⟨v0, vs0, d0, ds0, p0, q0, rfl, rfl, rfl, h0, r0⟩ := trodAll_cons h
    have h1 := Below.trod hl (hr t List.mem_cons_self).1 (hr t List.mem_cons_self).2 h0 hb fun x hx => hlt x (List.mem_append_left _ hx)
    have h2 := trodAll_below hl hb (fun t ht => hr t (List.mem_cons_of_mem _ ht)) r0 fun x hx => hlt x (List.mem_append_right _ hx)
    exact trodAll_cons_mk h1 h2

theorem post_true {H : Type} {enc : TypeId × Value → H} {P : Program} {f : Func} {s : ChangeSpec} {W W' : World} {args : Array Value} {ds gs : List (DataW H)} {before : List MemPlace} {t : TypeId}
    (hl : laidOutB P = true) (hv : s.vars = []) (hp : ∀ t, t ∈ f.params.toList → P.readableRec t = true ∧ t < P.types.size) (hrt : f.resultTypes = #[t]) (ht : P.underlying t = some .bool)
    (hW : DataW.Whole enc P f.params.toList s.vars false W args.toList ds gs before) (hfn : s.fn H (ds ++ gs) = { results := [.lit (.bool true)], args := ds }) (hb : Below W.heap.size W W') :
    s.post enc P f false true false false W args (.bool true) W' := by
  have hlt := hW.lt
  have hW2 := hW
  obtain ⟨p, q, hA, hV, rfl, _, _⟩ := hW2
  rw [hv] at hV
  obtain ⟨rfl, rfl⟩ := trodVars_none hV
  refine ⟨ds, [], p ++ [], [], p, [], hW, ?_, ?_, ?_, ?_, fun h => by cases h⟩
  · rw [hfn, hrt]
    exact trodAll_cons_mk (shut_bool ht _) trodAll_mk0
  · rw [hfn]
    exact trodAll_below hl hb hp hA fun x hx => hlt x (List.mem_append_left _ hx)
  · rw [hfn, hv]
    exact hV
  · exact hb.frame _

/-- Numbers of a kind, as values. -/
def Nums (k : IntKind) (zs : List Int) : List V := zs.map fun n => .i k n

/-- A slice of numbers that is handed in: what it reads as. -/
theorem open_nums {H : Type} {enc : TypeId × Value → H} {P : Program} {w : World} {t e : TypeId} {k : IntKind} {v : Value} {d : DataW H} {ps : List MemPlace} (ht : P.underlying t = some (.slice e)) (he : P.underlying e = some (.int k)) (hc : P.cellsOf e = 1)
    (hok : ∃ a len cap, v = .slice a len cap) (h : DataW.Trod enc P w 0 (fun _ => true) true t v d ps) (hlt : ∀ x, x ∈ ps → x.block < w.heap.size) :
    ∃ zs : List Int, Rep0 w (fun b => b < w.heap.size) v (.l 1 (Nums k zs)) ∧ (∀ n, n ∈ zs → (Lit.int k n).wf = true) ∧ (d = .nil ∧ zs = [] ∨ ∃ l : List Int, d = .slice (lits k zs) (lits k l)) := by
  obtain ⟨a0, len0, cap0, rfl⟩ := hok
  obtain ⟨fuel, hf⟩ := h
  have e1 : (Value.slice a0 len0 cap0).cells.toList = [.slice a0 len0 cap0] := rfl
  rw [e1] at hf
  rcases open_ints ht he hc hf with ⟨h1, h2⟩ | ⟨a, len, cap, zs, h1, _, hl, hm, hz, h2, hcell, hw⟩
  · simp only [List.cons.injEq, and_true] at h1
    cases h1
    refine ⟨[], .l none 0 0 1 [] (fun _ => undef) 0 0 Nat.zero_lt_one rfl (Nat.zero_le _) (Nat.le_refl _) (.inl rfl) (fun j hj => (by cases hj)) (fun j x hx => (by cases hx)), fun n hn => (by cases hn), .inl ⟨congrArg Prod.fst h2, rfl⟩⟩
  · simp only [List.cons.injEq, and_true] at h1
    cases h1
    simp only [if_true] at hz
    have hd : d = .slice (lits k (zs.take len0)) (lits k (zs.drop len0)) := congrArg Prod.fst h2
    have hps : ps = MemPlace.row a zs.length := congrArg Prod.snd h2
    rcases Nat.eq_zero_or_pos len0 with h0 | h0
    · subst h0
      refine ⟨[], .l _ 0 cap0 1 [] (fun _ => undef) 0 0 Nat.zero_lt_one rfl (Nat.zero_le _) (Nat.zero_le _) (.inl rfl) (fun j hj => (by cases hj)) (fun j x hx => (by cases hx)), fun n hn => (by cases hn), .inr ⟨zs, ?_⟩⟩
      rw [hd]; rfl
    · obtain ⟨b, off, rfl, hcell'⟩ : ∃ b off, a = ⟨b, off, none⟩ ∧ ∀ j, j < zs.length → w.cell? ⟨b, off + j, none⟩ = some (.int k (zs.getD j 0)) := by
        exact ints_at hcell (by omega)
      have hb : b < w.heap.size := by
        rcases Nat.lt_or_ge b w.heap.size with h3 | h3
        · exact h3
        · have h4 := hcell' 0 (by omega)
          have h5 : w.heap[b]? = none := by simp [h3]
          simp [World.cell?, h5] at h4
      refine ⟨zs.take len0, .l _ len0 cap0 1 (Nums k (zs.take len0)) (fun j => .int k (zs.getD j 0)) b off Nat.zero_lt_one ?_ (by omega) hl (.inr ⟨rfl, hb⟩) (fun j hj => ?_) (fun j x hx => ?_), fun n hn => hw n (List.mem_of_mem_take hn), .inr ⟨zs.drop len0, hd⟩⟩
      · simp [Nums]; omega
      · simp [Nums] at hj; exact hcell' j (by omega)
      · simp only [Nums, List.getElem?_map, Option.map_eq_some_iff] at hx
        obtain ⟨n, hn, rfl⟩ := hx
        have : zs.getD j 0 = n := by
          rw [List.getElem?_take] at hn
          split at hn
          · rw [List.getD_eq_getElem?_getD, hn]; rfl
          · cases hn
        rw [this]; exact .i _ _
end Go.Proofs.Ytngohbpgdeiodaa
