/-
  Laws whose rows lay tables: what the row's list gives.
-/
import Derived.Test.YtgejbndgakgfnaaGreatDoorGI
import Derived.Test.YtgejbndgakgfnaaGreatDoorCards
import Derived.Test.YtgejbndgakgfnaaGreatDoorTie
import Derived.Deep.DeepHandedRow
import Derived.Lib.LaidTab
namespace Go.Proofs.YtgejbndgakgfnaaGreatDoor
open Go Go.RowKit Ab
set_option linter.unusedSimpArgs false
set_option linter.unusedVariables false
set_option maxHeartbeats 10000000
theorem laid_var {P : Program} {w : World} {n : String} {d : DataW Unit} : ∀ {l : List (String × DataW Unit)} {ps : List MemPlace}, DataW.LaidVars P w l ps → (n, d) ∈ l →
    ∃ g t cs fuel p, P.globalNamed n = some g ∧ (P.globals[g]?).map (·.type) = some t ∧ w.var? P n = some cs ∧ DataW.trod (fun _ => ()) P w 0 (fun _ => true) false fuel t cs.toList = some (d, p)
  | [], ps, _, h => by cases h
  | (m, e) :: r, ps, h, hm => by
    obtain ⟨g, t, cs, fuel, p, q, h1, h2, h3, h4, h5, _⟩ := h
    rcases List.mem_cons.1 hm with e1 | hm
    · cases e1; exact ⟨g, t, cs, fuel, p, h1, h2, h3, h4⟩
    · exact laid_var h5 hm
theorem laid_tab {P : Program} {W : World} {name : String} {k : IntKind} {zs : List Int} {l : List (String × DataW Unit)} {g : Nat} {t e : TypeId} {n : Nat}
    (hg : P.globalNamed name = some g) (hty : (P.globals[g]?).map (·.type) = some t) (ht : P.underlying t = some (.array n e)) (he : P.underlying e = some (.int k)) (hce : P.cellsOf e = 1) (hct : P.cellsOf t = n)
    (h : laidMet P l W) (hm : (name, Lib.tabData k zs) ∈ l) (hz : zs ≠ []) :
    g < W.heap.size ∧ ∀ (j : Nat) (x : V), (zs.map fun n => V.i k n)[j]? = some x → ∃ v, W.cell? ⟨g, j, none⟩ = some v ∧ Rep0 W (fun b => b < W.heap.size) v x := by
  obtain ⟨ps, h1, _⟩ := h
  obtain ⟨g', t', cs, fuel, p, hg', ht', hvar, hd⟩ := laid_var h1 hm
  obtain rfl := Option.some.inj (hg.symm.trans hg')
  obtain rfl := Option.some.inj (hty.symm.trans ht')
  have hcs := Lib.cells_of_tab ht he hce hct hd
  have htab : Lib.TabIs P W name k zs := by
    unfold Lib.TabIs
    rw [hvar, ← hcs]
  refine ⟨?_, fun j x hx => ?_⟩
  · have h0 := htab.cell hg 0 (List.length_pos_iff.2 hz)
    rcases Nat.lt_or_ge g W.heap.size with h3 | h3
    · exact h3
    · have h5 : W.heap[g]? = none := by simp [h3]
      simp [World.cell?, h5] at h0
  · simp only [List.getElem?_map, Option.map_eq_some_iff] at hx
    obtain ⟨z, hz', rfl⟩ := hx
    have hj : j < zs.length := (List.getElem?_eq_some_iff.1 hz').1
    refine ⟨_, htab.cell hg j hj, ?_⟩
    rw [List.getD_eq_getElem?_getD, hz']
    exact .i _ _
theorem tj_laid {W : World} {l : List (String × DataW Unit)} (h : laidMet Tryz.prog l W) (m0 : ("surd/radix.signs", Lib.tabData .u8 tabi_0) ∈ l) : TJ W (fun b => b < W.heap.size) := fun g cs hg => by
  unfold tabs at hg
  by_cases h0 : g = 0
  · subst h0
    simp only [Nat.reduceEqDiff, if_true, if_false, Option.some.injEq] at hg
    subst hg
    exact laid_tab (by kernel_rfl) (by kernel_rfl) Tryz.underlying107 Tryz.underlying5 (by kernel_rfl) (by kernel_rfl) h m0 (by unfold tabi_0; exact List.cons_ne_nil _ _)
  simp only [h0, if_false] at hg
  cases hg
end Go.Proofs.YtgejbndgakgfnaaGreatDoor
