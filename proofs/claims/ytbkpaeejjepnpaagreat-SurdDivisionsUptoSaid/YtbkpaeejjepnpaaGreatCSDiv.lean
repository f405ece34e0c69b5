/-
  SurdDivisions: the statement (where what is handed in is of bulk at most 1048576).
-/
import Derived.Test.YtbkpaeejjepnpaaGreatQP9
import Derived.Test.YtbkpaeejjepnpaaGreatPArgs
import Derived.WalkKit
namespace Go.Proofs.YtbkpaeejjepnpaaGreat
open Go Go.ChangeShapes Go.WideShapes Go.ChangeAt Go.RowKit Ab
set_option linter.unusedSimpArgs false
set_option linter.unusedVariables false
set_option maxHeartbeats 10000000
set_option maxRecDepth 100000 in
theorem surdDivisions_contract (H : Type) (enc : TypeId × Value → H) (Wo : World) (base : Nat) (args : Array Value) (ds gs : List (DataW H)) (before : List MemPlace)
    (hval : ∀ (j : Nat) t v, Tryz.f3.params[j]? = some t → args[j]? = some v → Value.okWide Tryz.prog Wo .any base t v)
    (hW : DataW.Whole enc Tryz.prog Tryz.f3.params.toList Rows.surdDivisionsSpec.vars false Wo args.toList ds gs before) (hk : Rows.uptoSmall H (ds ++ gs) = true) :
    Calls Tryz.prog 3 args Wo fun e W' => ∃ v, e = .returned v ∧ Rows.surdDivisionsSpec.post enc Tryz.prog Tryz.f3 false true false false Wo args v W' := by
  refine law_contract (J := J0) (fun _ => trivial) (tj_none fun _ => rfl) laid rfl (by decide +kernel) rfl Tryz.underlying4 [(23, false, QRats), (23, false, QRats)] rfl ⟨⟨opens_qp, rfl⟩, ⟨opens_qp, rfl⟩, trivial⟩ (fun ds h => match ds, h with | [_, _], _ => rfl) hval hW fun av n hq hn => ?_
  obtain ⟨a0, av0, x0, n0, m0, rfl, h0, e0, hq, rfl⟩ := hq
  replace e0 : x0 = [a0] := e0
  subst e0
  obtain ⟨a1, av1, x1, n1, m1, rfl, h1, e1, hq, rfl⟩ := hq
  replace e1 : x1 = [a1] := e1
  subst e1
  obtain ⟨rfl, rfl⟩ := hq
  have hsm : Rows.uptoBulkAll (ds ++ gs) ≤ 1048576 := by simpa only [Rows.uptoSmall, decide_eq_true_eq] using hk
  obtain ⟨l0, e0, a0, b0⟩ := QPs_L h0
  cases e0
  obtain ⟨l1, e1, a1, b1⟩ := QPs_L h1
  cases e1
  exact surdDivisions_spec l0 l1 1048577 (by decide) (by omega) (by omega) (by omega) (fun p hp => by obtain ⟨u1, u2, u3, u4⟩ := b0 p hp; exact ⟨u1, u2, by omega, by omega⟩) (fun p hp => by obtain ⟨u1, u2, u3, u4⟩ := b1 p hp; exact ⟨u1, u2, by omega, by omega⟩)
set_option maxRecDepth 100000 in
theorem surdDivisions_lifted (os : Os) (started : os.Started) (H : Type) (enc : TypeId × Value → H) (F : Stop.Interp) :
    ReturnsInHanded {} Tryz.checked os 3 .any ((Rows.OpenSpec.upto Rows.surdDivisionsSpec).pre6 enc Tryz.prog Tryz.f3 Rows.surdDivisionsUptoRow.domain false) (((Rows.OpenSpec.upto Rows.surdDivisionsSpec).at F).post enc Tryz.prog Tryz.f3 false true false false) := by
  refine returnsInHanded_of_cond (C := Tryz.checked) (s := Rows.OpenSpec.upto Rows.surdDivisionsSpec) (k := Rows.uptoSmall) rfl own started (by kernel_rfl) Tryz.func3
    (OpenSpec.witness (enc := enc) (C := Tryz.checked) (s := Rows.OpenSpec.upto Rows.surdDivisionsSpec) (k := Rows.uptoSmall) rfl false ⟨#[], #[.slice none 0 0, .slice none 0 0], []⟩ 8 (by kernel_rfl) (by kernel_rfl) (by kernel_rfl)
      (x := ([.nil, .nil], [], [])) (by kernel_rfl) rfl (by kernel_rfl)) ?_
  intro Wo base args ds gs before hval hW _ hk _
  exact surdDivisions_contract H enc Wo base args ds gs before hval hW hk
theorem surdDivisions_over : Rows.surdDivisionsUptoRow.holds Tryz.pinned (Rows.OpenSpec.upto Rows.surdDivisionsSpec) :=
  OpenClaim.holds_of_cond 3 Tryz.f3 rfl rfl rfl rfl rfl rfl rfl ⟨rfl, rfl, rfl, rfl, rfl⟩ rfl rfl rfl rfl rfl (by kernel_rfl) Tryz.func3 (by kernel_rfl)
    (of_decide_eq_true (by kernel_rfl)) (by unfold Func.isWrapper; first | (rw [if_pos (by decide +kernel)]; kernel_rfl) | (rw [if_neg (by decide +kernel)]; exact ⟨rfl, rfl⟩))
    (fun os started H enc _ F => surdDivisions_lifted os started H enc F)
theorem surdDivisions_proved : Rows.SurdDivisionsUptoSaid := surdDivisions_over
end Go.Proofs.YtbkpaeejjepnpaaGreat
