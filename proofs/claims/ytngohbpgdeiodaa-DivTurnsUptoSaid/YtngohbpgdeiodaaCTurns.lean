/-
  DivTurns: the statement (where what is handed in is of bulk at most 1048576).
-/
import Derived.Test.YtngohbpgdeiodaaLTurns
import Derived.Test.YtngohbpgdeiodaaGI
import Derived.WalkKit
namespace Go.Proofs.Ytngohbpgdeiodaa
open Go Go.ChangeShapes Go.WideShapes Go.ChangeAt Go.RowKit Ab
set_option linter.unusedSimpArgs false
set_option linter.unusedVariables false
set_option maxHeartbeats 10000000
abbrev QTurn : List V → Nat → Prop := QSt5 QNat QNat QNat QNat QNat
theorem opens_turn {H : Type} {enc : TypeId × Value → H} {w : World} : Opens enc Try.prog w 49 QTurn :=
  opens_struct5 Try.underlying49 rfl rfl rfl rfl rfl (by kernel_rfl) (by kernel_rfl) (by kernel_rfl) (by kernel_rfl) (by kernel_rfl) (by kernel_rfl) opens_nat opens_nat opens_nat opens_nat opens_nat
set_option maxRecDepth 100000 in
theorem divTurns_contract (H : Type) (enc : TypeId × Value → H) (Wo : World) (base : Nat) (args : Array Value) (ds gs : List (DataW H)) (before : List MemPlace)
    (hval : ∀ (j : Nat) t v, Try.f8.params[j]? = some t → args[j]? = some v → Value.okWide Try.prog Wo .any base t v)
    (hW : DataW.Whole enc Try.prog Try.f8.params.toList Rows.divTurnsSpec.vars false Wo args.toList ds gs before) (hk : Rows.uptoSmall H (ds ++ gs) = true) :
    Calls Try.prog 8 args Wo fun e W' => ∃ v, e = .returned v ∧ Rows.divTurnsSpec.post enc Try.prog Try.f8 false true false false Wo args v W' := by
  refine law_contract (J := J0) (fun _ => trivial) laid rfl (by decide +kernel) rfl Try.underlying4 [(49, true, QTurn)] rfl ⟨⟨opens_turn, rfl⟩, trivial⟩ (fun ds h => match ds, h with | [_], _ => rfl) hval hW fun av n hq hn => ?_
  obtain ⟨a0, av0, x0, n0, m0, rfl, h0, e0, hq, rfl⟩ := hq
  replace e0 : a0 = .g x0 := e0
  subst e0
  obtain ⟨rfl, rfl⟩ := hq
  have hsm : Rows.uptoBulkAll (ds ++ gs) ≤ 1048576 := by simpa only [Rows.uptoSmall, decide_eq_true_eq] using hk
  obtain ⟨x1, x2, x3, x4, x5, n1, n2, n3, n4, n5, rfl, q1, q2, q3, q4, q5, hn⟩ := h0
  obtain ⟨a, e1, wa, la⟩ := QNat_W q1
  obtain ⟨b, e2, wb, lb⟩ := QNat_W q2
  obtain ⟨m, e3, wm, lm⟩ := QNat_W q3
  obtain ⟨e, e4, we, le⟩ := QNat_W q4
  obtain ⟨f, e5, wf, lf'⟩ := QNat_W q5
  cases e1; cases e2; cases e3; cases e4; cases e5
  exact divTurns_spec a b m e f 1048576 (by decide) wa wb wm we wf (by omega) (by omega) (by omega) (by omega) (by omega)
set_option maxRecDepth 100000 in
theorem divTurns_lifted (os : Os) (started : os.Started) (H : Type) (enc : TypeId × Value → H) (F : Stop.Interp) :
    ReturnsInHanded {} Try.checked os 8 .any ((Rows.OpenSpec.upto Rows.divTurnsSpec).pre6 enc Try.prog Try.f8 Rows.divTurnsUptoRow.domain false) (((Rows.OpenSpec.upto Rows.divTurnsSpec).at F).post enc Try.prog Try.f8 false true false false) := by
  refine returnsInHanded_of_cond (C := Try.checked) (s := Rows.OpenSpec.upto Rows.divTurnsSpec) (k := Rows.uptoSmall) rfl own started (by kernel_rfl) Try.func8
    (OpenSpec.witness (enc := enc) (C := Try.checked) (s := Rows.OpenSpec.upto Rows.divTurnsSpec) (k := Rows.uptoSmall) rfl false ⟨#[], #[.agg #[.slice none 0 0, .slice none 0 0, .slice none 0 0, .slice none 0 0, .slice none 0 0]], []⟩ 8 (by kernel_rfl) (by kernel_rfl) (by kernel_rfl)
      (x := ([.agg [.nil, .nil, .nil, .nil, .nil]], [], [])) (by kernel_rfl) rfl (by kernel_rfl)) ?_
  intro Wo base args ds gs before hval hW _ hk _
  exact divTurns_contract H enc Wo base args ds gs before hval hW hk
theorem divTurns_over : Rows.divTurnsUptoRow.holds Try.pinned (Rows.OpenSpec.upto Rows.divTurnsSpec) :=
  OpenClaim.holds_of_cond 8 Try.f8 rfl rfl rfl rfl rfl rfl rfl ⟨rfl, rfl, rfl, rfl, rfl⟩ rfl rfl rfl rfl rfl (by kernel_rfl) Try.func8 (by kernel_rfl)
    (of_decide_eq_true (by kernel_rfl)) (by unfold Func.isWrapper; first | (rw [if_pos (by decide +kernel)]; kernel_rfl) | (rw [if_neg (by decide +kernel)]; exact ⟨rfl, rfl⟩))
    (fun os started H enc _ F => divTurns_lifted os started H enc F)
theorem divTurns_proved : Rows.DivTurnsUptoSaid := divTurns_over
end Go.Proofs.Ytngohbpgdeiodaa
