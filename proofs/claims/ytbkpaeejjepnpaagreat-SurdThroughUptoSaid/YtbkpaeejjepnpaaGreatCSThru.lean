/-
  SurdThrough: the statement (where what is handed in is of bulk at most 1048576).
-/
import Derived.Test.YtbkpaeejjepnpaaGreatVP6
import Derived.Test.YtbkpaeejjepnpaaGreatPArgs
import Derived.WalkKit
namespace Go.Proofs.YtbkpaeejjepnpaaGreat
open Go Go.ChangeShapes Go.WideShapes Go.ChangeAt Go.RowKit Ab
set_option linter.unusedSimpArgs false
set_option linter.unusedVariables false
set_option maxHeartbeats 10000000
set_option maxRecDepth 100000 in
theorem surdThrough_contract (H : Type) (enc : TypeId × Value → H) (Wo : World) (base : Nat) (args : Array Value) (ds gs : List (DataW H)) (before : List MemPlace)
    (hval : ∀ (j : Nat) t v, Tryz.f4.params[j]? = some t → args[j]? = some v → Value.okWide Tryz.prog Wo .any base t v)
    (hW : DataW.Whole enc Tryz.prog Tryz.f4.params.toList Rows.surdThroughSpec.vars false Wo args.toList ds gs before) (hk : Rows.uptoSmall H (ds ++ gs) = true) :
    Calls Tryz.prog 4 args Wo fun e W' => ∃ v, e = .returned v ∧ Rows.surdThroughSpec.post enc Tryz.prog Tryz.f4 false true false false Wo args v W' := by
  refine law_contract (J := J0) (fun _ => trivial) (tj_none fun _ => rfl) laid rfl (by decide +kernel) rfl Tryz.underlying4 [(23, false, QRats), (22, false, QRats), (31, true, QRat)] rfl ⟨⟨opens_qp, rfl⟩, ⟨opens_rats, rfl⟩, ⟨opens_rat, rfl⟩, trivial⟩ (fun ds h => match ds, h with | [_, _, _], _ => rfl) hval hW fun av n hq hn => ?_
  obtain ⟨a0, av0, x0, n0, m0, rfl, h0, e0, hq, rfl⟩ := hq
  replace e0 : x0 = [a0] := e0
  subst e0
  obtain ⟨a1, av1, x1, n1, m1, rfl, h1, e1, hq, rfl⟩ := hq
  replace e1 : x1 = [a1] := e1
  subst e1
  obtain ⟨a2, av2, x2, n2, m2, rfl, h2, e2, hq, rfl⟩ := hq
  replace e2 : a2 = .g x2 := e2
  subst e2
  obtain ⟨rfl, rfl⟩ := hq
  have hsm : Rows.uptoBulkAll (ds ++ gs) ≤ 1048576 := by simpa only [Rows.uptoSmall, decide_eq_true_eq] using hk
  obtain ⟨l0, e0, a0, b0⟩ := QPs_L h0
  cases e0
  obtain ⟨l1, e1, a1, b1⟩ := QPs_L h1
  cases e1
  obtain ⟨s, a, d, e2, wa, wd, la⟩ := QRat_L2 h2
  subst e2
  exact surdThrough_spec l0 l1 s a d 1048577 (by decide) (by omega) (by omega) (by omega) (fun p hp => by obtain ⟨u1, u2, u3, u4⟩ := b0 p hp; exact ⟨u1, u2, by omega, by omega⟩) (fun p hp => by obtain ⟨u1, u2, u3, u4⟩ := b1 p hp; exact ⟨u1, u2, by omega, by omega⟩) wa wd
set_option maxRecDepth 100000 in
theorem surdThrough_lifted (os : Os) (started : os.Started) (H : Type) (enc : TypeId × Value → H) (F : Stop.Interp) :
    ReturnsInHanded {} Tryz.checked os 4 .any ((Rows.OpenSpec.upto Rows.surdThroughSpec).pre6 enc Tryz.prog Tryz.f4 Rows.surdThroughUptoRow.domain false) (((Rows.OpenSpec.upto Rows.surdThroughSpec).at F).post enc Tryz.prog Tryz.f4 false true false false) := by
  refine returnsInHanded_of_cond (C := Tryz.checked) (s := Rows.OpenSpec.upto Rows.surdThroughSpec) (k := Rows.uptoSmall) rfl own started (by kernel_rfl) Tryz.func4
    (OpenSpec.witness (enc := enc) (C := Tryz.checked) (s := Rows.OpenSpec.upto Rows.surdThroughSpec) (k := Rows.uptoSmall) rfl false ⟨#[], #[.slice none 0 0, .slice none 0 0, .agg #[.bool false, .slice none 0 0, .slice none 0 0]], []⟩ 8 (by kernel_rfl) (by kernel_rfl) (by kernel_rfl)
      (x := ([.nil, .nil, .agg [.agg [.lit (.bool false), .nil], .nil]], [], [])) (by kernel_rfl) rfl (by kernel_rfl)) ?_
  intro Wo base args ds gs before hval hW _ hk _
  exact surdThrough_contract H enc Wo base args ds gs before hval hW hk
theorem surdThrough_over : Rows.surdThroughUptoRow.holds Tryz.pinned (Rows.OpenSpec.upto Rows.surdThroughSpec) :=
  OpenClaim.holds_of_cond 4 Tryz.f4 rfl rfl rfl rfl rfl rfl rfl ⟨rfl, rfl, rfl, rfl, rfl⟩ rfl rfl rfl rfl rfl (by kernel_rfl) Tryz.func4 (by kernel_rfl)
    (of_decide_eq_true (by kernel_rfl)) (by unfold Func.isWrapper; first | (rw [if_pos (by decide +kernel)]; kernel_rfl) | (rw [if_neg (by decide +kernel)]; exact ⟨rfl, rfl⟩))
    (fun os started H enc _ F => surdThrough_lifted os started H enc F)
theorem surdThrough_proved : Rows.SurdThroughUptoSaid := surdThrough_over
end Go.Proofs.YtbkpaeejjepnpaaGreat
