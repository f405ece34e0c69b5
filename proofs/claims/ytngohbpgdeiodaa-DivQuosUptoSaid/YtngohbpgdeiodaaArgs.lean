/-
  nat: what the laws are handed.
-/
import Derived.Test.YtngohbpgdeiodaaOpen
import Derived.Test.YtngohbpgdeiodaaB0
namespace Go.Proofs.Ytngohbpgdeiodaa
open Go Go.ChangeShapes Go.WideShapes Go.ChangeAt Go.RowKit Ab
set_option linter.unusedSimpArgs false
set_option linter.unusedVariables false
set_option maxHeartbeats 10000000

abbrev QNat : List V → Nat → Prop := QSl 1 (QInt .u64)
theorem opens_nat {H : Type} {enc : TypeId × Value → H} {w : World} : Opens enc Try.prog w 23 QNat := opens_slice Try.underlying23 (by kernel_rfl) Nat.zero_lt_one (opens_int Try.underlying29)
theorem QNat_W {xs : List V} {n : Nat} (h : QNat xs n) : ∃ a : List Nat, xs = [.l 1 (W a)] ∧ Wd a ∧ a.length ≤ n := by
  obtain ⟨es, rfl, he, _, rfl⟩ := h
  have key : ∀ es : List (List V × Nat), (∀ p, p ∈ es → QInt .u64 p.1 p.2 ∧ p.1.length = 1) → ∃ a : List Nat, (es.map (·.1)).flatten = W a ∧ Wd a ∧ a.length ≤ (es.map (·.2)).sum := by
    intro es
    induction es with
    | nil => intro _; exact ⟨[], rfl, Wd_nil, Nat.zero_le _⟩
    | cons p r ih =>
      intro h
      obtain ⟨a, e, wa, la⟩ := ih fun q hq => h q (List.mem_cons_of_mem _ hq)
      obtain ⟨m, hm, hw, hn⟩ := (h p List.mem_cons_self).1
      have hb : 0 ≤ m ∧ m < 18446744073709551616 := by
        simp [Lit.wf, IntKind.min, IntKind.max, IntKind.signed, IntKind.bits] at hw
        omega
      refine ⟨m.toNat :: a, ?_, fun x hx => ?_, ?_⟩
      · rw [List.map_cons, List.flatten_cons, e, hm]
        simp only [W, List.map_cons, List.singleton_append]
        rw [Int.toNat_of_nonneg hb.1]
      · rcases List.mem_cons.1 hx with rfl | hx
        · show m.toNat < 18446744073709551616; omega
        · exact wa x hx
      · simp only [List.length_cons, List.map_cons, List.sum_cons, hn]; omega
  obtain ⟨a, e, wa, la⟩ := key es he
  exact ⟨a, by rw [e], wa, Nat.le_succ_of_le la⟩
theorem wf64 {n : Int} (h : (Lit.int .i64 n).wf = true) : -9223372036854775808 ≤ n ∧ n < 9223372036854775808 := by
  simp [Lit.wf, IntKind.min, IntKind.max, IntKind.signed, IntKind.bits] at h
  omega
theorem wfu64 {n : Int} (h : (Lit.int .u64 n).wf = true) : 0 ≤ n ∧ n < 18446744073709551616 := by
  simp [Lit.wf, IntKind.min, IntKind.max, IntKind.signed, IntKind.bits] at h
  omega
theorem own : ownKnob Try.prog.godebug = none := by kernel_rfl
theorem laid : laidOutB Try.prog = true := by kernel_rfl
end Go.Proofs.Ytngohbpgdeiodaa
