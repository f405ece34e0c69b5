/-
  lex: what the laws are handed.
-/
import Derived.Test.YtjfbkegdnljfjaaGI
import Derived.Test.YtjfbkegdnljfjaaL5
namespace Go.Proofs.Ytjfbkegdnljfjaa
open Go Go.ChangeShapes Go.WideShapes Go.ChangeAt Go.RowKit Ab
set_option linter.unusedSimpArgs false
set_option linter.unusedVariables false
set_option maxHeartbeats 10000000
theorem own : ownKnob Try.prog.godebug = none := by kernel_rfl
theorem laid : laidOutB Try.prog = true := by kernel_rfl
theorem opens_str {H : Type} {enc : TypeId × Value → H} {w : World} : Opens enc Try.prog w 9 QStr := opens_string Try.underlying9
theorem opens_int64 {H : Type} {enc : TypeId × Value → H} {w : World} : Opens enc Try.prog w 3 (QInt .i64) := opens_int Try.underlying3
abbrev QTok : List V → Nat → Prop := QSt3 (QInt .i64) QStr (QInt .i64)
theorem opens_tok {H : Type} {enc : TypeId × Value → H} {w : World} : Opens enc Try.prog w 47 QTok :=
  opens_struct3 (s1 := 1) (s2 := 1) (s3 := 1) Try.underlying47 rfl rfl rfl (by kernel_rfl) (by kernel_rfl) (by kernel_rfl) (by kernel_rfl) opens_int64 opens_str opens_int64
abbrev QToks : List V → Nat → Prop := QSl 3 QTok
theorem opens_toks {H : Type} {enc : TypeId × Value → H} {w : World} : Opens enc Try.prog w 22 QToks := opens_slice Try.underlying22 (by kernel_rfl) (by decide) opens_tok
theorem QToks_T {xs : List V} {n : Nat} (h : QToks xs n) : ∃ ts : List Tk, xs = [.l 3 (T ts)] ∧ ts.length ≤ n ∧ (ts.map fun x => x.t.length).sum ≤ n := by
  obtain ⟨es, rfl, he, _, rfl⟩ := h
  have key : ∀ es : List (List V × Nat), (∀ p, p ∈ es → QTok p.1 p.2 ∧ p.1.length = 3) → ∃ ts : List Tk, (es.map (·.1)).flatten = T ts ∧ ts.length ≤ (es.map (·.2)).sum ∧ (ts.map fun x => x.t.length).sum ≤ (es.map (·.2)).sum := by
    intro es
    induction es with
    | nil => intro _; exact ⟨[], rfl, Nat.zero_le _, Nat.zero_le _⟩
    | cons p r ih =>
      intro h
      obtain ⟨ts, e, la, lb⟩ := ih fun q hq => h q (List.mem_cons_of_mem _ hq)
      obtain ⟨x1, x2, x3, n1, n2, n3, hx, ⟨k, rfl, _, rfl⟩, ⟨t, rfl, _, rfl⟩, ⟨a, rfl, _, rfl⟩, hn⟩ := (h p List.mem_cons_self).1
      refine ⟨⟨k, t, a⟩ :: ts, ?_, ?_, ?_⟩
      · rw [List.map_cons, List.flatten_cons, e, hx]; rfl
      · simp only [List.length_cons, List.map_cons, List.sum_cons, hn]; omega
      · simp only [List.map_cons, List.sum_cons, hn]; omega
  obtain ⟨ts, e, la, lb⟩ := key es he
  exact ⟨ts, by rw [e], Nat.le_succ_of_le la, Nat.le_succ_of_le lb⟩
end Go.Proofs.Ytjfbkegdnljfjaa
