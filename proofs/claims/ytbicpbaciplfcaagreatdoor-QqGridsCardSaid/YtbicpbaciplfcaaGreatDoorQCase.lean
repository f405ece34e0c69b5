/-
  surdlaw08: what the laws are handed, opened.
-/
import Derived.Test.YtbicpbaciplfcaaGreatDoorQArgs
import Derived.Test.YtbicpbaciplfcaaGreatDoorDoor
namespace Go.Proofs.YtbicpbaciplfcaaGreatDoor
open Go Go.ChangeShapes Go.WideShapes Go.ChangeAt Go.RowKit Ab
set_option linter.unusedSimpArgs false
set_option linter.unusedVariables false
set_option maxHeartbeats 10000000
abbrev QCase : List V → Nat → Prop := QSt10 QRat QRat QRat QZ QZ (QInt .i64) (QInt .i64) (QInt .i64) QRats QStr
theorem opens_case {H : Type} {enc : TypeId × Value → H} {w : World} : Opens enc Tryz.prog w 30 QCase :=
  opens_case10 Tryz.underlying30 rfl rfl rfl rfl rfl rfl rfl rfl rfl rfl (by kernel_rfl) (by kernel_rfl) (by kernel_rfl) (by kernel_rfl) (by kernel_rfl) (by kernel_rfl) (by kernel_rfl) (by kernel_rfl) (by kernel_rfl) (by kernel_rfl) (by kernel_rfl)
    opens_rat opens_rat opens_rat opens_z opens_z (opens_int Tryz.underlying3) (opens_int Tryz.underlying3) (opens_int Tryz.underlying3) opens_rats (opens_string Tryz.underlying9)
structure QIs (a0 d0 a1 d1 a2 d2 a3 a4 : List Nat) (n m k : Int) (l : List (Bool × List Nat × List Nat)) : Prop where
  a0 : Wd a0
  d0 : Wd d0
  a1 : Wd a1
  d1 : Wd d1
  a2 : Wd a2
  d2 : Wd d2
  a3 : Wd a3
  a4 : Wd a4
  n1 : -9223372036854775808 ≤ n
  n2 : n < 9223372036854775808
  m1 : -9223372036854775808 ≤ m
  m2 : m < 9223372036854775808
  k1 : -9223372036854775808 ≤ k
  k2 : k < 9223372036854775808
  l : ∀ p, p ∈ l → Wd p.2.1 ∧ Wd p.2.2
theorem QCase_L {xs : List V} {n : Nat} (h : QCase xs n) : ∃ (s0 s1 s2 s3 s4 : Bool) (a0 d0 a1 d1 a2 d2 a3 a4 : List Nat) (i m k : Int) (l : List (Bool × List Nat × List Nat)) (st : List UInt8),
    V.g xs = caseV s0 s1 s2 s3 s4 a0 d0 a1 d1 a2 d2 a3 a4 i m k l st ∧ QIs a0 d0 a1 d1 a2 d2 a3 a4 i m k l := by
  obtain ⟨x1, x2, x3, x4, x5, x6, x7, x8, x9, x10, n1, n2, n3, n4, n5, n6, n7, n8, n9, n10, rfl, q1, q2, q3, q4, q5, ⟨i, rfl, wi1, _⟩, ⟨m, rfl, wm1, _⟩, ⟨k, rfl, wk1, _⟩, q9, ⟨st, rfl, _⟩, _⟩ := h
  obtain ⟨s0, a0, d0, rfl, wa0, wd0, _⟩ := QRat_L q1
  obtain ⟨s1, a1, d1, rfl, wa1, wd1, _⟩ := QRat_L q2
  obtain ⟨s2, a2, d2, rfl, wa2, wd2, _⟩ := QRat_L q3
  obtain ⟨s3, a3, e3, wa3, _⟩ := QZ_L q4
  obtain ⟨s4, a4, e4, wa4, _⟩ := QZ_L q5
  obtain ⟨l, rfl, _, hl⟩ := QRats_L q9
  injection e3 with e3
  injection e4 with e4
  subst e3 e4
  have hi := wf64 wi1
  have hm := wf64 wm1
  have hk := wf64 wk1
  exact ⟨s0, s1, s2, s3, s4, a0, d0, a1, d1, a2, d2, a3, a4, i, m, k, l, st, rfl, wa0, wd0, wa1, wd1, wa2, wd2, wa3, wa4, hi.1, hi.2, hm.1, hm.2, hk.1, hk.2, fun p hp => ⟨(hl p hp).1, (hl p hp).2.1⟩⟩
end Go.Proofs.YtbicpbaciplfcaaGreatDoor
