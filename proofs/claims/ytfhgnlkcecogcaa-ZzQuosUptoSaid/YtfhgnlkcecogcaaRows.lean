/-
  No cell of these rows narrows 'for every input' (looked for: loops, veiled, ifaces, maps, wideKeys, modest, calm, conditions, laid).
  DERIVED. THE GIVEN ROWS OF THIS SEAT. 3 by the template 'for every input the law returns true; each argument reads behind the call as it read before'; 0 by the template 'total and deterministic' (their statements: YtfhgnlkcecogcaaTotals.lean).
  GIVEN WITH THE SEED: the statements are not yours to turn. If you find one false, say at which input.
  Laid BY PROGRAM, IN A SANDBOX (cutbox-rows.mjs): the forced cells as the released guide's own fill.sh prints them over the translation cd02c921fc6dcdcd… (all of the seat's roots in one cut). By AI agents, Wed Nov 11 2026. No macro, syntax, notation, axiom, sorry.
-/
import Derived.Test.YtfhgnlkcecogcaaChecked
import GoSem.Claim
import GoSem.ClaimJoined
import GoSem.ClaimMapViews
import Derived.JoinedTies
import Derived.KernelRfl
namespace Go.Proofs.Ytfhgnlkcecogcaa
/- THE CELL 'sum', in the pinned program and in every row, IS THE sha256 OF THE DUMP (.gsa) THAT YtfhgnlkcecogcaaProg.lean LOADS. Nothing in Lean hashes anything: it is a label: what it is worth is what the hold of that sum in a sandbox is worth. -/
noncomputable def Try.pinned : Pinned := { name := "ytfhgnlkcecogcaa", sum := "cd02c921fc6dcdcd48b17c9aa88fedc75a287a0c0f4e98b0052bdd353cb052ff", checked := Try.checked }
namespace Rows
def none {H : Type} : Left H := { results := [], args := [] }

/-- 'surdlaw07.ZzGcds': WHATEVER THE INPUT: true; the input reads as it did. -/
def zzGcdsSpec : ChangeSpec := { name := "zzGcds", fn := fun _ => fun
  | [d] => { results := [.lit (.bool true)], args := [d] }
  | _ => none }
def zzGcdsRow : OpenClaim := { program := "ytfhgnlkcecogcaa", sum := "cd02c921fc6dcdcd48b17c9aa88fedc75a287a0c0f4e98b0052bdd353cb052ff", func := "surd/surdlaw07.ZzGcds", spec := "zzGcds", inPlace := ["math/bits.Add64", "math/bits.Sub64"], named := ["math/bits.divideError", "math/bits.overflowError"], apart := false }
def ZzGcdsSaid : Prop := zzGcdsRow.holds Try.pinned (OpenSpec.ofChange zzGcdsSpec)

/-- ITS FALSE NEIGHBOUR: 'it returns false'. Refute it at one input. -/
def zzGcdsWrong : ChangeSpec := { name := "zzGcds", fn := fun _ => fun
  | [d] => { results := [.lit (.bool false)], args := [d] }
  | _ => none }
def ZzGcdsWrongFalsely : Prop := zzGcdsRow.holds Try.pinned (OpenSpec.ofChange zzGcdsWrong)

/-- 'surdlaw07.ZzQuos': WHATEVER THE INPUT: true; the input reads as it did. -/
def zzQuosSpec : ChangeSpec := { name := "zzQuos", fn := fun _ => fun
  | [d1, d2] => { results := [.lit (.bool true)], args := [d1, d2] }
  | _ => none }
def zzQuosRow : OpenClaim := { program := "ytfhgnlkcecogcaa", sum := "cd02c921fc6dcdcd48b17c9aa88fedc75a287a0c0f4e98b0052bdd353cb052ff", func := "surd/surdlaw07.ZzQuos", spec := "zzQuos", inPlace := ["math/bits.Add64", "math/bits.Sub64"], named := ["math/bits.divideError", "math/bits.overflowError"], apart := false }
def ZzQuosSaid : Prop := zzQuosRow.holds Try.pinned (OpenSpec.ofChange zzQuosSpec)

/-- ITS FALSE NEIGHBOUR: 'it returns false'. Refute it at one input. -/
def zzQuosWrong : ChangeSpec := { name := "zzQuos", fn := fun _ => fun
  | [d1, d2] => { results := [.lit (.bool false)], args := [d1, d2] }
  | _ => none }
def ZzQuosWrongFalsely : Prop := zzQuosRow.holds Try.pinned (OpenSpec.ofChange zzQuosWrong)

/-- 'surdlaw07.ZzRing': WHATEVER THE INPUT: true; the input reads as it did. -/
def zzRingSpec : ChangeSpec := { name := "zzRing", fn := fun _ => fun
  | [d1, d2, d3] => { results := [.lit (.bool true)], args := [d1, d2, d3] }
  | _ => none }
def zzRingRow : OpenClaim := { program := "ytfhgnlkcecogcaa", sum := "cd02c921fc6dcdcd48b17c9aa88fedc75a287a0c0f4e98b0052bdd353cb052ff", func := "surd/surdlaw07.ZzRing", spec := "zzRing", inPlace := ["math/bits.Add64", "math/bits.Sub64"], recurses := true, named := ["math/bits.divideError", "math/bits.overflowError"], apart := false }
def ZzRingSaid : Prop := zzRingRow.holds Try.pinned (OpenSpec.ofChange zzRingSpec)

/-- ITS FALSE NEIGHBOUR: 'it returns false'. Refute it at one input. -/
def zzRingWrong : ChangeSpec := { name := "zzRing", fn := fun _ => fun
  | [d1, d2, d3] => { results := [.lit (.bool false)], args := [d1, d2, d3] }
  | _ => none }
def ZzRingWrongFalsely : Prop := zzRingRow.holds Try.pinned (OpenSpec.ofChange zzRingWrong)

/- THE SECOND FORM. 'bulk': how many values and letters a reading holds, each counted each time it is reached (what is shared counts as often as it is met; a slice's spare places count too). A statement '..UptoSaid' is the law's where the arguments, and the package variables that the reading takes, are together of bulk at most 1048576: NARROWER than '..Said'. Prove '..Said' where nothing that the law and all that it calls make is longer than what came in: it says more and counts as full. Else prove '..UptoSaid'. A law counts once. -/
mutual
def uptoBulk {H : Type} : DataW H → Nat
  | .lit (.string bytes) => bytes.length + 1
  | .lit _ => 1
  | .nil => 1
  | .ptr d => uptoBulk d + 1
  | .slice elems spare => uptoBulkAll elems + uptoBulkAll spare + 1
  | .agg parts => uptoBulkAll parts + 1
  | .iface _ d => uptoBulk d + 1
  | .map entries => uptoBulkEntries entries + 1
  | .held _ => 1
def uptoBulkAll {H : Type} : List (DataW H) → Nat
  | [] => 0
  | d :: r => uptoBulk d + uptoBulkAll r
def uptoBulkEntries {H : Type} : List (Lit × DataW H) → Nat
  | [] => 0
  | x :: r => uptoBulkEntry x + uptoBulkEntries r
def uptoBulkEntry {H : Type} : Lit × DataW H → Nat
  | (.string bytes, d) => bytes.length + uptoBulk d + 1
  | (_, d) => uptoBulk d + 1
 end
def uptoSmall : (H : Type) → List (DataW H) → Bool := fun _ ds => decide (uptoBulkAll ds ≤ 1048576)
def OpenSpec.upto (s : _root_.Go.ChangeSpec) : _root_.Go.OpenSpec := { _root_.Go.OpenSpec.ofChange s with cond := some uptoSmall }

/-- 'surdlaw07.ZzGcds', WHERE WHAT IT READS IS OF BULK AT MOST 1048576: true; the input reads as it did. -/
def zzGcdsUptoRow : OpenClaim := { program := "ytfhgnlkcecogcaa", sum := "cd02c921fc6dcdcd48b17c9aa88fedc75a287a0c0f4e98b0052bdd353cb052ff", func := "surd/surdlaw07.ZzGcds", spec := "zzGcds", inPlace := ["math/bits.Add64", "math/bits.Sub64"], named := ["math/bits.divideError", "math/bits.overflowError"], apart := false, narrowed := true }
def ZzGcdsUptoSaid : Prop := zzGcdsUptoRow.holds Try.pinned (OpenSpec.upto zzGcdsSpec)

/-- 'surdlaw07.ZzQuos', WHERE WHAT IT READS IS OF BULK AT MOST 1048576: true; the input reads as it did. -/
def zzQuosUptoRow : OpenClaim := { program := "ytfhgnlkcecogcaa", sum := "cd02c921fc6dcdcd48b17c9aa88fedc75a287a0c0f4e98b0052bdd353cb052ff", func := "surd/surdlaw07.ZzQuos", spec := "zzQuos", inPlace := ["math/bits.Add64", "math/bits.Sub64"], named := ["math/bits.divideError", "math/bits.overflowError"], apart := false, narrowed := true }
def ZzQuosUptoSaid : Prop := zzQuosUptoRow.holds Try.pinned (OpenSpec.upto zzQuosSpec)

/-- 'surdlaw07.ZzRing', WHERE WHAT IT READS IS OF BULK AT MOST 1048576: true; the input reads as it did. -/
def zzRingUptoRow : OpenClaim := { program := "ytfhgnlkcecogcaa", sum := "cd02c921fc6dcdcd48b17c9aa88fedc75a287a0c0f4e98b0052bdd353cb052ff", func := "surd/surdlaw07.ZzRing", spec := "zzRing", inPlace := ["math/bits.Add64", "math/bits.Sub64"], recurses := true, named := ["math/bits.divideError", "math/bits.overflowError"], apart := false, narrowed := true }
def ZzRingUptoSaid : Prop := zzRingUptoRow.holds Try.pinned (OpenSpec.upto zzRingSpec)

end Rows
end Go.Proofs.Ytfhgnlkcecogcaa
