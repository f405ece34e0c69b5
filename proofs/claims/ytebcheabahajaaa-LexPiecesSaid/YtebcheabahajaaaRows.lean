/-
  No cell of these rows narrows 'for every input' (looked for: loops, veiled, ifaces, maps, wideKeys, modest, calm, conditions, laid).
  DERIVED. THE GIVEN ROWS OF THIS SEAT. 7 by the template 'for every input the law returns true; each argument reads behind the call as it read before'; 0 by the template 'total and deterministic' (their statements: YtebcheabahajaaaTotals.lean).
  GIVEN WITH THE SEED: the statements are not yours to turn. If you find one false, say at which input.
  Laid BY PROGRAM, IN A SANDBOX (cutbox-rows.mjs): the forced cells as the released guide's own fill.sh prints them over the translation 4aca4923e4dd6ed4… (all of the seat's roots in one cut). By AI agents, Wed Nov 11 2026. No macro, syntax, notation, axiom, sorry.
-/
import Derived.Test.YtebcheabahajaaaChecked
import GoSem.Claim
import GoSem.ClaimJoined
import GoSem.ClaimMapViews
import Derived.JoinedTies
import Derived.KernelRfl
namespace Go.Proofs.Ytebcheabahajaaa
/- THE CELL 'sum', in the pinned program and in every row, IS THE sha256 OF THE DUMP (.gsa) THAT YtebcheabahajaaaProg.lean LOADS. Nothing in Lean hashes anything: it is a label: what it is worth is what the hold of that sum in a sandbox is worth. -/
noncomputable def Try.pinned : Pinned := { name := "ytebcheabahajaaa", sum := "4aca4923e4dd6ed4b3916616cb3232baf773ef660e98675078c165e8b37d6fbc", checked := Try.checked }
namespace Rows
def none {H : Type} : Left H := { results := [], args := [] }

/-- 'surdlaw24.LexLies': WHATEVER THE INPUT: true; the input reads as it did. -/
def lexLiesSpec : ChangeSpec := { name := "lexLies", fn := fun _ => fun
  | [d] => { results := [.lit (.bool true)], args := [d] }
  | _ => none }
def lexLiesRow : OpenClaim := { program := "ytebcheabahajaaa", sum := "4aca4923e4dd6ed4b3916616cb3232baf773ef660e98675078c165e8b37d6fbc", func := "surd/surdlaw24.LexLies", spec := "lexLies", inPlace := ["internal/bytealg.IndexByteString"], apart := false }
def LexLiesSaid : Prop := lexLiesRow.holds Try.pinned (OpenSpec.ofChange lexLiesSpec)

/-- ITS FALSE NEIGHBOUR: 'it returns false'. Refute it at one input. -/
def lexLiesWrong : ChangeSpec := { name := "lexLies", fn := fun _ => fun
  | [d] => { results := [.lit (.bool false)], args := [d] }
  | _ => none }
def LexLiesWrongFalsely : Prop := lexLiesRow.holds Try.pinned (OpenSpec.ofChange lexLiesWrong)

/-- 'surdlaw24.LexScans': WHATEVER THE INPUT: true; the input reads as it did. -/
def lexScansSpec : ChangeSpec := { name := "lexScans", fn := fun _ => fun
  | [d] => { results := [.lit (.bool true)], args := [d] }
  | _ => none }
def lexScansRow : OpenClaim := { program := "ytebcheabahajaaa", sum := "4aca4923e4dd6ed4b3916616cb3232baf773ef660e98675078c165e8b37d6fbc", func := "surd/surdlaw24.LexScans", spec := "lexScans", inPlace := ["internal/bytealg.IndexByteString"], apart := false }
def LexScansSaid : Prop := lexScansRow.holds Try.pinned (OpenSpec.ofChange lexScansSpec)

/-- ITS FALSE NEIGHBOUR: 'it returns false'. Refute it at one input. -/
def lexScansWrong : ChangeSpec := { name := "lexScans", fn := fun _ => fun
  | [d] => { results := [.lit (.bool false)], args := [d] }
  | _ => none }
def LexScansWrongFalsely : Prop := lexScansRow.holds Try.pinned (OpenSpec.ofChange lexScansWrong)

/-- 'surdlaw24.LexJoins': WHATEVER THE INPUT: true; the input reads as it did. -/
def lexJoinsSpec : ChangeSpec := { name := "lexJoins", fn := fun _ => fun
  | [d] => { results := [.lit (.bool true)], args := [d] }
  | _ => none }
def lexJoinsRow : OpenClaim := { program := "ytebcheabahajaaa", sum := "4aca4923e4dd6ed4b3916616cb3232baf773ef660e98675078c165e8b37d6fbc", func := "surd/surdlaw24.LexJoins", spec := "lexJoins", inPlace := ["internal/bytealg.IndexByteString", "internal/abi.NoEscape"], apart := false }
def LexJoinsSaid : Prop := lexJoinsRow.holds Try.pinned (OpenSpec.ofChange lexJoinsSpec)

/-- ITS FALSE NEIGHBOUR: 'it returns false'. Refute it at one input. -/
def lexJoinsWrong : ChangeSpec := { name := "lexJoins", fn := fun _ => fun
  | [d] => { results := [.lit (.bool false)], args := [d] }
  | _ => none }
def LexJoinsWrongFalsely : Prop := lexJoinsRow.holds Try.pinned (OpenSpec.ofChange lexJoinsWrong)

/-- 'surdlaw24.LexBack': WHATEVER THE INPUT: true; the input reads as it did. -/
def lexBackSpec : ChangeSpec := { name := "lexBack", fn := fun _ => fun
  | [d] => { results := [.lit (.bool true)], args := [d] }
  | _ => none }
def lexBackRow : OpenClaim := { program := "ytebcheabahajaaa", sum := "4aca4923e4dd6ed4b3916616cb3232baf773ef660e98675078c165e8b37d6fbc", func := "surd/surdlaw24.LexBack", spec := "lexBack", inPlace := ["internal/bytealg.IndexByteString", "internal/abi.NoEscape"], apart := false }
def LexBackSaid : Prop := lexBackRow.holds Try.pinned (OpenSpec.ofChange lexBackSpec)

/-- ITS FALSE NEIGHBOUR: 'it returns false'. Refute it at one input. -/
def lexBackWrong : ChangeSpec := { name := "lexBack", fn := fun _ => fun
  | [d] => { results := [.lit (.bool false)], args := [d] }
  | _ => none }
def LexBackWrongFalsely : Prop := lexBackRow.holds Try.pinned (OpenSpec.ofChange lexBackWrong)

/-- 'surdlaw24.LexNests': WHATEVER THE INPUT: true; the input reads as it did. -/
def lexNestsSpec : ChangeSpec := { name := "lexNests", fn := fun _ => fun
  | [d1, d2, d3] => { results := [.lit (.bool true)], args := [d1, d2, d3] }
  | _ => none }
def lexNestsRow : OpenClaim := { program := "ytebcheabahajaaa", sum := "4aca4923e4dd6ed4b3916616cb3232baf773ef660e98675078c165e8b37d6fbc", func := "surd/surdlaw24.LexNests", spec := "lexNests", inPlace := ["internal/bytealg.IndexByteString", "internal/bytealg.IndexString"], named := ["internal/bytealg.MaxLen"], apart := false }
def LexNestsSaid : Prop := lexNestsRow.holds Try.pinned (OpenSpec.ofChange lexNestsSpec)

/-- ITS FALSE NEIGHBOUR: 'it returns false'. Refute it at one input. -/
def lexNestsWrong : ChangeSpec := { name := "lexNests", fn := fun _ => fun
  | [d1, d2, d3] => { results := [.lit (.bool false)], args := [d1, d2, d3] }
  | _ => none }
def LexNestsWrongFalsely : Prop := lexNestsRow.holds Try.pinned (OpenSpec.ofChange lexNestsWrong)

/-- 'surdlaw24.LexPieces': WHATEVER THE INPUT: true; the input reads as it did. -/
def lexPiecesSpec : ChangeSpec := { name := "lexPieces", fn := fun _ => fun
  | [d1, d2] => { results := [.lit (.bool true)], args := [d1, d2] }
  | _ => none }
def lexPiecesRow : OpenClaim := { program := "ytebcheabahajaaa", sum := "4aca4923e4dd6ed4b3916616cb3232baf773ef660e98675078c165e8b37d6fbc", func := "surd/surdlaw24.LexPieces", spec := "lexPieces", inPlace := ["internal/bytealg.IndexByteString", "internal/bytealg.IndexString"], named := ["internal/bytealg.MaxLen"], apart := false }
def LexPiecesSaid : Prop := lexPiecesRow.holds Try.pinned (OpenSpec.ofChange lexPiecesSpec)

/-- ITS FALSE NEIGHBOUR: 'it returns false'. Refute it at one input. -/
def lexPiecesWrong : ChangeSpec := { name := "lexPieces", fn := fun _ => fun
  | [d1, d2] => { results := [.lit (.bool false)], args := [d1, d2] }
  | _ => none }
def LexPiecesWrongFalsely : Prop := lexPiecesRow.holds Try.pinned (OpenSpec.ofChange lexPiecesWrong)

/-- 'surdlaw24.LexKeeps': WHATEVER THE INPUT: true; the input reads as it did. -/
def lexKeepsSpec : ChangeSpec := { name := "lexKeeps", fn := fun _ => fun
  | [d1, d2] => { results := [.lit (.bool true)], args := [d1, d2] }
  | _ => none }
def lexKeepsRow : OpenClaim := { program := "ytebcheabahajaaa", sum := "4aca4923e4dd6ed4b3916616cb3232baf773ef660e98675078c165e8b37d6fbc", func := "surd/surdlaw24.LexKeeps", spec := "lexKeeps", inPlace := ["internal/bytealg.IndexByteString", "internal/bytealg.IndexString", "internal/abi.NoEscape"], named := ["internal/bytealg.MaxLen"], apart := false }
def LexKeepsSaid : Prop := lexKeepsRow.holds Try.pinned (OpenSpec.ofChange lexKeepsSpec)

/-- ITS FALSE NEIGHBOUR: 'it returns false'. Refute it at one input. -/
def lexKeepsWrong : ChangeSpec := { name := "lexKeeps", fn := fun _ => fun
  | [d1, d2] => { results := [.lit (.bool false)], args := [d1, d2] }
  | _ => none }
def LexKeepsWrongFalsely : Prop := lexKeepsRow.holds Try.pinned (OpenSpec.ofChange lexKeepsWrong)

/- THE SECOND FORM. 'bulk': how many values and letters a reading holds, each counted each time it is reached (what is shared counts as often as it is met; a slice's spare places count too). A statement '..UptoSaid' is the law's where the arguments, and the package variables that the reading takes, are together of bulk at most 1048576: NARROWER than '..Said'. Prove '..Said' where nothing that the law and all that it calls make is longer than what came in: it says more and counts as full. Else prove '..UptoSaid'. A law counts once. -/
mutual
def uptoBulk {H : Type} : DataW H → Nat
  | .lit (.string bytes) => bytes.length + 1
  | .lit _ => 1
  | .nil => 1
  | .ptr d => uptoBulk d + 1
  | .slice elems spare => uptoBulkAll elems + uptoBulkAll spare + 1
  | .agg parts => uptoBulkAll parts + 1
  | .iface _ d => uptoBulk d + 1
  | .map entries => uptoBulkEntries entries + 1
  | .held _ => 1
def uptoBulkAll {H : Type} : List (DataW H) → Nat
  | [] => 0
  | d :: r => uptoBulk d + uptoBulkAll r
def uptoBulkEntries {H : Type} : List (Lit × DataW H) → Nat
  | [] => 0
  | x :: r => uptoBulkEntry x + uptoBulkEntries r
def uptoBulkEntry {H : Type} : Lit × DataW H → Nat
  | (.string bytes, d) => bytes.length + uptoBulk d + 1
  | (_, d) => uptoBulk d + 1
 end
def uptoSmall : (H : Type) → List (DataW H) → Bool := fun _ ds => decide (uptoBulkAll ds ≤ 1048576)
def OpenSpec.upto (s : _root_.Go.ChangeSpec) : _root_.Go.OpenSpec := { _root_.Go.OpenSpec.ofChange s with cond := some uptoSmall }

/-- 'surdlaw24.LexLies', WHERE WHAT IT READS IS OF BULK AT MOST 1048576: true; the input reads as it did. -/
def lexLiesUptoRow : OpenClaim := { program := "ytebcheabahajaaa", sum := "4aca4923e4dd6ed4b3916616cb3232baf773ef660e98675078c165e8b37d6fbc", func := "surd/surdlaw24.LexLies", spec := "lexLies", inPlace := ["internal/bytealg.IndexByteString"], apart := false, narrowed := true }
def LexLiesUptoSaid : Prop := lexLiesUptoRow.holds Try.pinned (OpenSpec.upto lexLiesSpec)

/-- 'surdlaw24.LexScans', WHERE WHAT IT READS IS OF BULK AT MOST 1048576: true; the input reads as it did. -/
def lexScansUptoRow : OpenClaim := { program := "ytebcheabahajaaa", sum := "4aca4923e4dd6ed4b3916616cb3232baf773ef660e98675078c165e8b37d6fbc", func := "surd/surdlaw24.LexScans", spec := "lexScans", inPlace := ["internal/bytealg.IndexByteString"], apart := false, narrowed := true }
def LexScansUptoSaid : Prop := lexScansUptoRow.holds Try.pinned (OpenSpec.upto lexScansSpec)

/-- 'surdlaw24.LexJoins', WHERE WHAT IT READS IS OF BULK AT MOST 1048576: true; the input reads as it did. -/
def lexJoinsUptoRow : OpenClaim := { program := "ytebcheabahajaaa", sum := "4aca4923e4dd6ed4b3916616cb3232baf773ef660e98675078c165e8b37d6fbc", func := "surd/surdlaw24.LexJoins", spec := "lexJoins", inPlace := ["internal/bytealg.IndexByteString", "internal/abi.NoEscape"], apart := false, narrowed := true }
def LexJoinsUptoSaid : Prop := lexJoinsUptoRow.holds Try.pinned (OpenSpec.upto lexJoinsSpec)

/-- 'surdlaw24.LexBack', WHERE WHAT IT READS IS OF BULK AT MOST 1048576: true; the input reads as it did. -/
def lexBackUptoRow : OpenClaim := { program := "ytebcheabahajaaa", sum := "4aca4923e4dd6ed4b3916616cb3232baf773ef660e98675078c165e8b37d6fbc", func := "surd/surdlaw24.LexBack", spec := "lexBack", inPlace := ["internal/bytealg.IndexByteString", "internal/abi.NoEscape"], apart := false, narrowed := true }
def LexBackUptoSaid : Prop := lexBackUptoRow.holds Try.pinned (OpenSpec.upto lexBackSpec)

/-- 'surdlaw24.LexNests', WHERE WHAT IT READS IS OF BULK AT MOST 1048576: true; the input reads as it did. -/
def lexNestsUptoRow : OpenClaim := { program := "ytebcheabahajaaa", sum := "4aca4923e4dd6ed4b3916616cb3232baf773ef660e98675078c165e8b37d6fbc", func := "surd/surdlaw24.LexNests", spec := "lexNests", inPlace := ["internal/bytealg.IndexByteString", "internal/bytealg.IndexString"], named := ["internal/bytealg.MaxLen"], apart := false, narrowed := true }
def LexNestsUptoSaid : Prop := lexNestsUptoRow.holds Try.pinned (OpenSpec.upto lexNestsSpec)

/-- 'surdlaw24.LexPieces', WHERE WHAT IT READS IS OF BULK AT MOST 1048576: true; the input reads as it did. -/
def lexPiecesUptoRow : OpenClaim := { program := "ytebcheabahajaaa", sum := "4aca4923e4dd6ed4b3916616cb3232baf773ef660e98675078c165e8b37d6fbc", func := "surd/surdlaw24.LexPieces", spec := "lexPieces", inPlace := ["internal/bytealg.IndexByteString", "internal/bytealg.IndexString"], named := ["internal/bytealg.MaxLen"], apart := false, narrowed := true }
def LexPiecesUptoSaid : Prop := lexPiecesUptoRow.holds Try.pinned (OpenSpec.upto lexPiecesSpec)

/-- 'surdlaw24.LexKeeps', WHERE WHAT IT READS IS OF BULK AT MOST 1048576: true; the input reads as it did. -/
def lexKeepsUptoRow : OpenClaim := { program := "ytebcheabahajaaa", sum := "4aca4923e4dd6ed4b3916616cb3232baf773ef660e98675078c165e8b37d6fbc", func := "surd/surdlaw24.LexKeeps", spec := "lexKeeps", inPlace := ["internal/bytealg.IndexByteString", "internal/bytealg.IndexString", "internal/abi.NoEscape"], named := ["internal/bytealg.MaxLen"], apart := false, narrowed := true }
def LexKeepsUptoSaid : Prop := lexKeepsUptoRow.holds Try.pinned (OpenSpec.upto lexKeepsSpec)

end Rows
end Go.Proofs.Ytebcheabahajaaa
