/-
  No cell of these rows narrows 'for every input' (looked for: loops, veiled, ifaces, maps, wideKeys, modest, calm, conditions, laid).
  DERIVED. THE GIVEN ROWS OF THIS SEAT. 9 by the template 'for every input the law returns true; each argument reads behind the call as it read before'; 0 by the template 'total and deterministic' (their statements: YtfkldohgiifgbaaTotals.lean).
  GIVEN WITH THE SEED: the statements are not yours to turn. If you find one false, say at which input.
  Laid BY PROGRAM, IN A SANDBOX (cutbox-rows.mjs): the forced cells as the released guide's own fill.sh prints them over the translation 580a684bbeb9bf77… (all of the seat's roots in one cut). By AI agents, Wed Nov 11 2026. No macro, syntax, notation, axiom, sorry.
-/
import Derived.Test.YtfkldohgiifgbaaChecked
import GoSem.Claim
import GoSem.ClaimJoined
import GoSem.ClaimMapViews
import Derived.JoinedTies
import Derived.KernelRfl
namespace Go.Proofs.Ytfkldohgiifgbaa
/- THE CELL 'sum', in the pinned program and in every row, IS THE sha256 OF THE DUMP (.gsa) THAT YtfkldohgiifgbaaProg.lean LOADS. Nothing in Lean hashes anything: it is a label: what it is worth is what the hold of that sum in a sandbox is worth. -/
noncomputable def Try.pinned : Pinned := { name := "ytfkldohgiifgbaa", sum := "580a684bbeb9bf77af1566821d4c70951e77be70e455df0e94427d850b7283c2", checked := Try.checked }
namespace Rows
def none {H : Type} : Left H := { results := [], args := [] }

/-- 'surdlaw23.GaussValues': WHATEVER THE INPUT: true; the input reads as it did. -/
def gaussValuesSpec : ChangeSpec := { name := "gaussValues", fn := fun _ => fun
  | [d1, d2] => { results := [.lit (.bool true)], args := [d1, d2] }
  | _ => none }
def gaussValuesRow : OpenClaim := { program := "ytfkldohgiifgbaa", sum := "580a684bbeb9bf77af1566821d4c70951e77be70e455df0e94427d850b7283c2", func := "surd/surdlaw23.GaussValues", spec := "gaussValues", apart := false }
def GaussValuesSaid : Prop := gaussValuesRow.holds Try.pinned (OpenSpec.ofChange gaussValuesSpec)

/-- ITS FALSE NEIGHBOUR: 'it returns false'. Refute it at one input. -/
def gaussValuesWrong : ChangeSpec := { name := "gaussValues", fn := fun _ => fun
  | [d1, d2] => { results := [.lit (.bool false)], args := [d1, d2] }
  | _ => none }
def GaussValuesWrongFalsely : Prop := gaussValuesRow.holds Try.pinned (OpenSpec.ofChange gaussValuesWrong)

/-- 'surdlaw23.GaussTurns': WHATEVER THE INPUT: true; the input reads as it did. -/
def gaussTurnsSpec : ChangeSpec := { name := "gaussTurns", fn := fun _ => fun
  | [d] => { results := [.lit (.bool true)], args := [d] }
  | _ => none }
def gaussTurnsRow : OpenClaim := { program := "ytfkldohgiifgbaa", sum := "580a684bbeb9bf77af1566821d4c70951e77be70e455df0e94427d850b7283c2", func := "surd/surdlaw23.GaussTurns", spec := "gaussTurns", apart := false }
def GaussTurnsSaid : Prop := gaussTurnsRow.holds Try.pinned (OpenSpec.ofChange gaussTurnsSpec)

/-- ITS FALSE NEIGHBOUR: 'it returns false'. Refute it at one input. -/
def gaussTurnsWrong : ChangeSpec := { name := "gaussTurns", fn := fun _ => fun
  | [d] => { results := [.lit (.bool false)], args := [d] }
  | _ => none }
def GaussTurnsWrongFalsely : Prop := gaussTurnsRow.holds Try.pinned (OpenSpec.ofChange gaussTurnsWrong)

/-- 'surdlaw23.GaussSquares': WHATEVER THE INPUT: true; the input reads as it did. -/
def gaussSquaresSpec : ChangeSpec := { name := "gaussSquares", fn := fun _ => fun
  | [d1, d2, d3] => { results := [.lit (.bool true)], args := [d1, d2, d3] }
  | _ => none }
def gaussSquaresRow : OpenClaim := { program := "ytfkldohgiifgbaa", sum := "580a684bbeb9bf77af1566821d4c70951e77be70e455df0e94427d850b7283c2", func := "surd/surdlaw23.GaussSquares", spec := "gaussSquares", apart := false }
def GaussSquaresSaid : Prop := gaussSquaresRow.holds Try.pinned (OpenSpec.ofChange gaussSquaresSpec)

/-- ITS FALSE NEIGHBOUR: 'it returns false'. Refute it at one input. -/
def gaussSquaresWrong : ChangeSpec := { name := "gaussSquares", fn := fun _ => fun
  | [d1, d2, d3] => { results := [.lit (.bool false)], args := [d1, d2, d3] }
  | _ => none }
def GaussSquaresWrongFalsely : Prop := gaussSquaresRow.holds Try.pinned (OpenSpec.ofChange gaussSquaresWrong)

/-- 'surdlaw23.GaussPaths': WHATEVER THE INPUT: true; the input reads as it did. -/
def gaussPathsSpec : ChangeSpec := { name := "gaussPaths", fn := fun _ => fun
  | [d1, d2] => { results := [.lit (.bool true)], args := [d1, d2] }
  | _ => none }
def gaussPathsRow : OpenClaim := { program := "ytfkldohgiifgbaa", sum := "580a684bbeb9bf77af1566821d4c70951e77be70e455df0e94427d850b7283c2", func := "surd/surdlaw23.GaussPaths", spec := "gaussPaths", apart := false }
def GaussPathsSaid : Prop := gaussPathsRow.holds Try.pinned (OpenSpec.ofChange gaussPathsSpec)

/-- ITS FALSE NEIGHBOUR: 'it returns false'. Refute it at one input. -/
def gaussPathsWrong : ChangeSpec := { name := "gaussPaths", fn := fun _ => fun
  | [d1, d2] => { results := [.lit (.bool false)], args := [d1, d2] }
  | _ => none }
def GaussPathsWrongFalsely : Prop := gaussPathsRow.holds Try.pinned (OpenSpec.ofChange gaussPathsWrong)

/-- 'surdlaw23.GaussRoots': WHATEVER THE INPUT: true; the input reads as it did. -/
def gaussRootsSpec : ChangeSpec := { name := "gaussRoots", fn := fun _ => fun
  | [d1, d2, d3] => { results := [.lit (.bool true)], args := [d1, d2, d3] }
  | _ => none }
def gaussRootsRow : OpenClaim := { program := "ytfkldohgiifgbaa", sum := "580a684bbeb9bf77af1566821d4c70951e77be70e455df0e94427d850b7283c2", func := "surd/surdlaw23.GaussRoots", spec := "gaussRoots", apart := false }
def GaussRootsSaid : Prop := gaussRootsRow.holds Try.pinned (OpenSpec.ofChange gaussRootsSpec)

/-- ITS FALSE NEIGHBOUR: 'it returns false'. Refute it at one input. -/
def gaussRootsWrong : ChangeSpec := { name := "gaussRoots", fn := fun _ => fun
  | [d1, d2, d3] => { results := [.lit (.bool false)], args := [d1, d2, d3] }
  | _ => none }
def GaussRootsWrongFalsely : Prop := gaussRootsRow.holds Try.pinned (OpenSpec.ofChange gaussRootsWrong)

/-- 'surdlaw23.GaussApart': WHATEVER THE INPUT: true; the input reads as it did. -/
def gaussApartSpec : ChangeSpec := { name := "gaussApart", fn := fun _ => fun
  | [d1, d2] => { results := [.lit (.bool true)], args := [d1, d2] }
  | _ => none }
def gaussApartRow : OpenClaim := { program := "ytfkldohgiifgbaa", sum := "580a684bbeb9bf77af1566821d4c70951e77be70e455df0e94427d850b7283c2", func := "surd/surdlaw23.GaussApart", spec := "gaussApart", apart := false }
def GaussApartSaid : Prop := gaussApartRow.holds Try.pinned (OpenSpec.ofChange gaussApartSpec)

/-- ITS FALSE NEIGHBOUR: 'it returns false'. Refute it at one input. -/
def gaussApartWrong : ChangeSpec := { name := "gaussApart", fn := fun _ => fun
  | [d1, d2] => { results := [.lit (.bool false)], args := [d1, d2] }
  | _ => none }
def GaussApartWrongFalsely : Prop := gaussApartRow.holds Try.pinned (OpenSpec.ofChange gaussApartWrong)

/-- 'surdlaw23.GaussNums': WHATEVER THE INPUT: true; the input reads as it did. -/
def gaussNumsSpec : ChangeSpec := { name := "gaussNums", fn := fun _ => fun
  | [d1, d2, d3] => { results := [.lit (.bool true)], args := [d1, d2, d3] }
  | _ => none }
def gaussNumsRow : OpenClaim := { program := "ytfkldohgiifgbaa", sum := "580a684bbeb9bf77af1566821d4c70951e77be70e455df0e94427d850b7283c2", func := "surd/surdlaw23.GaussNums", spec := "gaussNums", apart := false }
def GaussNumsSaid : Prop := gaussNumsRow.holds Try.pinned (OpenSpec.ofChange gaussNumsSpec)

/-- ITS FALSE NEIGHBOUR: 'it returns false'. Refute it at one input. -/
def gaussNumsWrong : ChangeSpec := { name := "gaussNums", fn := fun _ => fun
  | [d1, d2, d3] => { results := [.lit (.bool false)], args := [d1, d2, d3] }
  | _ => none }
def GaussNumsWrongFalsely : Prop := gaussNumsRow.holds Try.pinned (OpenSpec.ofChange gaussNumsWrong)

/-- 'surdlaw23.GaussRing': WHATEVER THE INPUT: true; the input reads as it did. -/
def gaussRingSpec : ChangeSpec := { name := "gaussRing", fn := fun _ => fun
  | [d1, d2, d3] => { results := [.lit (.bool true)], args := [d1, d2, d3] }
  | _ => none }
def gaussRingRow : OpenClaim := { program := "ytfkldohgiifgbaa", sum := "580a684bbeb9bf77af1566821d4c70951e77be70e455df0e94427d850b7283c2", func := "surd/surdlaw23.GaussRing", spec := "gaussRing", apart := false }
def GaussRingSaid : Prop := gaussRingRow.holds Try.pinned (OpenSpec.ofChange gaussRingSpec)

/-- ITS FALSE NEIGHBOUR: 'it returns false'. Refute it at one input. -/
def gaussRingWrong : ChangeSpec := { name := "gaussRing", fn := fun _ => fun
  | [d1, d2, d3] => { results := [.lit (.bool false)], args := [d1, d2, d3] }
  | _ => none }
def GaussRingWrongFalsely : Prop := gaussRingRow.holds Try.pinned (OpenSpec.ofChange gaussRingWrong)

/-- 'surdlaw23.GaussHomo': WHATEVER THE INPUT: true; the input reads as it did. -/
def gaussHomoSpec : ChangeSpec := { name := "gaussHomo", fn := fun _ => fun
  | [d1, d2, d3] => { results := [.lit (.bool true)], args := [d1, d2, d3] }
  | _ => none }
def gaussHomoRow : OpenClaim := { program := "ytfkldohgiifgbaa", sum := "580a684bbeb9bf77af1566821d4c70951e77be70e455df0e94427d850b7283c2", func := "surd/surdlaw23.GaussHomo", spec := "gaussHomo", inPlace := ["math/bits.Add64", "math/bits.Sub64"], recurses := true, apart := false }
def GaussHomoSaid : Prop := gaussHomoRow.holds Try.pinned (OpenSpec.ofChange gaussHomoSpec)

/-- ITS FALSE NEIGHBOUR: 'it returns false'. Refute it at one input. -/
def gaussHomoWrong : ChangeSpec := { name := "gaussHomo", fn := fun _ => fun
  | [d1, d2, d3] => { results := [.lit (.bool false)], args := [d1, d2, d3] }
  | _ => none }
def GaussHomoWrongFalsely : Prop := gaussHomoRow.holds Try.pinned (OpenSpec.ofChange gaussHomoWrong)

/- THE SECOND FORM. 'bulk': how many values and letters a reading holds, each counted each time it is reached (what is shared counts as often as it is met; a slice's spare places count too). A statement '..UptoSaid' is the law's where the arguments, and the package variables that the reading takes, are together of bulk at most 1048576: NARROWER than '..Said'. Prove '..Said' where nothing that the law and all that it calls make is longer than what came in: it says more and counts as full. Else prove '..UptoSaid'. A law counts once. -/
mutual
def uptoBulk {H : Type} : DataW H → Nat
  | .lit (.string bytes) => bytes.length + 1
  | .lit _ => 1
  | .nil => 1
  | .ptr d => uptoBulk d + 1
  | .slice elems spare => uptoBulkAll elems + uptoBulkAll spare + 1
  | .agg parts => uptoBulkAll parts + 1
  | .iface _ d => uptoBulk d + 1
  | .map entries => uptoBulkEntries entries + 1
  | .held _ => 1
def uptoBulkAll {H : Type} : List (DataW H) → Nat
  | [] => 0
  | d :: r => uptoBulk d + uptoBulkAll r
def uptoBulkEntries {H : Type} : List (Lit × DataW H) → Nat
  | [] => 0
  | x :: r => uptoBulkEntry x + uptoBulkEntries r
def uptoBulkEntry {H : Type} : Lit × DataW H → Nat
  | (.string bytes, d) => bytes.length + uptoBulk d + 1
  | (_, d) => uptoBulk d + 1
 end
def uptoSmall : (H : Type) → List (DataW H) → Bool := fun _ ds => decide (uptoBulkAll ds ≤ 1048576)
def OpenSpec.upto (s : _root_.Go.ChangeSpec) : _root_.Go.OpenSpec := { _root_.Go.OpenSpec.ofChange s with cond := some uptoSmall }

/-- 'surdlaw23.GaussValues', WHERE WHAT IT READS IS OF BULK AT MOST 1048576: true; the input reads as it did. -/
def gaussValuesUptoRow : OpenClaim := { program := "ytfkldohgiifgbaa", sum := "580a684bbeb9bf77af1566821d4c70951e77be70e455df0e94427d850b7283c2", func := "surd/surdlaw23.GaussValues", spec := "gaussValues", apart := false, narrowed := true }
def GaussValuesUptoSaid : Prop := gaussValuesUptoRow.holds Try.pinned (OpenSpec.upto gaussValuesSpec)

/-- 'surdlaw23.GaussTurns', WHERE WHAT IT READS IS OF BULK AT MOST 1048576: true; the input reads as it did. -/
def gaussTurnsUptoRow : OpenClaim := { program := "ytfkldohgiifgbaa", sum := "580a684bbeb9bf77af1566821d4c70951e77be70e455df0e94427d850b7283c2", func := "surd/surdlaw23.GaussTurns", spec := "gaussTurns", apart := false, narrowed := true }
def GaussTurnsUptoSaid : Prop := gaussTurnsUptoRow.holds Try.pinned (OpenSpec.upto gaussTurnsSpec)

/-- 'surdlaw23.GaussSquares', WHERE WHAT IT READS IS OF BULK AT MOST 1048576: true; the input reads as it did. -/
def gaussSquaresUptoRow : OpenClaim := { program := "ytfkldohgiifgbaa", sum := "580a684bbeb9bf77af1566821d4c70951e77be70e455df0e94427d850b7283c2", func := "surd/surdlaw23.GaussSquares", spec := "gaussSquares", apart := false, narrowed := true }
def GaussSquaresUptoSaid : Prop := gaussSquaresUptoRow.holds Try.pinned (OpenSpec.upto gaussSquaresSpec)

/-- 'surdlaw23.GaussPaths', WHERE WHAT IT READS IS OF BULK AT MOST 1048576: true; the input reads as it did. -/
def gaussPathsUptoRow : OpenClaim := { program := "ytfkldohgiifgbaa", sum := "580a684bbeb9bf77af1566821d4c70951e77be70e455df0e94427d850b7283c2", func := "surd/surdlaw23.GaussPaths", spec := "gaussPaths", apart := false, narrowed := true }
def GaussPathsUptoSaid : Prop := gaussPathsUptoRow.holds Try.pinned (OpenSpec.upto gaussPathsSpec)

/-- 'surdlaw23.GaussRoots', WHERE WHAT IT READS IS OF BULK AT MOST 1048576: true; the input reads as it did. -/
def gaussRootsUptoRow : OpenClaim := { program := "ytfkldohgiifgbaa", sum := "580a684bbeb9bf77af1566821d4c70951e77be70e455df0e94427d850b7283c2", func := "surd/surdlaw23.GaussRoots", spec := "gaussRoots", apart := false, narrowed := true }
def GaussRootsUptoSaid : Prop := gaussRootsUptoRow.holds Try.pinned (OpenSpec.upto gaussRootsSpec)

/-- 'surdlaw23.GaussApart', WHERE WHAT IT READS IS OF BULK AT MOST 1048576: true; the input reads as it did. -/
def gaussApartUptoRow : OpenClaim := { program := "ytfkldohgiifgbaa", sum := "580a684bbeb9bf77af1566821d4c70951e77be70e455df0e94427d850b7283c2", func := "surd/surdlaw23.GaussApart", spec := "gaussApart", apart := false, narrowed := true }
def GaussApartUptoSaid : Prop := gaussApartUptoRow.holds Try.pinned (OpenSpec.upto gaussApartSpec)

/-- 'surdlaw23.GaussNums', WHERE WHAT IT READS IS OF BULK AT MOST 1048576: true; the input reads as it did. -/
def gaussNumsUptoRow : OpenClaim := { program := "ytfkldohgiifgbaa", sum := "580a684bbeb9bf77af1566821d4c70951e77be70e455df0e94427d850b7283c2", func := "surd/surdlaw23.GaussNums", spec := "gaussNums", apart := false, narrowed := true }
def GaussNumsUptoSaid : Prop := gaussNumsUptoRow.holds Try.pinned (OpenSpec.upto gaussNumsSpec)

/-- 'surdlaw23.GaussRing', WHERE WHAT IT READS IS OF BULK AT MOST 1048576: true; the input reads as it did. -/
def gaussRingUptoRow : OpenClaim := { program := "ytfkldohgiifgbaa", sum := "580a684bbeb9bf77af1566821d4c70951e77be70e455df0e94427d850b7283c2", func := "surd/surdlaw23.GaussRing", spec := "gaussRing", apart := false, narrowed := true }
def GaussRingUptoSaid : Prop := gaussRingUptoRow.holds Try.pinned (OpenSpec.upto gaussRingSpec)

/-- 'surdlaw23.GaussHomo', WHERE WHAT IT READS IS OF BULK AT MOST 1048576: true; the input reads as it did. -/
def gaussHomoUptoRow : OpenClaim := { program := "ytfkldohgiifgbaa", sum := "580a684bbeb9bf77af1566821d4c70951e77be70e455df0e94427d850b7283c2", func := "surd/surdlaw23.GaussHomo", spec := "gaussHomo", inPlace := ["math/bits.Add64", "math/bits.Sub64"], recurses := true, apart := false, narrowed := true }
def GaussHomoUptoSaid : Prop := gaussHomoUptoRow.holds Try.pinned (OpenSpec.upto gaussHomoSpec)

end Rows
end Go.Proofs.Ytfkldohgiifgbaa
