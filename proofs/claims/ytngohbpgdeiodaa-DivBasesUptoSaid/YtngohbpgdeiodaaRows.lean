/-
  No cell of these rows narrows 'for every input' (looked for: loops, veiled, ifaces, maps, wideKeys, modest, calm, conditions, laid).
  DERIVED. THE GIVEN ROWS OF THIS SEAT. 8 by the template 'for every input the law returns true; each argument reads behind the call as it read before'; 0 by the template 'total and deterministic' (their statements: YtngohbpgdeiodaaTotals.lean).
  GIVEN WITH THE SEED: the statements are not yours to turn. If you find one false, say at which input.
  Laid BY PROGRAM, IN A SANDBOX (cutbox-rows.mjs): the forced cells as the released guide's own fill.sh prints them over the translation a065859079ec50cb… (all of the seat's roots in one cut). By AI agents, Wed Nov 11 2026. No macro, syntax, notation, axiom, sorry.
-/
import Derived.Test.YtngohbpgdeiodaaChecked
import GoSem.Claim
import GoSem.ClaimJoined
import GoSem.ClaimMapViews
import Derived.JoinedTies
import Derived.KernelRfl
namespace Go.Proofs.Ytngohbpgdeiodaa
/- THE CELL 'sum', in the pinned program and in every row, IS THE sha256 OF THE DUMP (.gsa) THAT YtngohbpgdeiodaaProg.lean LOADS. Nothing in Lean hashes anything: it is a label: what it is worth is what the hold of that sum in a sandbox is worth. -/
noncomputable def Try.pinned : Pinned := { name := "ytngohbpgdeiodaa", sum := "a065859079ec50cba5e2907300921bc96b6e3540f97c4f0c63ebf5b53d3a752b", checked := Try.checked }
namespace Rows
def none {H : Type} : Left H := { results := [], args := [] }

/-- 'surdlaw04.DivOften': WHATEVER THE INPUT: true; the input reads as it did. -/
def divOftenSpec : ChangeSpec := { name := "divOften", fn := fun _ => fun
  | [d1, d2] => { results := [.lit (.bool true)], args := [d1, d2] }
  | _ => none }
def divOftenRow : OpenClaim := { program := "ytngohbpgdeiodaa", sum := "a065859079ec50cba5e2907300921bc96b6e3540f97c4f0c63ebf5b53d3a752b", func := "surd/surdlaw04.DivOften", spec := "divOften", inPlace := ["math/bits.Add64", "math/bits.Sub64"], named := ["math/bits.divideError", "math/bits.overflowError"], apart := false }
def DivOftenSaid : Prop := divOftenRow.holds Try.pinned (OpenSpec.ofChange divOftenSpec)

/-- ITS FALSE NEIGHBOUR: 'it returns false'. Refute it at one input. -/
def divOftenWrong : ChangeSpec := { name := "divOften", fn := fun _ => fun
  | [d1, d2] => { results := [.lit (.bool false)], args := [d1, d2] }
  | _ => none }
def DivOftenWrongFalsely : Prop := divOftenRow.holds Try.pinned (OpenSpec.ofChange divOftenWrong)

/-- 'surdlaw04.DivQuos': WHATEVER THE INPUT: true; the input reads as it did. -/
def divQuosSpec : ChangeSpec := { name := "divQuos", fn := fun _ => fun
  | [d1, d2, d3] => { results := [.lit (.bool true)], args := [d1, d2, d3] }
  | _ => none }
def divQuosRow : OpenClaim := { program := "ytngohbpgdeiodaa", sum := "a065859079ec50cba5e2907300921bc96b6e3540f97c4f0c63ebf5b53d3a752b", func := "surd/surdlaw04.DivQuos", spec := "divQuos", inPlace := ["math/bits.Add64", "math/bits.Sub64"], named := ["math/bits.divideError", "math/bits.overflowError"], apart := false }
def DivQuosSaid : Prop := divQuosRow.holds Try.pinned (OpenSpec.ofChange divQuosSpec)

/-- ITS FALSE NEIGHBOUR: 'it returns false'. Refute it at one input. -/
def divQuosWrong : ChangeSpec := { name := "divQuos", fn := fun _ => fun
  | [d1, d2, d3] => { results := [.lit (.bool false)], args := [d1, d2, d3] }
  | _ => none }
def DivQuosWrongFalsely : Prop := divQuosRow.holds Try.pinned (OpenSpec.ofChange divQuosWrong)

/-- 'surdlaw04.DivDigits': WHATEVER THE INPUT: true; the input reads as it did. -/
def divDigitsSpec : ChangeSpec := { name := "divDigits", fn := fun _ => fun
  | [d1, d2, d3] => { results := [.lit (.bool true)], args := [d1, d2, d3] }
  | _ => none }
def divDigitsRow : OpenClaim := { program := "ytngohbpgdeiodaa", sum := "a065859079ec50cba5e2907300921bc96b6e3540f97c4f0c63ebf5b53d3a752b", func := "surd/surdlaw04.DivDigits", spec := "divDigits", inPlace := ["math/bits.Add64", "math/bits.Sub64"], unfollowed := true, recurses := true, named := ["math/bits.divideError", "math/bits.overflowError"], apart := false }
def DivDigitsSaid : Prop := divDigitsRow.holds Try.pinned (OpenSpec.ofChange divDigitsSpec)

/-- ITS FALSE NEIGHBOUR: 'it returns false'. Refute it at one input. -/
def divDigitsWrong : ChangeSpec := { name := "divDigits", fn := fun _ => fun
  | [d1, d2, d3] => { results := [.lit (.bool false)], args := [d1, d2, d3] }
  | _ => none }
def DivDigitsWrongFalsely : Prop := divDigitsRow.holds Try.pinned (OpenSpec.ofChange divDigitsWrong)

/-- 'surdlaw04.DivBases': WHATEVER THE INPUT: true; the input reads as it did. -/
def divBasesSpec : ChangeSpec := { name := "divBases", fn := fun _ => fun
  | [d1, d2, d3] => { results := [.lit (.bool true)], args := [d1, d2, d3] }
  | _ => none }
def divBasesRow : OpenClaim := { program := "ytngohbpgdeiodaa", sum := "a065859079ec50cba5e2907300921bc96b6e3540f97c4f0c63ebf5b53d3a752b", func := "surd/surdlaw04.DivBases", spec := "divBases", inPlace := ["math/bits.Add64", "math/bits.Sub64"], recurses := true, named := ["math/bits.divideError", "math/bits.overflowError"], apart := false }
def DivBasesSaid : Prop := divBasesRow.holds Try.pinned (OpenSpec.ofChange divBasesSpec)

/-- ITS FALSE NEIGHBOUR: 'it returns false'. Refute it at one input. -/
def divBasesWrong : ChangeSpec := { name := "divBases", fn := fun _ => fun
  | [d1, d2, d3] => { results := [.lit (.bool false)], args := [d1, d2, d3] }
  | _ => none }
def DivBasesWrongFalsely : Prop := divBasesRow.holds Try.pinned (OpenSpec.ofChange divBasesWrong)

/-- 'surdlaw04.DivTimes': WHATEVER THE INPUT: true; the input reads as it did. -/
def divTimesSpec : ChangeSpec := { name := "divTimes", fn := fun _ => fun
  | [d1, d2, d3] => { results := [.lit (.bool true)], args := [d1, d2, d3] }
  | _ => none }
def divTimesRow : OpenClaim := { program := "ytngohbpgdeiodaa", sum := "a065859079ec50cba5e2907300921bc96b6e3540f97c4f0c63ebf5b53d3a752b", func := "surd/surdlaw04.DivTimes", spec := "divTimes", inPlace := ["math/bits.Add64", "math/bits.Sub64"], recurses := true, named := ["math/bits.divideError", "math/bits.overflowError"], apart := false }
def DivTimesSaid : Prop := divTimesRow.holds Try.pinned (OpenSpec.ofChange divTimesSpec)

/-- ITS FALSE NEIGHBOUR: 'it returns false'. Refute it at one input. -/
def divTimesWrong : ChangeSpec := { name := "divTimes", fn := fun _ => fun
  | [d1, d2, d3] => { results := [.lit (.bool false)], args := [d1, d2, d3] }
  | _ => none }
def DivTimesWrongFalsely : Prop := divTimesRow.holds Try.pinned (OpenSpec.ofChange divTimesWrong)

/-- 'surdlaw04.DivTurns': WHATEVER THE INPUT: true; the input reads as it did. -/
def divTurnsSpec : ChangeSpec := { name := "divTurns", fn := fun _ => fun
  | [d] => { results := [.lit (.bool true)], args := [d] }
  | _ => none }
def divTurnsRow : OpenClaim := { program := "ytngohbpgdeiodaa", sum := "a065859079ec50cba5e2907300921bc96b6e3540f97c4f0c63ebf5b53d3a752b", func := "surd/surdlaw04.DivTurns", spec := "divTurns", inPlace := ["math/bits.Add64", "math/bits.Sub64"], recurses := true, named := ["math/bits.divideError", "math/bits.overflowError"], apart := false }
def DivTurnsSaid : Prop := divTurnsRow.holds Try.pinned (OpenSpec.ofChange divTurnsSpec)

/-- ITS FALSE NEIGHBOUR: 'it returns false'. Refute it at one input. -/
def divTurnsWrong : ChangeSpec := { name := "divTurns", fn := fun _ => fun
  | [d] => { results := [.lit (.bool false)], args := [d] }
  | _ => none }
def DivTurnsWrongFalsely : Prop := divTurnsRow.holds Try.pinned (OpenSpec.ofChange divTurnsWrong)

/-- 'surdlaw04.DivApart': WHATEVER THE INPUT: true; the input reads as it did. -/
def divApartSpec : ChangeSpec := { name := "divApart", fn := fun _ => fun
  | [d1, d2, d3] => { results := [.lit (.bool true)], args := [d1, d2, d3] }
  | _ => none }
def divApartRow : OpenClaim := { program := "ytngohbpgdeiodaa", sum := "a065859079ec50cba5e2907300921bc96b6e3540f97c4f0c63ebf5b53d3a752b", func := "surd/surdlaw04.DivApart", spec := "divApart", inPlace := ["math/bits.Add64", "math/bits.Sub64"], recurses := true, named := ["math/bits.divideError", "math/bits.overflowError"], apart := false }
def DivApartSaid : Prop := divApartRow.holds Try.pinned (OpenSpec.ofChange divApartSpec)

/-- ITS FALSE NEIGHBOUR: 'it returns false'. Refute it at one input. -/
def divApartWrong : ChangeSpec := { name := "divApart", fn := fun _ => fun
  | [d1, d2, d3] => { results := [.lit (.bool false)], args := [d1, d2, d3] }
  | _ => none }
def DivApartWrongFalsely : Prop := divApartRow.holds Try.pinned (OpenSpec.ofChange divApartWrong)

/-- 'surdlaw04.DivBack': WHATEVER THE INPUT: true; the input reads as it did. -/
def divBackSpec : ChangeSpec := { name := "divBack", fn := fun _ => fun
  | [d1, d2, d3] => { results := [.lit (.bool true)], args := [d1, d2, d3] }
  | _ => none }
def divBackRow : OpenClaim := { program := "ytngohbpgdeiodaa", sum := "a065859079ec50cba5e2907300921bc96b6e3540f97c4f0c63ebf5b53d3a752b", func := "surd/surdlaw04.DivBack", spec := "divBack", inPlace := ["math/bits.Add64", "math/bits.Sub64"], recurses := true, named := ["math/bits.divideError", "math/bits.overflowError"], apart := false }
def DivBackSaid : Prop := divBackRow.holds Try.pinned (OpenSpec.ofChange divBackSpec)

/-- ITS FALSE NEIGHBOUR: 'it returns false'. Refute it at one input. -/
def divBackWrong : ChangeSpec := { name := "divBack", fn := fun _ => fun
  | [d1, d2, d3] => { results := [.lit (.bool false)], args := [d1, d2, d3] }
  | _ => none }
def DivBackWrongFalsely : Prop := divBackRow.holds Try.pinned (OpenSpec.ofChange divBackWrong)

/- THE SECOND FORM. 'bulk': how many values and letters a reading holds, each counted each time it is reached (what is shared counts as often as it is met; a slice's spare places count too). A statement '..UptoSaid' is the law's where the arguments, and the package variables that the reading takes, are together of bulk at most 1048576: NARROWER than '..Said'. Prove '..Said' where nothing that the law and all that it calls make is longer than what came in: it says more and counts as full. Else prove '..UptoSaid'. A law counts once. -/
mutual
def uptoBulk {H : Type} : DataW H → Nat
  | .lit (.string bytes) => bytes.length + 1
  | .lit _ => 1
  | .nil => 1
  | .ptr d => uptoBulk d + 1
  | .slice elems spare => uptoBulkAll elems + uptoBulkAll spare + 1
  | .agg parts => uptoBulkAll parts + 1
  | .iface _ d => uptoBulk d + 1
  | .map entries => uptoBulkEntries entries + 1
  | .held _ => 1
def uptoBulkAll {H : Type} : List (DataW H) → Nat
  | [] => 0
  | d :: r => uptoBulk d + uptoBulkAll r
def uptoBulkEntries {H : Type} : List (Lit × DataW H) → Nat
  | [] => 0
  | x :: r => uptoBulkEntry x + uptoBulkEntries r
def uptoBulkEntry {H : Type} : Lit × DataW H → Nat
  | (.string bytes, d) => bytes.length + uptoBulk d + 1
  | (_, d) => uptoBulk d + 1
 end
def uptoSmall : (H : Type) → List (DataW H) → Bool := fun _ ds => decide (uptoBulkAll ds ≤ 1048576)
def OpenSpec.upto (s : _root_.Go.ChangeSpec) : _root_.Go.OpenSpec := { _root_.Go.OpenSpec.ofChange s with cond := some uptoSmall }

/-- 'surdlaw04.DivOften', WHERE WHAT IT READS IS OF BULK AT MOST 1048576: true; the input reads as it did. -/
def divOftenUptoRow : OpenClaim := { program := "ytngohbpgdeiodaa", sum := "a065859079ec50cba5e2907300921bc96b6e3540f97c4f0c63ebf5b53d3a752b", func := "surd/surdlaw04.DivOften", spec := "divOften", inPlace := ["math/bits.Add64", "math/bits.Sub64"], named := ["math/bits.divideError", "math/bits.overflowError"], apart := false, narrowed := true }
def DivOftenUptoSaid : Prop := divOftenUptoRow.holds Try.pinned (OpenSpec.upto divOftenSpec)

/-- 'surdlaw04.DivQuos', WHERE WHAT IT READS IS OF BULK AT MOST 1048576: true; the input reads as it did. -/
def divQuosUptoRow : OpenClaim := { program := "ytngohbpgdeiodaa", sum := "a065859079ec50cba5e2907300921bc96b6e3540f97c4f0c63ebf5b53d3a752b", func := "surd/surdlaw04.DivQuos", spec := "divQuos", inPlace := ["math/bits.Add64", "math/bits.Sub64"], named := ["math/bits.divideError", "math/bits.overflowError"], apart := false, narrowed := true }
def DivQuosUptoSaid : Prop := divQuosUptoRow.holds Try.pinned (OpenSpec.upto divQuosSpec)

/-- 'surdlaw04.DivDigits', WHERE WHAT IT READS IS OF BULK AT MOST 1048576: true; the input reads as it did. -/
def divDigitsUptoRow : OpenClaim := { program := "ytngohbpgdeiodaa", sum := "a065859079ec50cba5e2907300921bc96b6e3540f97c4f0c63ebf5b53d3a752b", func := "surd/surdlaw04.DivDigits", spec := "divDigits", inPlace := ["math/bits.Add64", "math/bits.Sub64"], unfollowed := true, recurses := true, named := ["math/bits.divideError", "math/bits.overflowError"], apart := false, narrowed := true }
def DivDigitsUptoSaid : Prop := divDigitsUptoRow.holds Try.pinned (OpenSpec.upto divDigitsSpec)

/-- 'surdlaw04.DivBases', WHERE WHAT IT READS IS OF BULK AT MOST 1048576: true; the input reads as it did. -/
def divBasesUptoRow : OpenClaim := { program := "ytngohbpgdeiodaa", sum := "a065859079ec50cba5e2907300921bc96b6e3540f97c4f0c63ebf5b53d3a752b", func := "surd/surdlaw04.DivBases", spec := "divBases", inPlace := ["math/bits.Add64", "math/bits.Sub64"], recurses := true, named := ["math/bits.divideError", "math/bits.overflowError"], apart := false, narrowed := true }
def DivBasesUptoSaid : Prop := divBasesUptoRow.holds Try.pinned (OpenSpec.upto divBasesSpec)

/-- 'surdlaw04.DivTimes', WHERE WHAT IT READS IS OF BULK AT MOST 1048576: true; the input reads as it did. -/
def divTimesUptoRow : OpenClaim := { program := "ytngohbpgdeiodaa", sum := "a065859079ec50cba5e2907300921bc96b6e3540f97c4f0c63ebf5b53d3a752b", func := "surd/surdlaw04.DivTimes", spec := "divTimes", inPlace := ["math/bits.Add64", "math/bits.Sub64"], recurses := true, named := ["math/bits.divideError", "math/bits.overflowError"], apart := false, narrowed := true }
def DivTimesUptoSaid : Prop := divTimesUptoRow.holds Try.pinned (OpenSpec.upto divTimesSpec)

/-- 'surdlaw04.DivTurns', WHERE WHAT IT READS IS OF BULK AT MOST 1048576: true; the input reads as it did. -/
def divTurnsUptoRow : OpenClaim := { program := "ytngohbpgdeiodaa", sum := "a065859079ec50cba5e2907300921bc96b6e3540f97c4f0c63ebf5b53d3a752b", func := "surd/surdlaw04.DivTurns", spec := "divTurns", inPlace := ["math/bits.Add64", "math/bits.Sub64"], recurses := true, named := ["math/bits.divideError", "math/bits.overflowError"], apart := false, narrowed := true }
def DivTurnsUptoSaid : Prop := divTurnsUptoRow.holds Try.pinned (OpenSpec.upto divTurnsSpec)

/-- 'surdlaw04.DivApart', WHERE WHAT IT READS IS OF BULK AT MOST 1048576: true; the input reads as it did. -/
def divApartUptoRow : OpenClaim := { program := "ytngohbpgdeiodaa", sum := "a065859079ec50cba5e2907300921bc96b6e3540f97c4f0c63ebf5b53d3a752b", func := "surd/surdlaw04.DivApart", spec := "divApart", inPlace := ["math/bits.Add64", "math/bits.Sub64"], recurses := true, named := ["math/bits.divideError", "math/bits.overflowError"], apart := false, narrowed := true }
def DivApartUptoSaid : Prop := divApartUptoRow.holds Try.pinned (OpenSpec.upto divApartSpec)

/-- 'surdlaw04.DivBack', WHERE WHAT IT READS IS OF BULK AT MOST 1048576: true; the input reads as it did. -/
def divBackUptoRow : OpenClaim := { program := "ytngohbpgdeiodaa", sum := "a065859079ec50cba5e2907300921bc96b6e3540f97c4f0c63ebf5b53d3a752b", func := "surd/surdlaw04.DivBack", spec := "divBack", inPlace := ["math/bits.Add64", "math/bits.Sub64"], recurses := true, named := ["math/bits.divideError", "math/bits.overflowError"], apart := false, narrowed := true }
def DivBackUptoSaid : Prop := divBackUptoRow.holds Try.pinned (OpenSpec.upto divBackSpec)

end Rows
end Go.Proofs.Ytngohbpgdeiodaa
