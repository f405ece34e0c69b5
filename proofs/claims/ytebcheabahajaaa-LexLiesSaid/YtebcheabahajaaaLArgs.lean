/-
  lex: what the laws are handed.
-/
import Derived.Test.YtebcheabahajaaaOpen
import Derived.Test.YtebcheabahajaaaB0
namespace Go.Proofs.Ytebcheabahajaaa
open Go Go.ChangeShapes Go.WideShapes Go.ChangeAt Go.RowKit Ab
set_option linter.unusedSimpArgs false
set_option linter.unusedVariables false
set_option maxHeartbeats 10000000
theorem own : ownKnob Try.prog.godebug = none := by kernel_rfl
theorem laid : laidOutB Try.prog = true := by kernel_rfl
theorem opens_str {H : Type} {enc : TypeId × Value → H} {w : World} : Opens enc Try.prog w 9 QStr := opens_string Try.underlying9
end Go.Proofs.Ytebcheabahajaaa
