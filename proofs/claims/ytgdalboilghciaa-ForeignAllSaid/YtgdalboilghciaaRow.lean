/- Layer 8: what the rows of its laws share. No condition. -/
import Derived.Test.YtgdalboilghciaaAlR
import Derived.Test.YtgdalboilghciaaRows
set_option maxRecDepth 100000
set_option linter.unusedSimpArgs false
set_option linter.unusedVariables false
namespace Go.Proofs.Ytgdalboilghciaa
open Go.Rx Go.ChangeShapes Go.WideShapes Go.ChangeAt Go.RowKit

theorem own : ownKnob Try.prog.godebug = none := by kernel_rfl
theorem laidOut : laidOutB Try.prog = true := by kernel_rfl
end Go.Proofs.Ytgdalboilghciaa
