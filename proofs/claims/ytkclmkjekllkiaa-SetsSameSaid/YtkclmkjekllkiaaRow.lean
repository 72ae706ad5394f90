/- Layer 20: what the rows of its laws share. No condition. -/
import Derived.Test.YtkclmkjekllkiaaStD
import Derived.Test.YtkclmkjekllkiaaRows
set_option maxRecDepth 100000
set_option linter.unusedSimpArgs false
set_option linter.unusedVariables false
namespace Go.Proofs.Ytkclmkjekllkiaa
open Go.Rx Go.ChangeShapes Go.WideShapes Go.ChangeAt Go.RowKit

theorem own : ownKnob Try.prog.godebug = none := by kernel_rfl
theorem laidOut : laidOutB Try.prog = true := by kernel_rfl
theorem wf_in {n : Int} (h : wfI .i64 n = true) : inI64 n = true := by
  have h : (decide ((-9223372036854775808 : Int) ≤ n) && decide (n ≤ 9223372036854775807)) = true := h
  exact h
end Go.Proofs.Ytkclmkjekllkiaa
