/- Layer 5: what the rows of its laws share. No condition. -/
import Derived.Test.YtfinaphmjnajjaaHdB
import Derived.Test.YtfinaphmjnajjaaRows
set_option maxRecDepth 100000
set_option linter.unusedSimpArgs false
set_option linter.unusedVariables false
namespace Go.Proofs.Ytfinaphmjnajjaa
open Go.Rx Go.ChangeShapes Go.WideShapes Go.ChangeAt Go.RowKit

theorem own : ownKnob Try.prog.godebug = none := by kernel_rfl
theorem laidOut : laidOutB Try.prog = true := by kernel_rfl

theorem wf_i64 (n : Int) : wfI .i64 n = true ↔ -9223372036854775808 ≤ n ∧ n ≤ 9223372036854775807 := by
  show (decide ((-9223372036854775808 : Int) ≤ n) && decide (n ≤ 9223372036854775807)) = true ↔ _
  simp
theorem wf_u8 (n : Int) : wfI .u8 n = true ↔ 0 ≤ n ∧ n ≤ 255 := by
  show (decide ((0 : Int) ≤ n) && decide (n ≤ 255)) = true ↔ _
  simp
theorem wf_in {n : Int} (h : wfI .i64 n = true) : inI64 n = true := by rw [inI64_iff]; exact (wf_i64 n).1 h
theorem wf_by {n : Int} (h : wfI .u8 n = true) : byteZ n = true := by rw [byteZ_iff]; exact (wf_u8 n).1 h
theorem wf_all {xs : List Int} (h : ∀ x ∈ xs, wfI .u8 x = true) : allByte xs = true := by
  unfold allByte
  rw [List.all_eq_true]
  exact fun x hx => wf_by (h x hx)
end Go.Proofs.Ytfinaphmjnajjaa
