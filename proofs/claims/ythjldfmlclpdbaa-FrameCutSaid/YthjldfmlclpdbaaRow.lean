/- Layer 6: what the rows of its laws share. No condition. -/
import Derived.Test.YthjldfmlclpdbaaFrH
import Derived.Test.YthjldfmlclpdbaaRows
set_option maxRecDepth 100000
set_option linter.unusedSimpArgs false
set_option linter.unusedVariables false
namespace Go.Proofs.Ythjldfmlclpdbaa
open Go.Rx Go.ChangeShapes Go.WideShapes Go.ChangeAt Go.RowKit

theorem own : ownKnob Try.prog.godebug = none := by kernel_rfl
theorem laidOut : laidOutB Try.prog = true := by kernel_rfl
theorem wf_in {n : Int} (h : wfI .i64 n = true) : inI64 n = true := by
  have h : (decide ((-9223372036854775808 : Int) ≤ n) && decide (n ≤ 9223372036854775807)) = true := h
  exact h
theorem wf_by {n : Int} (h : wfI .u8 n = true) : byteZ n = true := by
  have h : (decide ((0 : Int) ≤ n) && decide (n ≤ 255)) = true := h
  exact h
theorem needOk {c : Bool} {t : Rx.Tree Res} {r : Res} (h : c = true) (g : t.den = some r) : (Rx.Tree.need c t).den = some r := by
  rw [den_need]; exact ⟨h, g⟩
theorem all_by {xs : List Int} (h : ∀ x ∈ xs, wfI .u8 x = true) : allByte xs = true := by
  simp only [allByte, List.all_eq_true]
  intro x hx
  exact wf_by (h x hx)
theorem len_by {n : Nat} (h : n * 1 ≤ 140737488351232) : decide (n ≤ 9223372036854775806) = true := by
  simp only [decide_eq_true_eq]; omega
end Go.Proofs.Ythjldfmlclpdbaa
