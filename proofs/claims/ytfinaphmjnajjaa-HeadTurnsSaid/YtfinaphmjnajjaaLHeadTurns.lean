/- For all numbers: as many numbers behind one as are said, fewer than half of all, are behind it. No condition. -/
import Derived.Test.YtfinaphmjnajjaaRow
set_option maxRecDepth 100000
set_option linter.unusedSimpArgs false
set_option linter.unusedVariables false
namespace Go.Proofs.Ytfinaphmjnajjaa
open Go.Rx Go.ChangeShapes Go.WideShapes Go.ChangeAt Go.RowKit

theorem headTurns_lifted (os : Os) (started : os.Started) (H : Type) (enc : TypeId × Value → H) :
    ReturnsInHanded {} Try.checked os 7 .any (Rows.headTurnsSpec.pre6 enc Try.prog Try.f7 Rows.headTurnsRow.domain false) (Rows.headTurnsSpec.post enc Try.prog Try.f7 false true false false) := by
  refine law_lifted (C := Try.checked) started own laidOut Try.func7 (by kernel_rfl) rfl (fun ds h => match ds, h with
      | [d0, d1], _ => rfl) rfl Try.underlying4 (by kernel_rfl)
    (ChangeSpec.witness6 (enc := enc) (C := Try.checked) false ⟨#[], #[.int .i64 0, .int .i64 0], []⟩ 8 (by kernel_rfl) (by kernel_rfl) (by kernel_rfl) (by kernel_rfl))
    turns_ok (pl := [(false, [.k (.int .i64)]), (false, [.k (.int .i64)])]) (by kernel_rfl) (by kernel_rfl) ?_
  simp only [AllP, All]
  intro x h1 y h2
  exact ⟨[], [], rfl, rfl⟩
theorem headTurns_holds : Rows.HeadTurnsSaid :=
  OpenClaim.holds_of_wide 7 Try.f7 rfl rfl rfl rfl rfl rfl rfl ⟨rfl, rfl, rfl, rfl, rfl⟩ rfl rfl rfl rfl rfl (by kernel_rfl) Try.func7 (by kernel_rfl)
    (of_decide_eq_true (by kernel_rfl)) (by unfold Func.isWrapper; first | (rw [if_pos (by decide +kernel)]; kernel_rfl) | (rw [if_neg (by decide +kernel)]; exact ⟨rfl, rfl⟩))
    (fun os started H enc _ => headTurns_lifted os started H enc)
#print axioms headTurns_holds
end Go.Proofs.Ytfinaphmjnajjaa
