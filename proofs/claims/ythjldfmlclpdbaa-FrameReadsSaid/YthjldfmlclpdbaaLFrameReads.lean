/- For all bytes: what is read of them, or what is amiss first. No condition. -/
import Derived.Test.YthjldfmlclpdbaaRow
set_option maxRecDepth 100000
set_option linter.unusedSimpArgs false
set_option linter.unusedVariables false
namespace Go.Proofs.Ythjldfmlclpdbaa
open Go.Rx Go.ChangeShapes Go.WideShapes Go.ChangeAt Go.RowKit

theorem frameReads_lifted (os : Os) (started : os.Started) (H : Type) (enc : TypeId × Value → H) :
    ReturnsInHanded {} Try.checked os 4 .any (Rows.frameReadsSpec.pre6 enc Try.prog Try.f4 Rows.frameReadsRow.domain false) (Rows.frameReadsSpec.post enc Try.prog Try.f4 false true false false) := by
  refine law_lifted (C := Try.checked) started own laidOut Try.func4 (by kernel_rfl) rfl (fun ds h => match ds, h with
      | [d0], _ => rfl) rfl Try.underlying4 (by kernel_rfl)
    (ChangeSpec.witness6 (enc := enc) (C := Try.checked) false ⟨#[], #[.slice none 0 0], []⟩ 8 (by kernel_rfl) (by kernel_rfl) (by kernel_rfl) (by kernel_rfl))
    fr_ok (pl := [(false, [.sl 1 [.int .u8]])]) (by kernel_rfl) (by kernel_rfl) ?_
  simp only [AllP, All]
  intro r0 g0 k0
  exact ⟨[none], [], needOk (by simp only [all_by g0, len_by k0, decide_true, Bool.and_self]) (rfl), rfl⟩
theorem frameReads_holds : Rows.FrameReadsSaid :=
  OpenClaim.holds_of_wide 4 Try.f4 rfl rfl rfl rfl rfl rfl rfl ⟨rfl, rfl, rfl, rfl, rfl⟩ rfl rfl rfl rfl rfl (by kernel_rfl) Try.func4 (by kernel_rfl)
    (of_decide_eq_true (by kernel_rfl)) (by unfold Func.isWrapper; first | (rw [if_pos (by decide +kernel)]; kernel_rfl) | (rw [if_neg (by decide +kernel)]; exact ⟨rfl, rfl⟩))
    (fun os started H enc _ => frameReads_lifted os started H enc)
#print axioms frameReads_holds
end Go.Proofs.Ythjldfmlclpdbaa
