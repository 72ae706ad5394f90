/- For every type and all bytes: bytes of another length than the type's are no message. No condition. -/
import Derived.Test.YtfinaphmjnajjaaRow
set_option maxRecDepth 100000
set_option linter.unusedSimpArgs false
set_option linter.unusedVariables false
namespace Go.Proofs.Ytfinaphmjnajjaa
open Go.Rx Go.ChangeShapes Go.WideShapes Go.ChangeAt Go.RowKit

theorem headLong_lifted (os : Os) (started : os.Started) (H : Type) (enc : TypeId × Value → H) :
    ReturnsInHanded {} Try.checked os 9 .any (Rows.headLongSpec.pre6 enc Try.prog Try.f9 Rows.headLongRow.domain false) (Rows.headLongSpec.post enc Try.prog Try.f9 false true false false) := by
  refine law_lifted (C := Try.checked) started own laidOut Try.func9 (by kernel_rfl) rfl (fun ds h => match ds, h with
      | [d0, d1], _ => rfl) rfl Try.underlying4 (by kernel_rfl)
    (ChangeSpec.witness6 (enc := enc) (C := Try.checked) false ⟨#[], #[.int .i64 0, .slice none 0 0], []⟩ 8 (by kernel_rfl) (by kernel_rfl) (by kernel_rfl) (by kernel_rfl))
    longl_ok (pl := [(false, [.k (.int .i64)]), (false, [.sl 1 [.int .u8]])]) (by kernel_rfl) (by kernel_rfl) ?_
  simp only [AllP, All]
  intro k h0 xs h1 h2
  refine ⟨[none], [], ?_, rfl⟩
  simp only [longlS, List.append_nil, List.nil_append, List.cons_append]
  rw [den_need, den_leaf]
  exact ⟨by rw [wf_all h1]; simp, rfl⟩
theorem headLong_holds : Rows.HeadLongSaid :=
  OpenClaim.holds_of_wide 9 Try.f9 rfl rfl rfl rfl rfl rfl rfl ⟨rfl, rfl, rfl, rfl, rfl⟩ rfl rfl rfl rfl rfl (by kernel_rfl) Try.func9 (by kernel_rfl)
    (of_decide_eq_true (by kernel_rfl)) (by unfold Func.isWrapper; first | (rw [if_pos (by decide +kernel)]; kernel_rfl) | (rw [if_neg (by decide +kernel)]; exact ⟨rfl, rfl⟩))
    (fun os started H enc _ => headLong_lifted os started H enc)
#print axioms headLong_holds
end Go.Proofs.Ytfinaphmjnajjaa
