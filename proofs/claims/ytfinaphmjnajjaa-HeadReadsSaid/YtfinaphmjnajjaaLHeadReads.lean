/- For all bytes: head.Decode answers as the reference's does. No condition. -/
import Derived.Test.YtfinaphmjnajjaaRow
set_option maxRecDepth 100000
set_option linter.unusedSimpArgs false
set_option linter.unusedVariables false
namespace Go.Proofs.Ytfinaphmjnajjaa
open Go.Rx Go.ChangeShapes Go.WideShapes Go.ChangeAt Go.RowKit

theorem headReads_lifted (os : Os) (started : os.Started) (H : Type) (enc : TypeId × Value → H) :
    ReturnsInHanded {} Try.checked os 4 .any (Rows.headReadsSpec.pre6 enc Try.prog Try.f4 Rows.headReadsRow.domain false) (Rows.headReadsSpec.post enc Try.prog Try.f4 false true false false) := by
  refine law_lifted (C := Try.checked) started own laidOut Try.func4 (by kernel_rfl) rfl (fun ds h => match ds, h with
      | [d0], _ => rfl) rfl Try.underlying4 (by kernel_rfl)
    (ChangeSpec.witness6 (enc := enc) (C := Try.checked) false ⟨#[], #[.slice none 0 0], []⟩ 8 (by kernel_rfl) (by kernel_rfl) (by kernel_rfl) (by kernel_rfl))
    reads_ok (pl := [(false, [.sl 1 [.int .u8]])]) (by kernel_rfl) (by kernel_rfl) ?_
  simp only [AllP, All]
  intro xs h1 h2
  have hl : xs.length ≤ 140737488351232 := by omega
  refine ⟨[none], [], ?_, rfl⟩
  simp only [readsS, List.append_nil, List.nil_append, List.cons_append]
  rw [den_need, den_leaf]
  exact ⟨by rw [wf_all h1]; simp; omega, rfl⟩
theorem headReads_holds : Rows.HeadReadsSaid :=
  OpenClaim.holds_of_wide 4 Try.f4 rfl rfl rfl rfl rfl rfl rfl ⟨rfl, rfl, rfl, rfl, rfl⟩ rfl rfl rfl rfl rfl (by kernel_rfl) Try.func4 (by kernel_rfl)
    (of_decide_eq_true (by kernel_rfl)) (by unfold Func.isWrapper; first | (rw [if_pos (by decide +kernel)]; kernel_rfl) | (rw [if_neg (by decide +kernel)]; exact ⟨rfl, rfl⟩))
    (fun os started H enc _ => headReads_lifted os started H enc)
#print axioms headReads_holds
end Go.Proofs.Ytfinaphmjnajjaa
