/- For every head and all bytes: what was written is read as it was, and what was read is written as the same bytes. No condition. -/
import Derived.Test.YtfinaphmjnajjaaRow
set_option maxRecDepth 100000
set_option linter.unusedSimpArgs false
set_option linter.unusedVariables false
namespace Go.Proofs.Ytfinaphmjnajjaa
open Go.Rx Go.ChangeShapes Go.WideShapes Go.ChangeAt Go.RowKit

theorem headBack_lifted (os : Os) (started : os.Started) (H : Type) (enc : TypeId × Value → H) :
    ReturnsInHanded {} Try.checked os 5 .any (Rows.headBackSpec.pre6 enc Try.prog Try.f5 Rows.headBackRow.domain false) (Rows.headBackSpec.post enc Try.prog Try.f5 false true false false) := by
  refine law_lifted (C := Try.checked) started own laidOut Try.func5 (by kernel_rfl) rfl (fun ds h => match ds, h with
      | [d0, d1], _ => rfl) rfl Try.underlying4 (by kernel_rfl)
    (ChangeSpec.witness6 (enc := enc) (C := Try.checked) false ⟨#[], #[.agg #[.int .i64 0, .int .i64 0, .int .i64 0, .int .i64 0, .int .u8 0, .int .u8 0, .int .u8 0, .int .u8 0, .int .u8 0, .int .u8 0, .int .u8 0, .int .u8 0, .int .i64 0, .int .i64 0, .int .i64 0], .slice none 0 0], []⟩ 8 (by kernel_rfl) (by kernel_rfl) (by kernel_rfl) (by kernel_rfl))
    back_ok (pl := [(true, [.k (.int .i64), .k (.int .i64), .k (.int .i64), .k (.int .i64), .k (.int .u8), .k (.int .u8), .k (.int .u8), .k (.int .u8), .k (.int .u8), .k (.int .u8), .k (.int .u8), .k (.int .u8), .k (.int .i64), .k (.int .i64), .k (.int .i64)]), (false, [.sl 1 [.int .u8]])]) (by kernel_rfl) (by kernel_rfl) ?_
  simp only [AllP, All]
  intro ty h1 dom h2 fl h3 co h4 c0 b0 c1 b1 c2 b2 c3 b3 c4 b4 c5 b5 c6 b6 c7 b7 n h5 se h6 lo h7
  intro xs g1 g2
  have hl : xs.length ≤ 140737488351232 := by omega
  refine ⟨[none], [], ?_, rfl⟩
  simp only [backS, List.append_nil, List.nil_append, List.cons_append]
  rw [den_need, den_need, den_leaf]
  exact ⟨by rw [wf_in h3, wf_by b0, wf_by b1, wf_by b2, wf_by b3, wf_by b4, wf_by b5, wf_by b6, wf_by b7]; rfl, by rw [wf_in h4, wf_all g1]; simp; omega, rfl⟩
theorem headBack_holds : Rows.HeadBackSaid :=
  OpenClaim.holds_of_wide 5 Try.f5 rfl rfl rfl rfl rfl rfl rfl ⟨rfl, rfl, rfl, rfl, rfl⟩ rfl rfl rfl rfl rfl (by kernel_rfl) Try.func5 (by kernel_rfl)
    (of_decide_eq_true (by kernel_rfl)) (by unfold Func.isWrapper; first | (rw [if_pos (by decide +kernel)]; kernel_rfl) | (rw [if_neg (by decide +kernel)]; exact ⟨rfl, rfl⟩))
    (fun os started H enc _ => headBack_lifted os started H enc)
#print axioms headBack_holds
end Go.Proofs.Ytfinaphmjnajjaa
