/- For every head: head.Encode, Right and Long answer as the reference's do, and a head lives (alive). No condition. -/
import Derived.Test.YtfinaphmjnajjaaRow
set_option maxRecDepth 100000
set_option linter.unusedSimpArgs false
set_option linter.unusedVariables false
namespace Go.Proofs.Ytfinaphmjnajjaa
open Go.Rx Go.ChangeShapes Go.WideShapes Go.ChangeAt Go.RowKit

theorem headWrites_lifted (os : Os) (started : os.Started) (H : Type) (enc : TypeId × Value → H) :
    ReturnsInHanded {} Try.checked os 3 .any (Rows.headWritesSpec.pre6 enc Try.prog Try.f3 Rows.headWritesRow.domain false) (Rows.headWritesSpec.post enc Try.prog Try.f3 false true false false) := by
  refine law_lifted (C := Try.checked) started own laidOut Try.func3 (by kernel_rfl) rfl (fun ds h => match ds, h with
      | [d0], _ => rfl) rfl Try.underlying4 (by kernel_rfl)
    (ChangeSpec.witness6 (enc := enc) (C := Try.checked) false ⟨#[], #[.agg #[.int .i64 0, .int .i64 0, .int .i64 0, .int .i64 0, .int .u8 0, .int .u8 0, .int .u8 0, .int .u8 0, .int .u8 0, .int .u8 0, .int .u8 0, .int .u8 0, .int .i64 0, .int .i64 0, .int .i64 0]], []⟩ 8 (by kernel_rfl) (by kernel_rfl) (by kernel_rfl) (by kernel_rfl))
    writes_ok (pl := [(true, [.k (.int .i64), .k (.int .i64), .k (.int .i64), .k (.int .i64), .k (.int .u8), .k (.int .u8), .k (.int .u8), .k (.int .u8), .k (.int .u8), .k (.int .u8), .k (.int .u8), .k (.int .u8), .k (.int .i64), .k (.int .i64), .k (.int .i64)])]) (by kernel_rfl) (by kernel_rfl) ?_
  simp only [AllP, All]
  intro ty h1 dom h2 fl h3 co h4 c0 b0 c1 b1 c2 b2 c3 b3 c4 b4 c5 b5 c6 b6 c7 b7 n h5 se h6 lo h7
  refine ⟨[], [], ?_, rfl⟩
  simp only [writesS, List.append_nil]
  rw [den_need, den_leaf]
  exact ⟨by rw [wf_in h3, wf_by b0, wf_by b1, wf_by b2, wf_by b3, wf_by b4, wf_by b5, wf_by b6, wf_by b7]; rfl, rfl⟩
theorem headWrites_holds : Rows.HeadWritesSaid :=
  OpenClaim.holds_of_wide 3 Try.f3 rfl rfl rfl rfl rfl rfl rfl ⟨rfl, rfl, rfl, rfl, rfl⟩ rfl rfl rfl rfl rfl (by kernel_rfl) Try.func3 (by kernel_rfl)
    (of_decide_eq_true (by kernel_rfl)) (by unfold Func.isWrapper; first | (rw [if_pos (by decide +kernel)]; kernel_rfl) | (rw [if_neg (by decide +kernel)]; exact ⟨rfl, rfl⟩))
    (fun os started H enc _ => headWrites_lifted os started H enc)
#print axioms headWrites_holds
end Go.Proofs.Ytfinaphmjnajjaa
