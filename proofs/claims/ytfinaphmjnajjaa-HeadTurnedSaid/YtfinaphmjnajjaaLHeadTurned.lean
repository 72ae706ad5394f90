/- For every head: one byte of it turned is no head, or another one. No condition. -/
import Derived.Test.YtfinaphmjnajjaaRow
set_option maxRecDepth 100000
set_option linter.unusedSimpArgs false
set_option linter.unusedVariables false
namespace Go.Proofs.Ytfinaphmjnajjaa
open Go.Rx Go.ChangeShapes Go.WideShapes Go.ChangeAt Go.RowKit

theorem headTurned_lifted (os : Os) (started : os.Started) (H : Type) (enc : TypeId × Value → H) :
    ReturnsInHanded {} Try.checked os 8 .any (Rows.headTurnedSpec.pre6 enc Try.prog Try.f8 Rows.headTurnedRow.domain false) (Rows.headTurnedSpec.post enc Try.prog Try.f8 false true false false) := by
  refine law_lifted (C := Try.checked) started own laidOut Try.func8 (by kernel_rfl) rfl (fun ds h => match ds, h with
      | [d0, d1, d2], _ => rfl) rfl Try.underlying4 (by kernel_rfl)
    (ChangeSpec.witness6 (enc := enc) (C := Try.checked) false ⟨#[], #[.agg #[.int .i64 0, .int .i64 0, .int .i64 0, .int .i64 0, .int .u8 0, .int .u8 0, .int .u8 0, .int .u8 0, .int .u8 0, .int .u8 0, .int .u8 0, .int .u8 0, .int .i64 0, .int .i64 0, .int .i64 0], .int .i64 0, .int .i64 0], []⟩ 8 (by kernel_rfl) (by kernel_rfl) (by kernel_rfl) (by kernel_rfl))
    turned_ok (pl := [(true, [.k (.int .i64), .k (.int .i64), .k (.int .i64), .k (.int .i64), .k (.int .u8), .k (.int .u8), .k (.int .u8), .k (.int .u8), .k (.int .u8), .k (.int .u8), .k (.int .u8), .k (.int .u8), .k (.int .i64), .k (.int .i64), .k (.int .i64)]), (false, [.k (.int .i64)]), (false, [.k (.int .i64)])]) (by kernel_rfl) (by kernel_rfl) ?_
  simp only [AllP, All]
  intro ty h1 dom h2 fl h3 co h4 c0 b0 c1 b1 c2 b2 c3 b3 c4 b4 c5 b5 c6 b6 c7 b7 n h5 se h6 lo h7
  intro at' g1 tu g2
  refine ⟨[], [], ?_, rfl⟩
  simp only [turnedS, List.append_nil, List.nil_append, List.cons_append]
  rw [den_need, den_need, den_leaf]
  exact ⟨by rw [wf_in h3, wf_by b0, wf_by b1, wf_by b2, wf_by b3, wf_by b4, wf_by b5, wf_by b6, wf_by b7]; rfl, wf_in h4, rfl⟩
theorem headTurned_holds : Rows.HeadTurnedSaid :=
  OpenClaim.holds_of_wide 8 Try.f8 rfl rfl rfl rfl rfl rfl rfl ⟨rfl, rfl, rfl, rfl, rfl⟩ rfl rfl rfl rfl rfl (by kernel_rfl) Try.func8 (by kernel_rfl)
    (of_decide_eq_true (by kernel_rfl)) (by unfold Func.isWrapper; first | (rw [if_pos (by decide +kernel)]; kernel_rfl) | (rw [if_neg (by decide +kernel)]; exact ⟨rfl, rfl⟩))
    (fun os started H enc _ => headTurned_lifted os started H enc)
#print axioms headTurned_holds
end Go.Proofs.Ytfinaphmjnajjaa
