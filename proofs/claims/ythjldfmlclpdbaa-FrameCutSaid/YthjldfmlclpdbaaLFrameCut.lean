/- For every message, cut anywhere, and with any bytes behind it: it is none. No condition. -/
import Derived.Test.YthjldfmlclpdbaaRow
set_option maxRecDepth 100000
set_option linter.unusedSimpArgs false
set_option linter.unusedVariables false
namespace Go.Proofs.Ythjldfmlclpdbaa
open Go.Rx Go.ChangeShapes Go.WideShapes Go.ChangeAt Go.RowKit

theorem frameCut_lifted (os : Os) (started : os.Started) (H : Type) (enc : TypeId × Value → H) :
    ReturnsInHanded {} Try.checked os 7 .any (Rows.frameCutSpec.pre6 enc Try.prog Try.f7 Rows.frameCutRow.domain false) (Rows.frameCutSpec.post enc Try.prog Try.f7 false true false false) := by
  refine law_lifted (C := Try.checked) started own laidOut Try.func7 (by kernel_rfl) rfl (fun ds h => match ds, h with
      | [d0, d1, d2], _ => rfl) rfl Try.underlying4 (by kernel_rfl)
    (ChangeSpec.witness6 (enc := enc) (C := Try.checked) false ⟨#[], #[.agg #[.int .i64 0, .int .i64 0, .int .i64 0, .int .i64 0, .int .u8 0, .int .u8 0, .int .u8 0, .int .u8 0, .int .u8 0, .int .u8 0, .int .u8 0, .int .u8 0, .int .i64 0, .int .i64 0, .int .i64 0, .int .i64 0, .int .i64 0, .int .u8 0, .int .u8 0, .int .u8 0, .int .u8 0, .int .u8 0, .int .u8 0, .int .u8 0, .int .u8 0, .int .i64 0, .int .i64 0, .int .i64 0, .int .i64 0, .int .i64 0, .int .i64 0, .int .i64 0, .int .u8 0, .int .u8 0, .int .u8 0, .int .u8 0, .int .u8 0, .int .u8 0, .int .u8 0, .int .u8 0, .int .i64 0, .int .u8 0, .int .u8 0, .int .u8 0, .int .u8 0, .int .u8 0, .int .u8 0, .int .u8 0, .int .u8 0, .int .i64 0, .int .u8 0, .int .u8 0, .int .u8 0, .int .u8 0, .int .u8 0, .int .u8 0, .int .u8 0, .int .u8 0, .int .i64 0, .int .i64 0], .int .i64 0, .slice none 0 0], []⟩ 8 (by kernel_rfl) (by kernel_rfl) (by kernel_rfl) (by kernel_rfl))
    fcut_ok (pl := [(true, [.k (.int .i64), .k (.int .i64), .k (.int .i64), .k (.int .i64), .k (.int .u8), .k (.int .u8), .k (.int .u8), .k (.int .u8), .k (.int .u8), .k (.int .u8), .k (.int .u8), .k (.int .u8), .k (.int .i64), .k (.int .i64), .k (.int .i64), .k (.int .i64), .k (.int .i64), .k (.int .u8), .k (.int .u8), .k (.int .u8), .k (.int .u8), .k (.int .u8), .k (.int .u8), .k (.int .u8), .k (.int .u8), .k (.int .i64), .k (.int .i64), .k (.int .i64), .k (.int .i64), .k (.int .i64), .k (.int .i64), .k (.int .i64), .k (.int .u8), .k (.int .u8), .k (.int .u8), .k (.int .u8), .k (.int .u8), .k (.int .u8), .k (.int .u8), .k (.int .u8), .k (.int .i64), .k (.int .u8), .k (.int .u8), .k (.int .u8), .k (.int .u8), .k (.int .u8), .k (.int .u8), .k (.int .u8), .k (.int .u8), .k (.int .i64), .k (.int .u8), .k (.int .u8), .k (.int .u8), .k (.int .u8), .k (.int .u8), .k (.int .u8), .k (.int .u8), .k (.int .u8), .k (.int .i64), .k (.int .i64)]), (false, [.k (.int .i64)]), (false, [.sl 1 [.int .u8]])]) (by kernel_rfl) (by kernel_rfl) ?_
  simp only [AllP, All]
  intro x0 h0 x1 h1 x2 h2 x3 h3 x4 h4 x5 h5 x6 h6 x7 h7 x8 h8 x9 h9 x10 h10 x11 h11 x12 h12 x13 h13 x14 h14 x15 h15 x16 h16 x17 h17 x18 h18 x19 h19 x20 h20 x21 h21 x22 h22 x23 h23 x24 h24 x25 h25 x26 h26 x27 h27 x28 h28 x29 h29 x30 h30 x31 h31 x32 h32 x33 h33 x34 h34 x35 h35 x36 h36 x37 h37 x38 h38 x39 h39 x40 h40 x41 h41 x42 h42 x43 h43 x44 h44 x45 h45 x46 h46 x47 h47 x48 h48 x49 h49 x50 h50 x51 h51 x52 h52 x53 h53 x54 h54 x55 h55 x56 h56 x57 h57 x58 h58 x59 h59 x60 h60 r61 g61 k61
  exact ⟨[none], [], needOk (by simp only [msgZ, ckZ, wf_in h2, wf_in h3, wf_by h4, wf_by h5, wf_by h6, wf_by h7, wf_by h8, wf_by h9, wf_by h10, wf_by h11, wf_by h17, wf_by h18, wf_by h19, wf_by h20, wf_by h21, wf_by h22, wf_by h23, wf_by h24, wf_by h32, wf_by h33, wf_by h34, wf_by h35, wf_by h36, wf_by h37, wf_by h38, wf_by h39, Bool.and_self]) (needOk (by simp only [all_by g61, decide_true, Bool.true_and, decide_eq_true_eq]; omega) (rfl)), rfl⟩
theorem frameCut_holds : Rows.FrameCutSaid :=
  OpenClaim.holds_of_wide 7 Try.f7 rfl rfl rfl rfl rfl rfl rfl ⟨rfl, rfl, rfl, rfl, rfl⟩ rfl rfl rfl rfl rfl (by kernel_rfl) Try.func7 (by kernel_rfl)
    (of_decide_eq_true (by kernel_rfl)) (by unfold Func.isWrapper; first | (rw [if_pos (by decide +kernel)]; kernel_rfl) | (rw [if_neg (by decide +kernel)]; exact ⟨rfl, rfl⟩))
    (fun os started H enc _ => frameCut_lifted os started H enc)
#print axioms frameCut_holds
end Go.Proofs.Ythjldfmlclpdbaa
