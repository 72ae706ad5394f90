/- For every clock and note: what a clock says that follows nobody, and how it is compared, is the reference's. No condition. -/
import Derived.Test.YtkclmkjekllkiaaRow
set_option maxRecDepth 100000
set_option linter.unusedSimpArgs false
set_option linter.unusedVariables false
namespace Go.Proofs.Ytkclmkjekllkiaa
open Go.Rx Go.ChangeShapes Go.WideShapes Go.ChangeAt Go.RowKit

theorem setsOwn_lifted (os : Os) (started : os.Started) (H : Type) (enc : TypeId × Value → H) :
    ReturnsInHanded {} Try.checked os 3 .any (Rows.setsOwnSpec.pre6 enc Try.prog Try.f3 Rows.setsOwnRow.domain false) (Rows.setsOwnSpec.post enc Try.prog Try.f3 false true false false) := by
  refine law_lifted (C := Try.checked) started own laidOut Try.func3 (by kernel_rfl) rfl (fun ds h => match ds, h with
      | [d0, d1], _ => rfl) rfl Try.underlying4 (by kernel_rfl)
    (ChangeSpec.witness6 (enc := enc) (C := Try.checked) false ⟨#[], #[.agg #[.int .u8 0, .int .u8 0, .int .u8 0, .int .u8 0, .int .u8 0, .int .u8 0, .int .u8 0, .int .u8 0, .int .i64 0, .int .i64 0, .int .i64 0, .int .i64 0, .int .i64 0, .int .i64 0, .int .i64 0, .bool false, .slice none 0 0], .agg #[.int .i64 0, .bool false, .bool false, .bool false]], []⟩ 8 (by kernel_rfl) (by kernel_rfl) (by kernel_rfl) (by kernel_rfl))
    own_ok (pl := [(true, [.k (.int .u8), .k (.int .u8), .k (.int .u8), .k (.int .u8), .k (.int .u8), .k (.int .u8), .k (.int .u8), .k (.int .u8), .k (.int .i64), .k (.int .i64), .k (.int .i64), .k (.int .i64), .k (.int .i64), .k (.int .i64), .k (.int .i64), .k (.bool), .sl 48 [.int .i64, .int .i64, .int .i64, .int .i64, .int .i64, .int .i64]]), (true, [.k (.int .i64), .k (.bool), .k (.bool), .k (.bool)])]) (by kernel_rfl) (by kernel_rfl) ?_
  simp only [AllP, All]
  intro x0 h0 x1 h1 x2 h2 x3 h3 x4 h4 x5 h5 x6 h6 x7 h7 x8 h8 x9 h9 x10 h10 x11 h11 x12 h12 x13 h13 x14 h14 x15 r16 g16 k16 x17 h17 x18 x19 x20
  exact ⟨[none], [], rfl, rfl⟩
theorem setsOwn_holds : Rows.SetsOwnSaid :=
  OpenClaim.holds_of_wide 3 Try.f3 rfl rfl rfl rfl rfl rfl rfl ⟨rfl, rfl, rfl, rfl, rfl⟩ rfl rfl rfl rfl rfl (by kernel_rfl) Try.func3 (by kernel_rfl)
    (of_decide_eq_true (by kernel_rfl)) (by unfold Func.isWrapper; first | (rw [if_pos (by decide +kernel)]; kernel_rfl) | (rw [if_neg (by decide +kernel)]; exact ⟨rfl, rfl⟩))
    (fun os started H enc _ => setsOwn_lifted os started H enc)
#print axioms setsOwn_holds
end Go.Proofs.Ytkclmkjekllkiaa
