/- For every seat, every script of calls and every time, the law ForeignAll answers true: each call is answered as the document says, and who is there, what was heard last and who was heard often enough is what it says. No condition. -/
import Derived.Test.YtgdalboilghciaaRow
set_option maxRecDepth 100000
set_option linter.unusedSimpArgs false
set_option linter.unusedVariables false
namespace Go.Proofs.Ytgdalboilghciaa
open Go.Rx Go.ChangeShapes Go.WideShapes Go.ChangeAt Go.RowKit

theorem foreignAll_lifted (os : Os) (started : os.Started) (H : Type) (enc : TypeId × Value → H) :
    ReturnsInHanded {} Try.checked os 7 .any (Rows.foreignAllSpec.pre6 enc Try.prog Try.f7 Rows.foreignAllRow.domain false) (Rows.foreignAllSpec.post enc Try.prog Try.f7 false true false false) := by
  refine law_lifted (C := Try.checked) ⟨rfl, fun _ => trivial⟩ started own laidOut Try.func7 (by kernel_rfl) rfl (fun ds h => match ds, h with
      | [d0, d1, d2], _ => rfl) rfl Try.underlying4 (by kernel_rfl)
    (ChangeSpec.witness6 (enc := enc) (C := Try.checked) false ⟨#[], #[.agg #[.int .u8 0, .int .u8 0, .int .u8 0, .int .u8 0, .int .u8 0, .int .u8 0, .int .u8 0, .int .u8 0, .int .i64 0], .slice none 0 0, .int .i64 0], []⟩ 8 (by kernel_rfl) (by kernel_rfl) (by kernel_rfl) (by kernel_rfl))
    ak_ok (pl := [(true, [.k (.int .u8), .k (.int .u8), .k (.int .u8), .k (.int .u8), .k (.int .u8), .k (.int .u8), .k (.int .u8), .k (.int .u8), .k (.int .i64)]), (false, [.sl 104 [.int .i64, .int .i64, .int .i64, .int .i64, .int .i64, .int .i64, .int .i64, .int .u8, .int .u8, .int .u8, .int .u8, .int .u8, .int .u8, .int .u8, .int .u8, .int .i64, .int .u8, .int .u8, .int .u8, .int .u8, .int .u8, .int .u8, .int .u8, .int .u8, .int .i64, .int .u8, .int .u8, .int .u8, .int .u8, .int .u8, .int .u8, .int .u8, .int .u8, .int .i64]]), (false, [.k (.int .i64)])]) (by kernel_rfl) (by kernel_rfl) ?_
  simp only [AllP, All]
  intro x0 h0 x1 h1 x2 h2 x3 h3 x4 h4 x5 h5 x6 h6 x7 h7 x8 h8 r9 g9 k9 x10 h10
  obtain ⟨l, h1, h2⟩ := rows_opp g9
  have ho : okO r9.length r9 = true := okO_iff.2 ⟨l, h1, h2⟩
  refine ⟨[none], [], ?_, rfl⟩
  refine Eq.trans (b := (Tree.need (okO r9.length r9) (.leaf (⟨.bool true, [none], []⟩ : Res))).den) (by kernel_rfl) ?_
  rw [ho]
  rfl
theorem foreignAll_holds : Rows.ForeignAllSaid :=
  OpenClaim.holds_of_wide 7 Try.f7 rfl rfl rfl rfl rfl rfl rfl ⟨rfl, rfl, rfl, rfl, rfl⟩ rfl rfl rfl rfl rfl (by kernel_rfl) Try.func7 (by kernel_rfl)
    (of_decide_eq_true (by kernel_rfl)) (by unfold Func.isWrapper; first | (rw [if_pos (by decide +kernel)]; kernel_rfl) | (rw [if_neg (by decide +kernel)]; exact ⟨rfl, rfl⟩))
    (fun os started H enc _ => foreignAll_lifted os started H enc)
#print axioms foreignAll_holds
end Go.Proofs.Ytgdalboilghciaa
