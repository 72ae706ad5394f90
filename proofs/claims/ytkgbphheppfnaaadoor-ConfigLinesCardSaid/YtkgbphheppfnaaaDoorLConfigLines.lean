/- For every configuration with which nothing is amiss: its text without one of its first seven lines, or with one twice, is none, and it is told where. Condition: the package variables that the row lists start as the program's text lays them. -/
import Derived.Test.YtkgbphheppfnaaaDoorRow
set_option maxRecDepth 100000
set_option linter.unusedSimpArgs false
set_option linter.unusedVariables false
namespace Go.Proofs.YtkgbphheppfnaaaDoor
open Go.Rx Go.ChangeShapes Go.WideShapes Go.ChangeAt Go.RowKit

theorem configLines_lifted (os : Os) (started : os.Started) (H : Type) (enc : TypeId × Value → H) :
    ReturnsInHanded {} Tryd.checked os 5 .any (fun w args => (Rows.configLinesSpec.pre enc Tryd.prog Tryd.f5 Rows.configLinesRow.domain false w args ∧ laidX w args) ∧ sizedMet enc Tryd.prog Tryd.f5 (OpenSpec.ofChange Rows.configLinesSpec) false w args) (Rows.configLinesSpec.post enc Tryd.prog Tryd.f5 false true false false) := by
  refine law_lifted_shaped (C := Tryd.checked) started own laidOut Tryd.func5 (by kernel_rfl) (X := laidX) (fun _ _ _ hh h => laidMet.of_heap hh h) rfl (fun ds h => match ds, h with
      | [d0, d1, d2], _ => rfl) rfl Tryd.underlying4 (by kernel_rfl)
    (ChangeSpec.witness_shaped (enc := enc) (C := Tryd.checked) (os := os) (X := laidX) false (laidWorld os) #[.agg #[.int .u8 0, .int .u8 0, .int .u8 0, .int .u8 0, .int .u8 0, .int .u8 0, .int .u8 0, .int .u8 0, .int .i64 0, .int .i64 0, .int .i64 0, .int .i64 0, .int .i64 0, .int .i64 0, .int .i64 0, .bool false, .slice none 0 0], .int .i64 0, .bool false] 8 (World.laidAll_os _ _ _) (World.shaped_of_ZipB (by kernel_rfl) (by kernel_rfl)) (by kernel_rfl) (by kernel_rfl) (by kernel_rfl) (laidWorld_met os _))
    cl_ok (pl := [(true, [.k (.int .u8), .k (.int .u8), .k (.int .u8), .k (.int .u8), .k (.int .u8), .k (.int .u8), .k (.int .u8), .k (.int .u8), .k (.int .i64), .k (.int .i64), .k (.int .i64), .k (.int .i64), .k (.int .i64), .k (.int .i64), .k (.int .i64), .k (.bool), .sl 48 [.int .i64, .int .i64, .int .i64, .int .i64, .int .i64, .int .i64]]), (false, [.k (.int .i64)]), (false, [.k (.bool)])]) (by kernel_rfl) (by kernel_rfl) (by kernel_rfl) ?_ laid_glob laid_kind
  simp only [AllP, All]
  intro x0 h0 x1 h1 x2 h2 x3 h3 x4 h4 x5 h5 x6 h6 x7 h7 x8 h8 x9 h9 x10 h10 x11 h11 x12 h12 x13 h13 x14 h14 x15 rs hk hb k h16 tw
  have hc : cfI (⟨⟨x0, x1, x2, x3, x4, x5, x6, x7⟩, x8, x9, x10, ⟨x11, x12, x13⟩, x14, x15⟩ : Cfh) = true := by
    simp only [cfI, ckB, wf_u8 h0, wf_u8 h1, wf_u8 h2, wf_u8 h3, wf_u8 h4, wf_u8 h5, wf_u8 h6, wf_u8 h7, wf_in h8, wf_in h9, wf_in h10, wf_in h11, wf_in h12, wf_in h13, wf_in h14, Bool.and_self]
  exact ⟨[none], [], needOk (by rw [hc, pots_I hk, decide_eq_true rfl, decide_eq_true (show rs.length ≤ 100000000000000 by have : rs.length * 48 ≤ 140737488351232 := hb; omega)]; rfl) rfl, rfl⟩
theorem configLines_row : Rows.ConfigLinesSaid :=
  OpenClaim.holds_of_wide 5 Tryd.f5 rfl rfl rfl rfl rfl rfl rfl ⟨rfl, rfl, rfl, rfl, rfl⟩ rfl rfl rfl rfl rfl (by kernel_rfl) Tryd.func5 (by kernel_rfl)
    (of_decide_eq_true (by kernel_rfl)) (by unfold Func.isWrapper; first | (rw [if_pos (by decide +kernel)]; kernel_rfl) | (rw [if_neg (by decide +kernel)]; exact ⟨rfl, rfl⟩))
    (fun os started H enc _ => configLines_lifted os started H enc)
theorem configLines_holds : Rows.ConfigLinesCardSaid :=
  Claim7.holds_tied_plain_at .later [] [.data, .data, .data, .data, .sentinel, .sentinel, .pinned] true (true, "b815f9b2eaebf131159a8f40a004a9189cdd1ee58a383ce3981fc1b5cdd0ab14") true
    configLines_row (fun _ h => by cases h) (by kernel_rfl) (fun _ h => by cases h) configLines_row_tie rfl ⟨rfl, rfl⟩ (by kernel_rfl) rfl
    (fun f fn hf hfn => by
      obtain rfl : f = 5 := Option.some.inj ((show Tryd.prog.funcNamed "horologe/horologelaw17.ConfigLines" = some 5 by kernel_rfl).symm.trans hf) |>.symm
      obtain rfl : fn = Tryd.f5 := (Option.some.inj (Tryd.func5.symm.trans hfn)).symm
      exact ⟨by kernel_rfl, fun j t ht => by
        have h1 : Tryd.f5.params.toList.all (fun t => !Tryd.prog.wantsStandIn t) = true := by kernel_rfl
        have := List.all_eq_true.1 h1 t (List.mem_of_getElem? (by simpa using ht))
        have h2 : Tryd.prog.wantsStandIn t = false := by simpa using this
        exact h2⟩)
    (by kernel_rfl)
#print axioms configLines_holds
end Go.Proofs.YtkgbphheppfnaaaDoor
