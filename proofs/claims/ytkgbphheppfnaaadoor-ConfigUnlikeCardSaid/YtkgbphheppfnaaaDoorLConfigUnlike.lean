/- For every two configurations of at most a hundred ports each: their texts are the same just if they are, and end with a line's end; the ports may lie in the same memory. Condition: the package variables that the row lists start as the program's text lays them. -/
import Derived.Test.YtkgbphheppfnaaaDoorRow
set_option maxRecDepth 100000
set_option linter.unusedSimpArgs false
set_option linter.unusedVariables false
namespace Go.Proofs.YtkgbphheppfnaaaDoor
open Go.Rx Go.ChangeShapes Go.WideShapes Go.ChangeAt Go.RowKit

theorem configUnlike_lifted (os : Os) (started : os.Started) (H : Type) (enc : TypeId × Value → H) :
    ReturnsInHanded {} Tryd.checked os 6 .any (fun w args => (Rows.configUnlikeSpec.pre enc Tryd.prog Tryd.f6 Rows.configUnlikeRow.domain false w args ∧ laidX w args) ∧ sizedMet enc Tryd.prog Tryd.f6 (OpenSpec.ofChange Rows.configUnlikeSpec) false w args) (Rows.configUnlikeSpec.post enc Tryd.prog Tryd.f6 false true false false) := by
  refine law_lifted_look (C := Tryd.checked) started own laidOut Tryd.func6 (by kernel_rfl) (X := laidX) (fun _ _ _ hh h => laidMet.of_heap hh h) rfl (fun ds h => match ds, h with
      | [d0, d1], _ => rfl) rfl Tryd.underlying4 (by kernel_rfl)
    (ChangeSpec.witness_shaped (enc := enc) (C := Tryd.checked) (os := os) (X := laidX) false (laidWorld os) #[.agg #[.int .u8 0, .int .u8 0, .int .u8 0, .int .u8 0, .int .u8 0, .int .u8 0, .int .u8 0, .int .u8 0, .int .i64 0, .int .i64 0, .int .i64 0, .int .i64 0, .int .i64 0, .int .i64 0, .int .i64 0, .bool false, .slice none 0 0], .agg #[.int .u8 0, .int .u8 0, .int .u8 0, .int .u8 0, .int .u8 0, .int .u8 0, .int .u8 0, .int .u8 0, .int .i64 0, .int .i64 0, .int .i64 0, .int .i64 0, .int .i64 0, .int .i64 0, .int .i64 0, .bool false, .slice none 0 0]] 8 (World.laidAll_os _ _ _) (World.shaped_of_ZipB (by kernel_rfl) (by kernel_rfl)) (by kernel_rfl) (by kernel_rfl) (by kernel_rfl) (laidWorld_met os _))
    cu_ok (pl := [(true, [.k (.int .u8), .k (.int .u8), .k (.int .u8), .k (.int .u8), .k (.int .u8), .k (.int .u8), .k (.int .u8), .k (.int .u8), .k (.int .i64), .k (.int .i64), .k (.int .i64), .k (.int .i64), .k (.int .i64), .k (.int .i64), .k (.int .i64), .k (.bool), .sl 48 [.int .i64, .int .i64, .int .i64, .int .i64, .int .i64, .int .i64]]), (true, [.k (.int .u8), .k (.int .u8), .k (.int .u8), .k (.int .u8), .k (.int .u8), .k (.int .u8), .k (.int .u8), .k (.int .u8), .k (.int .i64), .k (.int .i64), .k (.int .i64), .k (.int .i64), .k (.int .i64), .k (.int .i64), .k (.int .i64), .k (.bool), .sl 48 [.int .i64, .int .i64, .int .i64, .int .i64, .int .i64, .int .i64]])]) (by kernel_rfl) (by kernel_rfl) ?_ laid_glob laid_kind
  simp only [AllP, All]
  intro x0 h0 x1 h1 x2 h2 x3 h3 x4 h4 x5 h5 x6 h6 x7 h7 x8 h8 x9 h9 x10 h10 x11 h11 x12 h12 x13 h13 x14 h14 x15 rs hk hb x16 h16 x17 h17 x18 h18 x19 h19 x20 h20 x21 h21 x22 h22 x23 h23 x24 h24 x25 h25 x26 h26 x27 h27 x28 h28 x29 h29 x30 h30 x31 rs16 hk16 hb16
  have hc : cfI (⟨⟨x0, x1, x2, x3, x4, x5, x6, x7⟩, x8, x9, x10, ⟨x11, x12, x13⟩, x14, x15⟩ : Cfh) = true := by
    simp only [cfI, ckB, wf_u8 h0, wf_u8 h1, wf_u8 h2, wf_u8 h3, wf_u8 h4, wf_u8 h5, wf_u8 h6, wf_u8 h7, wf_in h8, wf_in h9, wf_in h10, wf_in h11, wf_in h12, wf_in h13, wf_in h14, Bool.and_self]
  have hd : cfI (⟨⟨x16, x17, x18, x19, x20, x21, x22, x23⟩, x24, x25, x26, ⟨x27, x28, x29⟩, x30, x31⟩ : Cfh) = true := by
    simp only [cfI, ckB, wf_u8 h16, wf_u8 h17, wf_u8 h18, wf_u8 h19, wf_u8 h20, wf_u8 h21, wf_u8 h22, wf_u8 h23, wf_in h24, wf_in h25, wf_in h26, wf_in h27, wf_in h28, wf_in h29, wf_in h30, Bool.and_self]
  exact ⟨[none, none], [], needOk (by rw [hc, hd, pots_I hk, pots_I hk16, decide_eq_true rfl, decide_eq_true rfl]; rfl) rfl, rfl, rfl⟩
theorem configUnlike_row : Rows.ConfigUnlikeSaid :=
  OpenClaim.holds_of_wide 6 Tryd.f6 rfl rfl rfl rfl rfl rfl rfl ⟨rfl, rfl, rfl, rfl, rfl⟩ rfl rfl rfl rfl rfl (by kernel_rfl) Tryd.func6 (by kernel_rfl)
    (of_decide_eq_true (by kernel_rfl)) (by unfold Func.isWrapper; first | (rw [if_pos (by decide +kernel)]; kernel_rfl) | (rw [if_neg (by decide +kernel)]; exact ⟨rfl, rfl⟩))
    (fun os started H enc _ => configUnlike_lifted os started H enc)
theorem configUnlike_holds : Rows.ConfigUnlikeCardSaid :=
  Claim7.holds_tied_plain_at .later [] [.data, .data, .data, .data, .sentinel, .sentinel, .pinned] true (true, "b815f9b2eaebf131159a8f40a004a9189cdd1ee58a383ce3981fc1b5cdd0ab14") true
    configUnlike_row (fun _ h => by cases h) (by kernel_rfl) (fun _ h => by cases h) configUnlike_row_tie rfl ⟨rfl, rfl⟩ (by kernel_rfl) rfl
    (fun f fn hf hfn => by
      obtain rfl : f = 6 := Option.some.inj ((show Tryd.prog.funcNamed "horologe/horologelaw17.ConfigUnlike" = some 6 by kernel_rfl).symm.trans hf) |>.symm
      obtain rfl : fn = Tryd.f6 := (Option.some.inj (Tryd.func6.symm.trans hfn)).symm
      exact ⟨by kernel_rfl, fun j t ht => by
        have h1 : Tryd.f6.params.toList.all (fun t => !Tryd.prog.wantsStandIn t) = true := by kernel_rfl
        have := List.all_eq_true.1 h1 t (List.mem_of_getElem? (by simpa using ht))
        have h2 : Tryd.prog.wantsStandIn t = false := by simpa using this
        exact h2⟩)
    (by kernel_rfl)
#print axioms configUnlike_holds
end Go.Proofs.YtkgbphheppfnaaaDoor
