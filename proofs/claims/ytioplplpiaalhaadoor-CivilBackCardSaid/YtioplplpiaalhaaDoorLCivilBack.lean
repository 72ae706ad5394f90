/- For every day, all seconds and every label: what is written is read as it was. Condition: the package variables that the row lists start as the program's text lays them. -/
import Derived.Test.YtioplplpiaalhaaDoorRow
set_option maxRecDepth 100000
set_option linter.unusedSimpArgs false
set_option linter.unusedVariables false
namespace Go.Proofs.YtioplplpiaalhaaDoor
open Go.Rx Go.ChangeShapes Go.WideShapes Go.ChangeAt Go.RowKit

theorem civilBack_lifted (os : Os) (started : os.Started) (H : Type) (enc : TypeId × Value → H) :
    ReturnsInHanded {} Tryd.checked os 10 .any (fun w args => (Rows.civilBackSpec.pre enc Tryd.prog Tryd.f10 Rows.civilBackRow.domain false w args ∧ laidX w args) ∧ sizedMet enc Tryd.prog Tryd.f10 (OpenSpec.ofChange Rows.civilBackSpec) false w args) (Rows.civilBackSpec.post enc Tryd.prog Tryd.f10 false true false false) := by
  refine law_lifted_laid (C := Tryd.checked) started own laidOut Tryd.func10 (by kernel_rfl) (X := laidX) (fun _ _ _ hh h => laidMet.of_heap hh h) rfl (fun ds h => match ds, h with
      | [d0, d1, d2], _ => rfl) rfl Tryd.underlying4 (by kernel_rfl)
    (ChangeSpec.witness_at (enc := enc) (C := Tryd.checked) (os := os) (X := laidX) false (laidWorld os) #[.int .i64 0, .int .i64 0, .agg #[.int .i64 0, .int .i64 0, .int .i64 0, .int .i64 0, .int .i64 0, .int .i64 0]] 8 rfl (by kernel_rfl) (by kernel_rfl) (by kernel_rfl) (by kernel_rfl) (by kernel_rfl) (laidWorld_met os _))
    lwBack_ok (pl := [(false, [.k (.int .i64)]), (false, [.k (.int .i64)]), (true, [.k (.int .i64), .k (.int .i64), .k (.int .i64), .k (.int .i64), .k (.int .i64), .k (.int .i64)])]) (by kernel_rfl) (by kernel_rfl) ?_ laid_glob (fun W base args ds gs before _ _ _ => no_segs rfl)
  simp only [AllP, All]
  intro x0 h0 x1 h1 x2 h2 x3 h3 x4 h4 x5 h5 x6 h6 x7 h7
  exact ⟨[], [], needOk (by simp only [wf_in h0, wf_in h1, Bool.and_self]) (rfl), rfl⟩
theorem civilBack_row : Rows.CivilBackSaid :=
  OpenClaim.holds_of_wide 10 Tryd.f10 rfl rfl rfl rfl rfl rfl rfl ⟨rfl, rfl, rfl, rfl, rfl⟩ rfl rfl rfl rfl rfl (by kernel_rfl) Tryd.func10 (by kernel_rfl)
    (of_decide_eq_true (by kernel_rfl)) (by unfold Func.isWrapper; first | (rw [if_pos (by decide +kernel)]; kernel_rfl) | (rw [if_neg (by decide +kernel)]; exact ⟨rfl, rfl⟩))
    (fun os started H enc _ => civilBack_lifted os started H enc)
theorem civilBack_holds : Rows.CivilBackCardSaid :=
  Claim7.holds_tied_plain_at .later [] [.data, .data, .data] true (true, "a46c0db0f743c2a9835ad43eacbdce2141252b5b7991e93e003219324c7f46f6") false
    civilBack_row (fun _ h => by cases h) (by kernel_rfl) (fun _ h => by cases h) civilBack_row_tie rfl ⟨rfl, rfl⟩ (by kernel_rfl) rfl
    (fun f fn hf hfn => by
      obtain rfl : f = 10 := Option.some.inj ((show Tryd.prog.funcNamed "horologe/horologelaw15.CivilBack" = some 10 by kernel_rfl).symm.trans hf) |>.symm
      obtain rfl : fn = Tryd.f10 := (Option.some.inj (Tryd.func10.symm.trans hfn)).symm
      exact ⟨by kernel_rfl, fun j t ht => by
        have h1 : Tryd.f10.params.toList.all (fun t => !Tryd.prog.wantsStandIn t) = true := by kernel_rfl
        have := List.all_eq_true.1 h1 t (List.mem_of_getElem? (by simpa using ht))
        have h2 : Tryd.prog.wantsStandIn t = false := by simpa using this
        exact h2⟩)
    (by kernel_rfl)
#print axioms civilBack_holds
end Go.Proofs.YtioplplpiaalhaaDoor
