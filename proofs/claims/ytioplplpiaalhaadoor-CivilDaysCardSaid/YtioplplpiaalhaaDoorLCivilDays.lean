/- For every year, month and day: what the program tells of them is the reference's. Condition: the package variables that the row lists start as the program's text lays them. -/
import Derived.Test.YtioplplpiaalhaaDoorRow
set_option maxRecDepth 100000
set_option linter.unusedSimpArgs false
set_option linter.unusedVariables false
namespace Go.Proofs.YtioplplpiaalhaaDoor
open Go.Rx Go.ChangeShapes Go.WideShapes Go.ChangeAt Go.RowKit

theorem civilDays_lifted (os : Os) (started : os.Started) (H : Type) (enc : TypeId × Value → H) :
    ReturnsInHanded {} Tryd.checked os 3 .any (fun w args => (Rows.civilDaysSpec.pre enc Tryd.prog Tryd.f3 Rows.civilDaysRow.domain false w args ∧ laidX w args) ∧ sizedMet enc Tryd.prog Tryd.f3 (OpenSpec.ofChange Rows.civilDaysSpec) false w args) (Rows.civilDaysSpec.post enc Tryd.prog Tryd.f3 false true false false) := by
  refine law_lifted_laid (C := Tryd.checked) started own laidOut Tryd.func3 (by kernel_rfl) (X := laidX) (fun _ _ _ hh h => laidMet.of_heap hh h) rfl (fun ds h => match ds, h with
      | [d0, d1, d2], _ => rfl) rfl Tryd.underlying4 (by kernel_rfl)
    (ChangeSpec.witness_at (enc := enc) (C := Tryd.checked) (os := os) (X := laidX) false (laidWorld os) #[.int .i64 0, .int .i64 0, .int .i64 0] 8 rfl (by kernel_rfl) (by kernel_rfl) (by kernel_rfl) (by kernel_rfl) (by kernel_rfl) (laidWorld_met os _))
    lwDays_ok (pl := [(false, [.k (.int .i64)]), (false, [.k (.int .i64)]), (false, [.k (.int .i64)])]) (by kernel_rfl) (by kernel_rfl) ?_ laid_glob (fun W base args ds gs before _ _ _ => no_segs rfl)
  simp only [AllP, All]
  intro x0 h0 x1 h1 x2 h2
  exact ⟨[], [], needOk (by simp only [wf_in h0, wf_in h1, wf_in h2, Bool.and_self]) (rfl), rfl⟩
theorem civilDays_row : Rows.CivilDaysSaid :=
  OpenClaim.holds_of_wide 3 Tryd.f3 rfl rfl rfl rfl rfl rfl rfl ⟨rfl, rfl, rfl, rfl, rfl⟩ rfl rfl rfl rfl rfl (by kernel_rfl) Tryd.func3 (by kernel_rfl)
    (of_decide_eq_true (by kernel_rfl)) (by unfold Func.isWrapper; first | (rw [if_pos (by decide +kernel)]; kernel_rfl) | (rw [if_neg (by decide +kernel)]; exact ⟨rfl, rfl⟩))
    (fun os started H enc _ => civilDays_lifted os started H enc)
theorem civilDays_holds : Rows.CivilDaysCardSaid :=
  Claim7.holds_tied_plain_at .later [] [.data, .data, .data] true (true, "a46c0db0f743c2a9835ad43eacbdce2141252b5b7991e93e003219324c7f46f6") false
    civilDays_row (fun _ h => by cases h) (by kernel_rfl) (fun _ h => by cases h) civilDays_row_tie rfl ⟨rfl, rfl⟩ (by kernel_rfl) rfl
    (fun f fn hf hfn => by
      obtain rfl : f = 3 := Option.some.inj ((show Tryd.prog.funcNamed "horologe/horologelaw15.CivilDays" = some 3 by kernel_rfl).symm.trans hf) |>.symm
      obtain rfl : fn = Tryd.f3 := (Option.some.inj (Tryd.func3.symm.trans hfn)).symm
      exact ⟨by kernel_rfl, fun j t ht => by
        have h1 : Tryd.f3.params.toList.all (fun t => !Tryd.prog.wantsStandIn t) = true := by kernel_rfl
        have := List.all_eq_true.1 h1 t (List.mem_of_getElem? (by simpa using ht))
        have h2 : Tryd.prog.wantsStandIn t = false := by simpa using this
        exact h2⟩)
    (by kernel_rfl)
#print axioms civilDays_holds
end Go.Proofs.YtioplplpiaalhaaDoor
