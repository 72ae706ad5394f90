/- For every year: it has as many days as its months, and the next one begins behind them. Condition: the package variables that the row lists start as the program's text lays them. -/
import Derived.Test.YtioplplpiaalhaaDoorRow
set_option maxRecDepth 100000
set_option linter.unusedSimpArgs false
set_option linter.unusedVariables false
namespace Go.Proofs.YtioplplpiaalhaaDoor
open Go.Rx Go.ChangeShapes Go.WideShapes Go.ChangeAt Go.RowKit

theorem civilYears_lifted (os : Os) (started : os.Started) (H : Type) (enc : TypeId × Value → H) :
    ReturnsInHanded {} Tryd.checked os 4 .any (fun w args => (Rows.civilYearsSpec.pre enc Tryd.prog Tryd.f4 Rows.civilYearsRow.domain false w args ∧ laidX w args) ∧ sizedMet enc Tryd.prog Tryd.f4 (OpenSpec.ofChange Rows.civilYearsSpec) false w args) (Rows.civilYearsSpec.post enc Tryd.prog Tryd.f4 false true false false) := by
  refine law_lifted_laid (C := Tryd.checked) started own laidOut Tryd.func4 (by kernel_rfl) (X := laidX) (fun _ _ _ hh h => laidMet.of_heap hh h) rfl (fun ds h => match ds, h with
      | [d0], _ => rfl) rfl Tryd.underlying4 (by kernel_rfl)
    (ChangeSpec.witness_at (enc := enc) (C := Tryd.checked) (os := os) (X := laidX) false (laidWorld os) #[.int .i64 0] 8 rfl (by kernel_rfl) (by kernel_rfl) (by kernel_rfl) (by kernel_rfl) (by kernel_rfl) (laidWorld_met os _))
    lwYears_ok (pl := [(false, [.k (.int .i64)])]) (by kernel_rfl) (by kernel_rfl) ?_ laid_glob (fun W base args ds gs before _ _ _ => no_segs rfl)
  simp only [AllP, All]
  intro x0 h0
  exact ⟨[], [], needOk (by simp only [wf_in h0, Bool.and_self]) (rfl), rfl⟩
theorem civilYears_row : Rows.CivilYearsSaid :=
  OpenClaim.holds_of_wide 4 Tryd.f4 rfl rfl rfl rfl rfl rfl rfl ⟨rfl, rfl, rfl, rfl, rfl⟩ rfl rfl rfl rfl rfl (by kernel_rfl) Tryd.func4 (by kernel_rfl)
    (of_decide_eq_true (by kernel_rfl)) (by unfold Func.isWrapper; first | (rw [if_pos (by decide +kernel)]; kernel_rfl) | (rw [if_neg (by decide +kernel)]; exact ⟨rfl, rfl⟩))
    (fun os started H enc _ => civilYears_lifted os started H enc)
theorem civilYears_holds : Rows.CivilYearsCardSaid :=
  Claim7.holds_tied_plain_at .later [] [.data, .data, .data] true (true, "a46c0db0f743c2a9835ad43eacbdce2141252b5b7991e93e003219324c7f46f6") false
    civilYears_row (fun _ h => by cases h) (by kernel_rfl) (fun _ h => by cases h) civilYears_row_tie rfl ⟨rfl, rfl⟩ (by kernel_rfl) rfl
    (fun f fn hf hfn => by
      obtain rfl : f = 4 := Option.some.inj ((show Tryd.prog.funcNamed "horologe/horologelaw15.CivilYears" = some 4 by kernel_rfl).symm.trans hf) |>.symm
      obtain rfl : fn = Tryd.f4 := (Option.some.inj (Tryd.func4.symm.trans hfn)).symm
      exact ⟨by kernel_rfl, fun j t ht => by
        have h1 : Tryd.f4.params.toList.all (fun t => !Tryd.prog.wantsStandIn t) = true := by kernel_rfl
        have := List.all_eq_true.1 h1 t (List.mem_of_getElem? (by simpa using ht))
        have h2 : Tryd.prog.wantsStandIn t = false := by simpa using this
        exact h2⟩)
    (by kernel_rfl)
#print axioms civilYears_holds
end Go.Proofs.YtioplplpiaalhaaDoor
