/- For every first offset and time: without leaps the offset is the first one. Condition: the package variables that the row lists start as the program's text lays them. -/
import Derived.Test.YtbfiaogmfjadeaaDoorRow
set_option maxRecDepth 100000
set_option linter.unusedSimpArgs false
set_option linter.unusedVariables false
namespace Go.Proofs.YtbfiaogmfjadeaaDoor
open Go.Rx Go.ChangeShapes Go.WideShapes Go.ChangeAt Go.RowKit

theorem leapNone_lifted (os : Os) (started : os.Started) (H : Type) (enc : TypeId × Value → H) :
    ReturnsInHanded {} Tryd.checked os 5 .any (fun w args => (Rows.leapNoneSpec.pre enc Tryd.prog Tryd.f5 Rows.leapNoneRow.domain false w args ∧ laidX w args) ∧ sizedMet enc Tryd.prog Tryd.f5 (OpenSpec.ofChange Rows.leapNoneSpec) false w args) (Rows.leapNoneSpec.post enc Tryd.prog Tryd.f5 false true false false) := by
  refine law_lifted_slices (C := Tryd.checked) started own laidOut Tryd.func5 (by kernel_rfl) (X := laidX) (fun _ _ _ hh h => laidMet.of_heap hh h) rfl (fun ds h => match ds, h with
      | [d0, d1], _ => rfl) rfl Tryd.underlying4 (by kernel_rfl)
    (ChangeSpec.witness_at (enc := enc) (C := Tryd.checked) (os := os) (X := laidX) false (laidWorld os) #[.int .i64 0, .int .i64 0] 8 rfl (by kernel_rfl) (by kernel_rfl) (by kernel_rfl) (by kernel_rfl) (by kernel_rfl) (laidWorld_met os _))
    lwNone_ok (pl := [(false, [.k (.int .i64)]), (false, [.k (.int .i64)])]) (by kernel_rfl) (by kernel_rfl) (by kernel_rfl) ?_ laid_glob laid_kind
  simp only [AllP, All]
  intro x0 h0 x1 h1
  exact ⟨[], [], needOk (by rw [decide_eq_true (wf_le h0), decide_eq_true (wf_le h1)]; rfl) (rfl), rfl⟩
theorem leapNone_row : Rows.LeapNoneSaid :=
  OpenClaim.holds_of_wide 5 Tryd.f5 rfl rfl rfl rfl rfl rfl rfl ⟨rfl, rfl, rfl, rfl, rfl⟩ rfl rfl rfl rfl rfl (by kernel_rfl) Tryd.func5 (by kernel_rfl)
    (of_decide_eq_true (by kernel_rfl)) (by unfold Func.isWrapper; first | (rw [if_pos (by decide +kernel)]; kernel_rfl) | (rw [if_neg (by decide +kernel)]; exact ⟨rfl, rfl⟩))
    (fun os started H enc _ => leapNone_lifted os started H enc)
theorem leapNone_holds : Rows.LeapNoneCardSaid :=
  Claim7.holds_tied_plain_at .later [] [.data, .data, .data] true (true, "1347cad621257ad6841246381f7303dd4d12ce5586b07aacb04d76a71a032a51") false
    leapNone_row (fun _ h => by cases h) (by kernel_rfl) (fun _ h => by cases h) leapNone_row_tie rfl ⟨rfl, rfl⟩ (by kernel_rfl) rfl
    (fun f fn hf hfn => by
      obtain rfl : f = 5 := Option.some.inj ((show Tryd.prog.funcNamed "horologe/horologelaw16.LeapNone" = some 5 by kernel_rfl).symm.trans hf) |>.symm
      obtain rfl : fn = Tryd.f5 := (Option.some.inj (Tryd.func5.symm.trans hfn)).symm
      exact ⟨by kernel_rfl, fun j t ht => by
        have h1 : Tryd.f5.params.toList.all (fun t => !Tryd.prog.wantsStandIn t) = true := by kernel_rfl
        have := List.all_eq_true.1 h1 t (List.mem_of_getElem? (by simpa using ht))
        have h2 : Tryd.prog.wantsStandIn t = false := by simpa using this
        exact h2⟩)
    (by kernel_rfl)
#print axioms leapNone_holds
end Go.Proofs.YtbfiaogmfjadeaaDoor
