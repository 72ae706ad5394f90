/- For every table and label: its time is the reference's. Condition: the package variables that the row lists start as the program's text lays them. -/
import Derived.Test.YtbfiaogmfjadeaaDoorRow
set_option maxRecDepth 100000
set_option linter.unusedSimpArgs false
set_option linter.unusedVariables false
namespace Go.Proofs.YtbfiaogmfjadeaaDoor
open Go.Rx Go.ChangeShapes Go.WideShapes Go.ChangeAt Go.RowKit

theorem leapTimes_lifted (os : Os) (started : os.Started) (H : Type) (enc : TypeId × Value → H) :
    ReturnsInHanded {} Tryd.checked os 7 .any (fun w args => (Rows.leapTimesSpec.pre enc Tryd.prog Tryd.f7 Rows.leapTimesRow.domain false w args ∧ laidX w args) ∧ sizedMet enc Tryd.prog Tryd.f7 (OpenSpec.ofChange Rows.leapTimesSpec) false w args) (Rows.leapTimesSpec.post enc Tryd.prog Tryd.f7 false true false false) := by
  refine law_lifted_slices (C := Tryd.checked) started own laidOut Tryd.func7 (by kernel_rfl) (X := laidX) (fun _ _ _ hh h => laidMet.of_heap hh h) rfl (fun ds h => match ds, h with
      | [d0, d1], _ => rfl) rfl Tryd.underlying4 (by kernel_rfl)
    (ChangeSpec.witness_at (enc := enc) (C := Tryd.checked) (os := os) (X := laidX) false (laidWorld os) #[.agg #[.int .i64 0, .slice none 0 0], .agg #[.int .i64 0, .int .i64 0, .int .i64 0, .int .i64 0, .int .i64 0, .int .i64 0]] 8 rfl (by kernel_rfl) (by kernel_rfl) (by kernel_rfl) (by kernel_rfl) (by kernel_rfl) (laidWorld_met os _))
    lwTimes_ok (pl := [(true, [.k (.int .i64), .sl 16 [.int .i64, .int .i64]]), (true, [.k (.int .i64), .k (.int .i64), .k (.int .i64), .k (.int .i64), .k (.int .i64), .k (.int .i64)])]) (by kernel_rfl) (by kernel_rfl) (by kernel_rfl) ?_ laid_glob laid_kind
  simp only [AllP, All]
  intro x0 h0 rs hk hb x2 h2 x3 h3 x4 h4 x5 h5 x6 h6 x7 h7
  exact ⟨[none], [], needOk (by rw [decide_eq_true rfl, decide_eq_true (show rs.length * 16 ≤ 140737488351232 from hb)]; rfl) (rfl), rfl⟩
theorem leapTimes_row : Rows.LeapTimesSaid :=
  OpenClaim.holds_of_wide 7 Tryd.f7 rfl rfl rfl rfl rfl rfl rfl ⟨rfl, rfl, rfl, rfl, rfl⟩ rfl rfl rfl rfl rfl (by kernel_rfl) Tryd.func7 (by kernel_rfl)
    (of_decide_eq_true (by kernel_rfl)) (by unfold Func.isWrapper; first | (rw [if_pos (by decide +kernel)]; kernel_rfl) | (rw [if_neg (by decide +kernel)]; exact ⟨rfl, rfl⟩))
    (fun os started H enc _ => leapTimes_lifted os started H enc)
theorem leapTimes_holds : Rows.LeapTimesCardSaid :=
  Claim7.holds_tied_plain_at .later [] [.data, .data, .data] true (true, "1347cad621257ad6841246381f7303dd4d12ce5586b07aacb04d76a71a032a51") false
    leapTimes_row (fun _ h => by cases h) (by kernel_rfl) (fun _ h => by cases h) leapTimes_row_tie rfl ⟨rfl, rfl⟩ (by kernel_rfl) rfl
    (fun f fn hf hfn => by
      obtain rfl : f = 7 := Option.some.inj ((show Tryd.prog.funcNamed "horologe/horologelaw16.LeapTimes" = some 7 by kernel_rfl).symm.trans hf) |>.symm
      obtain rfl : fn = Tryd.f7 := (Option.some.inj (Tryd.func7.symm.trans hfn)).symm
      exact ⟨by kernel_rfl, fun j t ht => by
        have h1 : Tryd.f7.params.toList.all (fun t => !Tryd.prog.wantsStandIn t) = true := by kernel_rfl
        have := List.all_eq_true.1 h1 t (List.mem_of_getElem? (by simpa using ht))
        have h2 : Tryd.prog.wantsStandIn t = false := by simpa using this
        exact h2⟩)
    (by kernel_rfl)
#print axioms leapTimes_holds
end Go.Proofs.YtbfiaogmfjadeaaDoor
