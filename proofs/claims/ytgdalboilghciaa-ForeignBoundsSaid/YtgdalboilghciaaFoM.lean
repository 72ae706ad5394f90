/- Layer 8: rounds of ForeignBounds; the law of how many and whose masters there are, as a function. The conditions stand in the specification; the row meets them. -/
import Derived.Test.YtgdalboilghciaaFoL
set_option linter.unusedSimpArgs false
set_option linter.unusedVariables false
set_option linter.unnecessarySimpa false
set_option linter.unusedSectionVars false
set_option maxRecDepth 100000
set_option linter.unusedSimpArgs false
set_option linter.unusedVariables false
namespace Go.Proofs.Ytgdalboilghciaa
open Go.Rx
theorem bp_4_keep (ow : Ck) (ev : Int) (own : Ck) (win : Int) (rs : List (List V)) (n : Nat) (i : Int) (o : Opp) (t now : Int) (F : List Ste) (p0 p1 p2 p3 : Prt) (e0 e1 e2 e3 : Ent) : BpFacts ow ev own win rs n i o t now F [(p0, e0), (p1, e1), (p2, e2), (p3, e3)] .keep := ⟨by kernel_rfl, by kernel_rfl, by kernel_rfl, by kernel_rfl, by kernel_rfl, by kernel_rfl, by kernel_rfl⟩
theorem bp_4_same (ow : Ck) (ev : Int) (own : Ck) (win : Int) (rs : List (List V)) (n : Nat) (i : Int) (o : Opp) (t now : Int) (F : List Ste) (p0 p1 p2 p3 : Prt) (e0 e1 e2 e3 : Ent) : BpFacts ow ev own win rs n i o t now F [(p0, e0), (p1, e1), (p2, e2), (p3, e3)] .same := ⟨by kernel_rfl, by kernel_rfl, by kernel_rfl, by kernel_rfl, by kernel_rfl, by kernel_rfl, by kernel_rfl⟩
theorem bp_4_clear (ow : Ck) (ev : Int) (own : Ck) (win : Int) (rs : List (List V)) (n : Nat) (i : Int) (o : Opp) (t now : Int) (F : List Ste) (p0 p1 p2 p3 : Prt) (e0 e1 e2 e3 : Ent) : BpFacts ow ev own win rs n i o t now F [(p0, e0), (p1, e1), (p2, e2), (p3, e3)] .clear := ⟨by kernel_rfl, by kernel_rfl, by kernel_rfl, by kernel_rfl, by kernel_rfl, by kernel_rfl, by kernel_rfl⟩
theorem bp_4_set0 (ow : Ck) (ev : Int) (own : Ck) (win : Int) (rs : List (List V)) (n : Nat) (i : Int) (o : Opp) (t now : Int) (F : List Ste) (p0 p1 p2 p3 : Prt) (e0 e1 e2 e3 : Ent) (e : Ent) : BpFacts ow ev own win rs n i o t now F [(p0, e0), (p1, e1), (p2, e2), (p3, e3)] (.set 0 e) := ⟨by kernel_rfl, by kernel_rfl, by kernel_rfl, by kernel_rfl, by kernel_rfl, by kernel_rfl, by kernel_rfl⟩
theorem bp_4_drop0 (ow : Ck) (ev : Int) (own : Ck) (win : Int) (rs : List (List V)) (n : Nat) (i : Int) (o : Opp) (t now : Int) (F : List Ste) (p0 p1 p2 p3 : Prt) (e0 e1 e2 e3 : Ent) : BpFacts ow ev own win rs n i o t now F [(p0, e0), (p1, e1), (p2, e2), (p3, e3)] (.drop 0) := ⟨by kernel_rfl, by kernel_rfl, by kernel_rfl, by kernel_rfl, by kernel_rfl, by kernel_rfl, by kernel_rfl⟩
theorem bp_4_set1 (ow : Ck) (ev : Int) (own : Ck) (win : Int) (rs : List (List V)) (n : Nat) (i : Int) (o : Opp) (t now : Int) (F : List Ste) (p0 p1 p2 p3 : Prt) (e0 e1 e2 e3 : Ent) (e : Ent) : BpFacts ow ev own win rs n i o t now F [(p0, e0), (p1, e1), (p2, e2), (p3, e3)] (.set 1 e) := ⟨by kernel_rfl, by kernel_rfl, by kernel_rfl, by kernel_rfl, by kernel_rfl, by kernel_rfl, by kernel_rfl⟩
theorem bp_4_drop1 (ow : Ck) (ev : Int) (own : Ck) (win : Int) (rs : List (List V)) (n : Nat) (i : Int) (o : Opp) (t now : Int) (F : List Ste) (p0 p1 p2 p3 : Prt) (e0 e1 e2 e3 : Ent) : BpFacts ow ev own win rs n i o t now F [(p0, e0), (p1, e1), (p2, e2), (p3, e3)] (.drop 1) := ⟨by kernel_rfl, by kernel_rfl, by kernel_rfl, by kernel_rfl, by kernel_rfl, by kernel_rfl, by kernel_rfl⟩
theorem bp_4_set2 (ow : Ck) (ev : Int) (own : Ck) (win : Int) (rs : List (List V)) (n : Nat) (i : Int) (o : Opp) (t now : Int) (F : List Ste) (p0 p1 p2 p3 : Prt) (e0 e1 e2 e3 : Ent) (e : Ent) : BpFacts ow ev own win rs n i o t now F [(p0, e0), (p1, e1), (p2, e2), (p3, e3)] (.set 2 e) := ⟨by kernel_rfl, by kernel_rfl, by kernel_rfl, by kernel_rfl, by kernel_rfl, by kernel_rfl, by kernel_rfl⟩
theorem bp_4_drop2 (ow : Ck) (ev : Int) (own : Ck) (win : Int) (rs : List (List V)) (n : Nat) (i : Int) (o : Opp) (t now : Int) (F : List Ste) (p0 p1 p2 p3 : Prt) (e0 e1 e2 e3 : Ent) : BpFacts ow ev own win rs n i o t now F [(p0, e0), (p1, e1), (p2, e2), (p3, e3)] (.drop 2) := ⟨by kernel_rfl, by kernel_rfl, by kernel_rfl, by kernel_rfl, by kernel_rfl, by kernel_rfl, by kernel_rfl⟩
theorem bp_4_set3 (ow : Ck) (ev : Int) (own : Ck) (win : Int) (rs : List (List V)) (n : Nat) (i : Int) (o : Opp) (t now : Int) (F : List Ste) (p0 p1 p2 p3 : Prt) (e0 e1 e2 e3 : Ent) (e : Ent) : BpFacts ow ev own win rs n i o t now F [(p0, e0), (p1, e1), (p2, e2), (p3, e3)] (.set 3 e) := ⟨by kernel_rfl, by kernel_rfl, by kernel_rfl, by kernel_rfl, by kernel_rfl, by kernel_rfl, by kernel_rfl⟩
theorem bp_4_drop3 (ow : Ck) (ev : Int) (own : Ck) (win : Int) (rs : List (List V)) (n : Nat) (i : Int) (o : Opp) (t now : Int) (F : List Ste) (p0 p1 p2 p3 : Prt) (e0 e1 e2 e3 : Ent) : BpFacts ow ev own win rs n i o t now F [(p0, e0), (p1, e1), (p2, e2), (p3, e3)] (.drop 3) := ⟨by kernel_rfl, by kernel_rfl, by kernel_rfl, by kernel_rfl, by kernel_rfl, by kernel_rfl, by kernel_rfl⟩
theorem bp_4_app (ow : Ck) (ev : Int) (own : Ck) (win : Int) (rs : List (List V)) (n : Nat) (i : Int) (o : Opp) (t now : Int) (F : List Ste) (p0 p1 p2 p3 : Prt) (e0 e1 e2 e3 : Ent) (p : Prt) (e : Ent) : BpFacts ow ev own win rs n i o t now F [(p0, e0), (p1, e1), (p2, e2), (p3, e3)] (.app p e) := ⟨by kernel_rfl, by kernel_rfl, by kernel_rfl, by kernel_rfl, by kernel_rfl, by kernel_rfl, by kernel_rfl⟩
theorem bp_4_evi0 (ow : Ck) (ev : Int) (own : Ck) (win : Int) (rs : List (List V)) (n : Nat) (i : Int) (o : Opp) (t now : Int) (F : List Ste) (p0 p1 p2 p3 : Prt) (e0 e1 e2 e3 : Ent) (p : Prt) (e : Ent) : BpFacts ow ev own win rs n i o t now F [(p0, e0), (p1, e1), (p2, e2), (p3, e3)] (.evi 0 p e) := ⟨by kernel_rfl, by kernel_rfl, by kernel_rfl, by kernel_rfl, by kernel_rfl, by kernel_rfl, by kernel_rfl⟩
theorem bp_4_evi1 (ow : Ck) (ev : Int) (own : Ck) (win : Int) (rs : List (List V)) (n : Nat) (i : Int) (o : Opp) (t now : Int) (F : List Ste) (p0 p1 p2 p3 : Prt) (e0 e1 e2 e3 : Ent) (p : Prt) (e : Ent) : BpFacts ow ev own win rs n i o t now F [(p0, e0), (p1, e1), (p2, e2), (p3, e3)] (.evi 1 p e) := ⟨by kernel_rfl, by kernel_rfl, by kernel_rfl, by kernel_rfl, by kernel_rfl, by kernel_rfl, by kernel_rfl⟩
theorem bp_4_evi2 (ow : Ck) (ev : Int) (own : Ck) (win : Int) (rs : List (List V)) (n : Nat) (i : Int) (o : Opp) (t now : Int) (F : List Ste) (p0 p1 p2 p3 : Prt) (e0 e1 e2 e3 : Ent) (p : Prt) (e : Ent) : BpFacts ow ev own win rs n i o t now F [(p0, e0), (p1, e1), (p2, e2), (p3, e3)] (.evi 2 p e) := ⟨by kernel_rfl, by kernel_rfl, by kernel_rfl, by kernel_rfl, by kernel_rfl, by kernel_rfl, by kernel_rfl⟩
theorem bp_4_evi3 (ow : Ck) (ev : Int) (own : Ck) (win : Int) (rs : List (List V)) (n : Nat) (i : Int) (o : Opp) (t now : Int) (F : List Ste) (p0 p1 p2 p3 : Prt) (e0 e1 e2 e3 : Ent) (p : Prt) (e : Ent) : BpFacts ow ev own win rs n i o t now F [(p0, e0), (p1, e1), (p2, e2), (p3, e3)] (.evi 3 p e) := ⟨by kernel_rfl, by kernel_rfl, by kernel_rfl, by kernel_rfl, by kernel_rfl, by kernel_rfl, by kernel_rfl⟩
theorem bpn_4 (ow : Ck) (ev : Int) (own : Ck) (win : Int) (rs : List (List V)) (n : Nat) (i : Int) (o : Opp) (t now : Int) (F : List Ste) (p0 p1 p2 p3 : Prt) (e0 e1 e2 e3 : Ent) (u : Up) (hu : u.okU 4) : BpFacts ow ev own win rs n i o t now F [(p0, e0), (p1, e1), (p2, e2), (p3, e3)] u := by
  cases u with
  | keep => exact bp_4_keep ow ev own win rs n i o t now F p0 p1 p2 p3 e0 e1 e2 e3
  | same => exact bp_4_same ow ev own win rs n i o t now F p0 p1 p2 p3 e0 e1 e2 e3
  | clear => exact bp_4_clear ow ev own win rs n i o t now F p0 p1 p2 p3 e0 e1 e2 e3
  | set i e =>
    obtain rfl | rfl | rfl | rfl : i = 0 ∨ i = 1 ∨ i = 2 ∨ i = 3 := by
      have : i < 4 := hu
      omega
    · exact bp_4_set0 ow ev own win rs n i o t now F p0 p1 p2 p3 e0 e1 e2 e3 e
    · exact bp_4_set1 ow ev own win rs n i o t now F p0 p1 p2 p3 e0 e1 e2 e3 e
    · exact bp_4_set2 ow ev own win rs n i o t now F p0 p1 p2 p3 e0 e1 e2 e3 e
    · exact bp_4_set3 ow ev own win rs n i o t now F p0 p1 p2 p3 e0 e1 e2 e3 e
  | drop i =>
    obtain rfl | rfl | rfl | rfl : i = 0 ∨ i = 1 ∨ i = 2 ∨ i = 3 := by
      have : i < 4 := hu
      omega
    · exact bp_4_drop0 ow ev own win rs n i o t now F p0 p1 p2 p3 e0 e1 e2 e3
    · exact bp_4_drop1 ow ev own win rs n i o t now F p0 p1 p2 p3 e0 e1 e2 e3
    · exact bp_4_drop2 ow ev own win rs n i o t now F p0 p1 p2 p3 e0 e1 e2 e3
    · exact bp_4_drop3 ow ev own win rs n i o t now F p0 p1 p2 p3 e0 e1 e2 e3
  | app p e => exact bp_4_app ow ev own win rs n i o t now F p0 p1 p2 p3 e0 e1 e2 e3 p e
  | evi i p e =>
    obtain rfl | rfl | rfl | rfl : i = 0 ∨ i = 1 ∨ i = 2 ∨ i = 3 := by
      have : i < 4 := hu
      omega
    · exact bp_4_evi0 ow ev own win rs n i o t now F p0 p1 p2 p3 e0 e1 e2 e3 p e
    · exact bp_4_evi1 ow ev own win rs n i o t now F p0 p1 p2 p3 e0 e1 e2 e3 p e
    · exact bp_4_evi2 ow ev own win rs n i o t now F p0 p1 p2 p3 e0 e1 e2 e3 p e
    · exact bp_4_evi3 ow ev own win rs n i o t now F p0 p1 p2 p3 e0 e1 e2 e3 p e
end Go.Proofs.Ytgdalboilghciaa

set_option maxRecDepth 100000
set_option linter.unusedSimpArgs false
set_option linter.unusedVariables false
namespace Go.Proofs.Ytgdalboilghciaa
open Go.Rx
theorem bp_5_keep (ow : Ck) (ev : Int) (own : Ck) (win : Int) (rs : List (List V)) (n : Nat) (i : Int) (o : Opp) (t now : Int) (F : List Ste) (p0 p1 p2 p3 p4 : Prt) (e0 e1 e2 e3 e4 : Ent) : BpFacts ow ev own win rs n i o t now F [(p0, e0), (p1, e1), (p2, e2), (p3, e3), (p4, e4)] .keep := ⟨by kernel_rfl, by kernel_rfl, by kernel_rfl, by kernel_rfl, by kernel_rfl, by kernel_rfl, by kernel_rfl⟩
theorem bp_5_same (ow : Ck) (ev : Int) (own : Ck) (win : Int) (rs : List (List V)) (n : Nat) (i : Int) (o : Opp) (t now : Int) (F : List Ste) (p0 p1 p2 p3 p4 : Prt) (e0 e1 e2 e3 e4 : Ent) : BpFacts ow ev own win rs n i o t now F [(p0, e0), (p1, e1), (p2, e2), (p3, e3), (p4, e4)] .same := ⟨by kernel_rfl, by kernel_rfl, by kernel_rfl, by kernel_rfl, by kernel_rfl, by kernel_rfl, by kernel_rfl⟩
theorem bp_5_clear (ow : Ck) (ev : Int) (own : Ck) (win : Int) (rs : List (List V)) (n : Nat) (i : Int) (o : Opp) (t now : Int) (F : List Ste) (p0 p1 p2 p3 p4 : Prt) (e0 e1 e2 e3 e4 : Ent) : BpFacts ow ev own win rs n i o t now F [(p0, e0), (p1, e1), (p2, e2), (p3, e3), (p4, e4)] .clear := ⟨by kernel_rfl, by kernel_rfl, by kernel_rfl, by kernel_rfl, by kernel_rfl, by kernel_rfl, by kernel_rfl⟩
theorem bp_5_set0 (ow : Ck) (ev : Int) (own : Ck) (win : Int) (rs : List (List V)) (n : Nat) (i : Int) (o : Opp) (t now : Int) (F : List Ste) (p0 p1 p2 p3 p4 : Prt) (e0 e1 e2 e3 e4 : Ent) (e : Ent) : BpFacts ow ev own win rs n i o t now F [(p0, e0), (p1, e1), (p2, e2), (p3, e3), (p4, e4)] (.set 0 e) := ⟨by kernel_rfl, by kernel_rfl, by kernel_rfl, by kernel_rfl, by kernel_rfl, by kernel_rfl, by kernel_rfl⟩
theorem bp_5_drop0 (ow : Ck) (ev : Int) (own : Ck) (win : Int) (rs : List (List V)) (n : Nat) (i : Int) (o : Opp) (t now : Int) (F : List Ste) (p0 p1 p2 p3 p4 : Prt) (e0 e1 e2 e3 e4 : Ent) : BpFacts ow ev own win rs n i o t now F [(p0, e0), (p1, e1), (p2, e2), (p3, e3), (p4, e4)] (.drop 0) := ⟨by kernel_rfl, by kernel_rfl, by kernel_rfl, by kernel_rfl, by kernel_rfl, by kernel_rfl, by kernel_rfl⟩
theorem bp_5_set1 (ow : Ck) (ev : Int) (own : Ck) (win : Int) (rs : List (List V)) (n : Nat) (i : Int) (o : Opp) (t now : Int) (F : List Ste) (p0 p1 p2 p3 p4 : Prt) (e0 e1 e2 e3 e4 : Ent) (e : Ent) : BpFacts ow ev own win rs n i o t now F [(p0, e0), (p1, e1), (p2, e2), (p3, e3), (p4, e4)] (.set 1 e) := ⟨by kernel_rfl, by kernel_rfl, by kernel_rfl, by kernel_rfl, by kernel_rfl, by kernel_rfl, by kernel_rfl⟩
theorem bp_5_drop1 (ow : Ck) (ev : Int) (own : Ck) (win : Int) (rs : List (List V)) (n : Nat) (i : Int) (o : Opp) (t now : Int) (F : List Ste) (p0 p1 p2 p3 p4 : Prt) (e0 e1 e2 e3 e4 : Ent) : BpFacts ow ev own win rs n i o t now F [(p0, e0), (p1, e1), (p2, e2), (p3, e3), (p4, e4)] (.drop 1) := ⟨by kernel_rfl, by kernel_rfl, by kernel_rfl, by kernel_rfl, by kernel_rfl, by kernel_rfl, by kernel_rfl⟩
theorem bp_5_set2 (ow : Ck) (ev : Int) (own : Ck) (win : Int) (rs : List (List V)) (n : Nat) (i : Int) (o : Opp) (t now : Int) (F : List Ste) (p0 p1 p2 p3 p4 : Prt) (e0 e1 e2 e3 e4 : Ent) (e : Ent) : BpFacts ow ev own win rs n i o t now F [(p0, e0), (p1, e1), (p2, e2), (p3, e3), (p4, e4)] (.set 2 e) := ⟨by kernel_rfl, by kernel_rfl, by kernel_rfl, by kernel_rfl, by kernel_rfl, by kernel_rfl, by kernel_rfl⟩
theorem bp_5_drop2 (ow : Ck) (ev : Int) (own : Ck) (win : Int) (rs : List (List V)) (n : Nat) (i : Int) (o : Opp) (t now : Int) (F : List Ste) (p0 p1 p2 p3 p4 : Prt) (e0 e1 e2 e3 e4 : Ent) : BpFacts ow ev own win rs n i o t now F [(p0, e0), (p1, e1), (p2, e2), (p3, e3), (p4, e4)] (.drop 2) := ⟨by kernel_rfl, by kernel_rfl, by kernel_rfl, by kernel_rfl, by kernel_rfl, by kernel_rfl, by kernel_rfl⟩
theorem bp_5_set3 (ow : Ck) (ev : Int) (own : Ck) (win : Int) (rs : List (List V)) (n : Nat) (i : Int) (o : Opp) (t now : Int) (F : List Ste) (p0 p1 p2 p3 p4 : Prt) (e0 e1 e2 e3 e4 : Ent) (e : Ent) : BpFacts ow ev own win rs n i o t now F [(p0, e0), (p1, e1), (p2, e2), (p3, e3), (p4, e4)] (.set 3 e) := ⟨by kernel_rfl, by kernel_rfl, by kernel_rfl, by kernel_rfl, by kernel_rfl, by kernel_rfl, by kernel_rfl⟩
theorem bp_5_drop3 (ow : Ck) (ev : Int) (own : Ck) (win : Int) (rs : List (List V)) (n : Nat) (i : Int) (o : Opp) (t now : Int) (F : List Ste) (p0 p1 p2 p3 p4 : Prt) (e0 e1 e2 e3 e4 : Ent) : BpFacts ow ev own win rs n i o t now F [(p0, e0), (p1, e1), (p2, e2), (p3, e3), (p4, e4)] (.drop 3) := ⟨by kernel_rfl, by kernel_rfl, by kernel_rfl, by kernel_rfl, by kernel_rfl, by kernel_rfl, by kernel_rfl⟩
theorem bp_5_set4 (ow : Ck) (ev : Int) (own : Ck) (win : Int) (rs : List (List V)) (n : Nat) (i : Int) (o : Opp) (t now : Int) (F : List Ste) (p0 p1 p2 p3 p4 : Prt) (e0 e1 e2 e3 e4 : Ent) (e : Ent) : BpFacts ow ev own win rs n i o t now F [(p0, e0), (p1, e1), (p2, e2), (p3, e3), (p4, e4)] (.set 4 e) := ⟨by kernel_rfl, by kernel_rfl, by kernel_rfl, by kernel_rfl, by kernel_rfl, by kernel_rfl, by kernel_rfl⟩
theorem bp_5_drop4 (ow : Ck) (ev : Int) (own : Ck) (win : Int) (rs : List (List V)) (n : Nat) (i : Int) (o : Opp) (t now : Int) (F : List Ste) (p0 p1 p2 p3 p4 : Prt) (e0 e1 e2 e3 e4 : Ent) : BpFacts ow ev own win rs n i o t now F [(p0, e0), (p1, e1), (p2, e2), (p3, e3), (p4, e4)] (.drop 4) := ⟨by kernel_rfl, by kernel_rfl, by kernel_rfl, by kernel_rfl, by kernel_rfl, by kernel_rfl, by kernel_rfl⟩
theorem bp_5_evi0 (ow : Ck) (ev : Int) (own : Ck) (win : Int) (rs : List (List V)) (n : Nat) (i : Int) (o : Opp) (t now : Int) (F : List Ste) (p0 p1 p2 p3 p4 : Prt) (e0 e1 e2 e3 e4 : Ent) (p : Prt) (e : Ent) : BpFacts ow ev own win rs n i o t now F [(p0, e0), (p1, e1), (p2, e2), (p3, e3), (p4, e4)] (.evi 0 p e) := ⟨by kernel_rfl, by kernel_rfl, by kernel_rfl, by kernel_rfl, by kernel_rfl, by kernel_rfl, by kernel_rfl⟩
theorem bp_5_evi1 (ow : Ck) (ev : Int) (own : Ck) (win : Int) (rs : List (List V)) (n : Nat) (i : Int) (o : Opp) (t now : Int) (F : List Ste) (p0 p1 p2 p3 p4 : Prt) (e0 e1 e2 e3 e4 : Ent) (p : Prt) (e : Ent) : BpFacts ow ev own win rs n i o t now F [(p0, e0), (p1, e1), (p2, e2), (p3, e3), (p4, e4)] (.evi 1 p e) := ⟨by kernel_rfl, by kernel_rfl, by kernel_rfl, by kernel_rfl, by kernel_rfl, by kernel_rfl, by kernel_rfl⟩
theorem bp_5_evi2 (ow : Ck) (ev : Int) (own : Ck) (win : Int) (rs : List (List V)) (n : Nat) (i : Int) (o : Opp) (t now : Int) (F : List Ste) (p0 p1 p2 p3 p4 : Prt) (e0 e1 e2 e3 e4 : Ent) (p : Prt) (e : Ent) : BpFacts ow ev own win rs n i o t now F [(p0, e0), (p1, e1), (p2, e2), (p3, e3), (p4, e4)] (.evi 2 p e) := ⟨by kernel_rfl, by kernel_rfl, by kernel_rfl, by kernel_rfl, by kernel_rfl, by kernel_rfl, by kernel_rfl⟩
theorem bp_5_evi3 (ow : Ck) (ev : Int) (own : Ck) (win : Int) (rs : List (List V)) (n : Nat) (i : Int) (o : Opp) (t now : Int) (F : List Ste) (p0 p1 p2 p3 p4 : Prt) (e0 e1 e2 e3 e4 : Ent) (p : Prt) (e : Ent) : BpFacts ow ev own win rs n i o t now F [(p0, e0), (p1, e1), (p2, e2), (p3, e3), (p4, e4)] (.evi 3 p e) := ⟨by kernel_rfl, by kernel_rfl, by kernel_rfl, by kernel_rfl, by kernel_rfl, by kernel_rfl, by kernel_rfl⟩
theorem bp_5_evi4 (ow : Ck) (ev : Int) (own : Ck) (win : Int) (rs : List (List V)) (n : Nat) (i : Int) (o : Opp) (t now : Int) (F : List Ste) (p0 p1 p2 p3 p4 : Prt) (e0 e1 e2 e3 e4 : Ent) (p : Prt) (e : Ent) : BpFacts ow ev own win rs n i o t now F [(p0, e0), (p1, e1), (p2, e2), (p3, e3), (p4, e4)] (.evi 4 p e) := ⟨by kernel_rfl, by kernel_rfl, by kernel_rfl, by kernel_rfl, by kernel_rfl, by kernel_rfl, by kernel_rfl⟩
theorem bpn_5 (ow : Ck) (ev : Int) (own : Ck) (win : Int) (rs : List (List V)) (n : Nat) (i : Int) (o : Opp) (t now : Int) (F : List Ste) (p0 p1 p2 p3 p4 : Prt) (e0 e1 e2 e3 e4 : Ent) (u : Up) (hu : u.okU 5) : BpFacts ow ev own win rs n i o t now F [(p0, e0), (p1, e1), (p2, e2), (p3, e3), (p4, e4)] u := by
  cases u with
  | keep => exact bp_5_keep ow ev own win rs n i o t now F p0 p1 p2 p3 p4 e0 e1 e2 e3 e4
  | same => exact bp_5_same ow ev own win rs n i o t now F p0 p1 p2 p3 p4 e0 e1 e2 e3 e4
  | clear => exact bp_5_clear ow ev own win rs n i o t now F p0 p1 p2 p3 p4 e0 e1 e2 e3 e4
  | set i e =>
    obtain rfl | rfl | rfl | rfl | rfl : i = 0 ∨ i = 1 ∨ i = 2 ∨ i = 3 ∨ i = 4 := by
      have : i < 5 := hu
      omega
    · exact bp_5_set0 ow ev own win rs n i o t now F p0 p1 p2 p3 p4 e0 e1 e2 e3 e4 e
    · exact bp_5_set1 ow ev own win rs n i o t now F p0 p1 p2 p3 p4 e0 e1 e2 e3 e4 e
    · exact bp_5_set2 ow ev own win rs n i o t now F p0 p1 p2 p3 p4 e0 e1 e2 e3 e4 e
    · exact bp_5_set3 ow ev own win rs n i o t now F p0 p1 p2 p3 p4 e0 e1 e2 e3 e4 e
    · exact bp_5_set4 ow ev own win rs n i o t now F p0 p1 p2 p3 p4 e0 e1 e2 e3 e4 e
  | drop i =>
    obtain rfl | rfl | rfl | rfl | rfl : i = 0 ∨ i = 1 ∨ i = 2 ∨ i = 3 ∨ i = 4 := by
      have : i < 5 := hu
      omega
    · exact bp_5_drop0 ow ev own win rs n i o t now F p0 p1 p2 p3 p4 e0 e1 e2 e3 e4
    · exact bp_5_drop1 ow ev own win rs n i o t now F p0 p1 p2 p3 p4 e0 e1 e2 e3 e4
    · exact bp_5_drop2 ow ev own win rs n i o t now F p0 p1 p2 p3 p4 e0 e1 e2 e3 e4
    · exact bp_5_drop3 ow ev own win rs n i o t now F p0 p1 p2 p3 p4 e0 e1 e2 e3 e4
    · exact bp_5_drop4 ow ev own win rs n i o t now F p0 p1 p2 p3 p4 e0 e1 e2 e3 e4
  | app p e => exact absurd hu (Nat.lt_irrefl _)
  | evi i p e =>
    obtain rfl | rfl | rfl | rfl | rfl : i = 0 ∨ i = 1 ∨ i = 2 ∨ i = 3 ∨ i = 4 := by
      have : i < 5 := hu
      omega
    · exact bp_5_evi0 ow ev own win rs n i o t now F p0 p1 p2 p3 p4 e0 e1 e2 e3 e4 p e
    · exact bp_5_evi1 ow ev own win rs n i o t now F p0 p1 p2 p3 p4 e0 e1 e2 e3 e4 p e
    · exact bp_5_evi2 ow ev own win rs n i o t now F p0 p1 p2 p3 p4 e0 e1 e2 e3 e4 p e
    · exact bp_5_evi3 ow ev own win rs n i o t now F p0 p1 p2 p3 p4 e0 e1 e2 e3 e4 p e
    · exact bp_5_evi4 ow ev own win rs n i o t now F p0 p1 p2 p3 p4 e0 e1 e2 e3 e4 p e
end Go.Proofs.Ytgdalboilghciaa

set_option maxRecDepth 100000
set_option linter.unusedSimpArgs false
set_option linter.unusedVariables false
namespace Go.Proofs.Ytgdalboilghciaa
open Go.Rx
theorem tab5 {P : TabE → Prop} (h0 : P []) (h1 : ∀ a, P [a]) (h2 : ∀ a b, P [a, b]) (h3 : ∀ a b c, P [a, b, c]) (h4 : ∀ a b c d, P [a, b, c, d]) (h5 : ∀ a b c d e, P [a, b, c, d, e]) : ∀ es : TabE, es.length ≤ 5 → P es := by
  intro es h
  rcases es with _ | ⟨a, _ | ⟨b, _ | ⟨c, _ | ⟨d, _ | ⟨e, _ | ⟨f, l⟩⟩⟩⟩⟩⟩
  · exact h0
  · exact h1 a
  · exact h2 a b
  · exact h3 a b c
  · exact h4 a b c d
  · exact h5 a b c d e
  · simp at h
theorem bp_all (ow : Ck) (ev : Int) (own : Ck) (win : Int) (rs : List (List V)) (n : Nat) (i : Int) (o : Opp) (t now : Int) (F : List Ste) (es : TabE) (hn : es.length ≤ 5) : ∀ u : Up, u.okU es.length → BpFacts ow ev own win rs n i o t now F es u := by
  revert es
  refine tab5 ?_ ?_ ?_ ?_ ?_ ?_
  · exact fun u hu => bpn_0 ow ev own win rs n i o t now F u hu
  · exact fun a u hu => bpn_1 ow ev own win rs n i o t now F a.1 a.2 u hu
  · exact fun a b u hu => bpn_2 ow ev own win rs n i o t now F a.1 b.1 a.2 b.2 u hu
  · exact fun a b c u hu => bpn_3 ow ev own win rs n i o t now F a.1 b.1 c.1 a.2 b.2 c.2 u hu
  · exact fun a b c d u hu => bpn_4 ow ev own win rs n i o t now F a.1 b.1 c.1 d.1 a.2 b.2 c.2 d.2 u hu
  · exact fun a b c d e u hu => bpn_5 ow ev own win rs n i o t now F a.1 b.1 c.1 d.1 e.1 a.2 b.2 c.2 d.2 e.2 u hu
/-- What a table's entries are. -/
def goodE (own : Ck) (e : Ent) : Prop := goodS own e.s ∧ 0 ≤ e.m ∧ e.m ≤ 2
def invB (own : Ck) (es : TabE) : Prop := ∀ x ∈ es, goodE own x.2
theorem bad_good {own : Ck} {s : Ste} {now : Int} (h : badB own s now = false) : goodS own s := by
  unfold badB at h
  simp only [Bool.or_eq_false_iff, decide_eq_false_iff_not] at h
  obtain ⟨_, _, h3, h4, h5⟩ := h
  exact ⟨h3, by omega, by omega⟩
theorem newE_good {own : Ck} {s : Ste} {now : Int} (h : badB own s now = false) : goodE own (newE s now) := ⟨bad_good h, by show (0 : Int) ≤ 1; decide, by show (1 : Int) ≤ 2; decide⟩
theorem heardE_good {own : Ck} {s : Ste} {now : Int} {e : Ent} (h : badB own s now = false) (he : goodE own e) : goodE own (heardE s now e) := by
  obtain ⟨_, h1, h2⟩ := he
  refine ⟨bad_good h, ?_, ?_⟩
  · show 0 ≤ min (IntKind.i64.wrap (e.m + 1)) 2
    rw [wrap64_id (by omega) (by omega)]
    omega
  · show min (IntKind.i64.wrap (e.m + 1)) 2 ≤ 2
    omega
theorem invB_up (srt : List Prt → List Prt) (own : Ck) (win : Int) (es : TabE) (o : Opp) (h : invB own es) : invB own ((doU srt own win es o).1.tab es) := by
  unfold doU
  cases o.k == 0 with
  | true =>
    cases hb : badB own o.s o.now with
    | true => exact h
    | false =>
      cases hf : findI o.s.snd es 0 with
      | some i =>
        dsimp only
        cases decide ((es.getD i default).2.t0 > o.now) with
        | true => exact h
        | false =>
          obtain ⟨_, _, e, he⟩ := find_some hf
          have he : es[i]? = some (o.s.snd, e) := he
          have hge : goodE own (es.getD i default).2 := by
            rw [List.getD_eq_getElem?_getD, he]
            exact h _ (List.mem_of_getElem? he)
          intro x hx
          have hx : x ∈ es.set i ((es.getD i default).1, heardE o.s o.now (es.getD i default).2) := hx
          rcases List.mem_or_eq_of_mem_set hx with hx | rfl
          · exact h x hx
          · exact heardE_good hb hge
      | none =>
        dsimp only
        cases Nat.ble 5 es.length with
        | false =>
          intro x hx
          have hx : x ∈ es ++ [(o.s.snd, newE o.s o.now)] := hx
          rcases List.mem_append.1 hx with hx | hx
          · exact h x hx
          · rw [List.mem_singleton.1 hx]; exact newE_good hb
        | true =>
          cases ovB srt es win o.now with
          | false => exact h
          | true =>
            cases findI (ovP srt es win o.now) es 0 with
            | none => exact h
            | some i =>
              intro x hx
              have hx : x ∈ es.eraseIdx i ++ [(o.s.snd, newE o.s o.now)] := hx
              rcases List.mem_append.1 hx with hx | hx
              · exact h x (List.mem_of_mem_eraseIdx hx)
              · rw [List.mem_singleton.1 hx]; exact newE_good hb
  | false =>
    cases o.k == 1 with
    | true =>
      cases findI o.s.snd es 0 with
      | none => exact h
      | some i => exact fun x hx => h x (List.mem_of_mem_eraseIdx hx)
    | false =>
      cases o.k == 2 with
      | true => exact fun x hx => by cases hx
      | false => exact h
theorem wfE_of {own : Ck} {es : TabE} (h : invB own es) : wfE es = true := by
  unfold wfE
  rw [List.all_eq_true]
  intro x hx
  obtain ⟨_, h1, h2⟩ := h x hx
  rw [decide_eq_true h1, decide_eq_true h2]
  rfl
theorem qC_last {now win : Int} {x : Prt} : ∀ {es : TabE}, qC now win x es = true → ∃ e ∈ es, (lastE x es).1 = e.2.s
  | [], h => by cases h
  | e :: r, h => by
    rw [qC] at h
    rw [lastE]
    split at h
    · rename_i he
      rw [he]
      exact ⟨e, List.mem_cons_self, rfl⟩
    · rename_i he
      rw [he]
      obtain ⟨y, hy, h2⟩ := qC_last h
      exact ⟨y, List.mem_cons_of_mem _ hy, h2⟩
theorem quF_good {own : Ck} {now win : Int} {es : TabE} (h : invB own es) (l : List Prt) : ∀ s ∈ quF now win es l, goodS own s := by
  intro s hs
  unfold quF at hs
  obtain ⟨x, hx, rfl⟩ := List.mem_map.1 hs
  obtain ⟨e, he, h2⟩ := qC_last (List.mem_filter.1 hx).2
  rw [h2]
  exact (h e he).1
theorem quRes_ok {own : Ck} {win now : Int} {es : TabE} (hn : es.length ≤ 5) (hw : wfE es = true) : (quS isoL [.ptr 0 0 0 0, .int .i64 now] (tabB own win es)).denN = some (quRes es.length (quF now win es (isoL (es.map (·.1))))).nrm := by
  unfold quS
  simp only [tabP_tabB]
  rw [Nat.ble_eq.mpr hn]
  show (quR isoL es win now).denN = _
  unfold quR
  rw [hw]
  rfl
theorem kept_rep (K : List Nat) (n : Nat) : K.all (keptB (List.replicate n (none : Option (Option Blk)))) = true := by
  rw [List.all_eq_true]
  intro b _
  unfold keptB
  rw [List.getElem?_replicate]
  split <;> rename_i h
  · split at h <;> cases h
  · rfl
theorem bp_run (ev : Int) (own : Ck) (win : Int) (l : List Opp) (hl : l.length ≤ 1000) : ∀ (d k : Nat) (es : TabE), k + d = l.length → es.length ≤ 5 → invB own es →
    RunG P [0, 2] 82 [2, 5, 31, 32, 33] [4] (loopAt Try.f5 0) (d + 1) (bpV l.length k) (bpB own ev own win (l.map Opp.vs) es) (.exit 0) [.any] ∨
    RunG P [0, 2] 82 [2, 5, 31, 32, 33] [4] (loopAt Try.f5 0) (d + 1) (bpV l.length k) (bpB own ev own win (l.map Opp.vs) es) .ret [.tru] := by
  have hG : ∀ (es : TabE) (o : Opp) (hn : es.length ≤ 5) (hI : invB own es), GammaOK P (bpG [.ptr 0 0 0 0, o.v] (tabB own win es) ((doU isoL own win es o).1.res es (doU isoL own win es o).2) [.ptr 0 0 0 0, .int .i64 o.now] (tabB own win ((doU isoL own win es o).1.tab es))
      (quRes ((doU isoL own win es o).1.tab es).length (quF o.now win ((doU isoL own win es o).1.tab es) (isoL (((doU isoL own win es o).1.tab es).map (·.1)))))) := fun es o hn hI =>
    .cons (or_ok (do_ok (srt := isoL) fun _ => rfl) (doU_ok (fun _ => rfl) own win es o hn)) (.cons le_ok (.cons (inl_ok (GammaOK.nil P) hm Try.func15 (by kernel_rfl) (LoopsOK.nil (by kernel_rfl))) (.cons (al_ok (srt := isoL) fun _ => rfl)
      (.cons (or_ok (qu_ok (srt := isoL) fun _ => rfl) (quRes_ok (doU_okU own win es o hn).2 (wfE_of (invB_up isoL own win es o hI)))) (.nil P)))))
  have hL : LoopsOK P (loopsOf [(11, biL)]) (loopAt Try.f5 0) := LoopsOK.inner (d := loopAt Try.f5 1) (by kernel_rfl) (by kernel_rfl) bi_loop
  intro d
  induction d with
  | zero =>
    intro k es hk hn hI
    obtain ⟨hu, _⟩ := doU_okU (srt := isoL) own win es ⟨5, 0, default⟩ hn
    have hx := (bp_all own ev own win (l.map Opp.vs) l.length k ⟨5, 0, default⟩ (doU isoL own win es ⟨5, 0, default⟩).2 0 (quF 0 win ((doU isoL own win es ⟨5, 0, default⟩).1.tab es) (isoL (((doU isoL own win es ⟨5, 0, default⟩).1.tab es).map (·.1)))) es hn _ hu).1
    unfold bpX at hx
    rw [decide_eq_false (show ¬ ((k : Nat) : Int) < (l.length : Int) by omega)] at hx
    left
    unfold RunG
    exact ⟨_, _, bpE es.length, hG es ⟨5, 0, default⟩ hn hI, hL, hx, kept_rep _ _, .inl ⟨by show Ex.exit 0 ≠ Ex.nrm; decide, rfl, rfl⟩⟩
  | succ d ih =>
    intro k es hk hn hI
    have hkl : k < l.length := by omega
    obtain ⟨o, ho⟩ : ∃ o, l[k]? = some o := ⟨l[k], List.getElem?_eq_getElem hkl⟩
    obtain ⟨hu, hn'⟩ := doU_okU (srt := isoL) own win es o hn
    have hI' := invB_up isoL own win es o hI
    obtain ⟨f1, f2, f3, f4, f5, f6, f7⟩ := bp_all own ev own win (l.map Opp.vs) l.length k o (doU isoL own win es o).2 o.now (quF o.now win ((doU isoL own win es o).1.tab es) (isoL (((doU isoL own win es o).1.tab es).map (·.1)))) es hn _ hu
    have hrow : rowO ((l.map Opp.vs).getD (0 + ((k : Nat) : Int).toNat) []) = o := by
      rw [Int.toNat_natCast, Nat.zero_add, List.getD_eq_getElem?_getD, List.getElem?_map, ho]
      exact rowO_vs o
    rw [hrow] at f1
    unfold bpX at f1
    rw [decide_eq_true (show ((k : Nat) : Int) < (l.length : Int) by omega), decide_eq_true (show (0 : Int) ≤ ((k : Nat) : Int) by omega), eqAB_self, eqAB_self,
      decide_eq_true (show 0 + ((k : Nat) : Int).toNat < (l.map Opp.vs).length by rw [Int.toNat_natCast, List.length_map]; omega)] at f1
    unfold bpT at f1
    have ret : ∀ (T : Tree LRes), (Tree.den (bpRd [.ptr 0 0 0 0, o.v] (tabB own win es) ((doU isoL own win es o).1.res es (doU isoL own win es o).2) [.ptr 0 0 0 0, .int .i64 o.now] (tabB own win ((doU isoL own win es o).1.tab es))
      (quRes ((doU isoL own win es o).1.tab es).length (quF o.now win ((doU isoL own win es o).1.tab es) (isoL (((doU isoL own win es o).1.tab es).map (·.1))))) (bpV l.length k) (bpB own ev own win (l.map Opp.vs) es))) = some (bpF es (doU isoL own win es o).1) →
        RunG P [0, 2] 82 [2, 5, 31, 32, 33] [4] (loopAt Try.f5 0) (d + 1 + 1) (bpV l.length k) (bpB own ev own win (l.map Opp.vs) es) .ret [.tru] := by
      intro _ hx
      unfold RunG
      exact ⟨_, _, bpF es (doU isoL own win es o).1, hG es o hn hI, hL, hx, f7, .inl ⟨by show Ex.ret ≠ Ex.nrm; decide, rfl, rfl⟩⟩
    cases c1 : decide (o.now < -4611686018427387904) with
    | true =>
      rw [c1] at f1
      exact .inr (ret .fail f1)
    | false =>
      cases c2 : decide (o.now > 4611686018427387904) with
      | true =>
        rw [c1, c2] at f1
        exact .inr (ret .fail f1)
      | false =>
        have hlen : (quF o.now win ((doU isoL own win es o).1.tab es) (isoL (((doU isoL own win es o).1.tab es).map (·.1)))).length ≤ 1000 := by
          unfold quF
          rw [List.length_map]
          refine Nat.le_trans (List.length_filter_le _ _) ?_
          rw [(isoL_perm _).length_eq, List.length_map]
          omega
        have hok : okS own (quF o.now win ((doU isoL own win es o).1.tab es) (isoL (((doU isoL own win es o).1.tab es).map (·.1)))).length ((quF o.now win ((doU isoL own win es o).1.tab es) (isoL (((doU isoL own win es o).1.tab es).map (·.1)))).map Ste.vs) = true :=
          okS_iff.2 ⟨_, rfl, rfl, quF_good hI' _⟩
        rw [c1, c2, hok, decide_eq_true hlen, decide_eq_true (show (((quF o.now win ((doU isoL own win es o).1.tab es) (isoL (((doU isoL own win es o).1.tab es).map (·.1)))).length : Nat) : Int) = _ from rfl)] at f1
        have wk : IntKind.i64.wrap (((k : Nat) : Int) + 1) = ((k + 1 : Nat) : Int) := by rw [wrap64_id (by omega) (by omega)]; omega
        rw [wk] at f3
        have go : ∀ e vs, RunG P [0, 2] 82 [2, 5, 31, 32, 33] [4] (loopAt Try.f5 0) (d + 1) (bpV l.length (k + 1 : Nat)) (bpB own ev own win (l.map Opp.vs) ((doU isoL own win es o).1.tab es)) e vs →
            RunG P [0, 2] 82 [2, 5, 31, 32, 33] [4] (loopAt Try.f5 0) (d + 1 + 1) (bpV l.length k) (bpB own ev own win (l.map Opp.vs) es) e vs := by
          intro e vs hr
          rw [RunG]
          refine ⟨_, _, bpL l.length k es (doU isoL own win es o).1, hG es o hn hI, hL, f1, f5, .inr ⟨rfl, f2, f6, ?_⟩⟩
          rw [f3, f4]
          exact hr
        rcases ih (k + 1) _ (by omega) hn' hI' with h | h
        · exact .inl (go _ _ h)
        · exact .inr (go _ _ h)
/-- Rows of calls. -/
noncomputable def okO (n : Nat) (rs : List (List V)) : Bool := @decide (∃ l : List Opp, rs = l.map Opp.vs ∧ l.length = n) (Classical.propDecidable _)
theorem okO_iff {n : Nat} {rs : List (List V)} : okO n rs = true ↔ ∃ l : List Opp, rs = l.map Opp.vs ∧ l.length = n := by
  unfold okO
  exact ⟨fun h => @of_decide_eq_true _ (Classical.propDecidable _) h, fun h => @decide_eq_true _ (Classical.propDecidable _) h⟩
theorem KVs_int {k : IntKind} {ks : List K} {r : List V} (h : KVs (.int k :: ks) r) : ∃ n r', r = .int k n :: r' ∧ KVs ks r' := by
  obtain ⟨x, xs, rfl, ⟨n, rfl, _⟩, h⟩ := h
  exact ⟨n, xs, rfl, h⟩
theorem row_opp {r : List V} (h : KVs opK r) : ∃ o : Opp, r = o.vs := by
  obtain ⟨n0, r0, e0, h⟩ := KVs_int h
  obtain ⟨n1, r1, e1, h⟩ := KVs_int h
  obtain ⟨n2, r2, e2, h⟩ := KVs_int h
  obtain ⟨n3, r3, e3, h⟩ := KVs_int h
  obtain ⟨n4, r4, e4, h⟩ := KVs_int h
  obtain ⟨n5, r5, e5, h⟩ := KVs_int h
  obtain ⟨n6, r6, e6, h⟩ := KVs_int h
  obtain ⟨n7, r7, e7, h⟩ := KVs_int h
  obtain ⟨n8, r8, e8, h⟩ := KVs_int h
  obtain ⟨n9, r9, e9, h⟩ := KVs_int h
  obtain ⟨n10, r10, e10, h⟩ := KVs_int h
  obtain ⟨n11, r11, e11, h⟩ := KVs_int h
  obtain ⟨n12, r12, e12, h⟩ := KVs_int h
  obtain ⟨n13, r13, e13, h⟩ := KVs_int h
  obtain ⟨n14, r14, e14, h⟩ := KVs_int h
  obtain ⟨n15, r15, e15, h⟩ := KVs_int h
  obtain ⟨n16, r16, e16, h⟩ := KVs_int h
  obtain ⟨n17, r17, e17, h⟩ := KVs_int h
  obtain ⟨n18, r18, e18, h⟩ := KVs_int h
  obtain ⟨n19, r19, e19, h⟩ := KVs_int h
  obtain ⟨n20, r20, e20, h⟩ := KVs_int h
  obtain ⟨n21, r21, e21, h⟩ := KVs_int h
  obtain ⟨n22, r22, e22, h⟩ := KVs_int h
  obtain ⟨n23, r23, e23, h⟩ := KVs_int h
  obtain ⟨n24, r24, e24, h⟩ := KVs_int h
  obtain ⟨n25, r25, e25, h⟩ := KVs_int h
  obtain ⟨n26, r26, e26, h⟩ := KVs_int h
  obtain ⟨n27, r27, e27, h⟩ := KVs_int h
  obtain ⟨n28, r28, e28, h⟩ := KVs_int h
  obtain ⟨n29, r29, e29, h⟩ := KVs_int h
  obtain ⟨n30, r30, e30, h⟩ := KVs_int h
  obtain ⟨n31, r31, e31, h⟩ := KVs_int h
  obtain ⟨n32, r32, e32, h⟩ := KVs_int h
  obtain ⟨n33, r33, e33, h⟩ := KVs_int h
  have h : r33 = [] := h
  rw [e0, e1, e2, e3, e4, e5, e6, e7, e8, e9, e10, e11, e12, e13, e14, e15, e16, e17, e18, e19, e20, e21, e22, e23, e24, e25, e26, e27, e28, e29, e30, e31, e32, e33, h]
  exact ⟨⟨n0, n1, ⟨n2, n3, ⟨n4, n5, n6⟩, ⟨n7, n8, n9, n10, n11, n12, n13, n14⟩, n15, ⟨⟨n16, n17, n18, n19, n20, n21, n22, n23⟩, n24⟩, ⟨⟨n25, n26, n27, n28, n29, n30, n31, n32⟩, n33⟩⟩⟩, rfl⟩
theorem rows_opp : ∀ {rs : List (List V)}, (∀ r ∈ rs, KVs opK r) → ∃ l : List Opp, rs = l.map Opp.vs ∧ l.length = rs.length
  | [], _ => ⟨[], rfl, rfl⟩
  | r :: rs, h => by
    obtain ⟨o, ho⟩ := row_opp (h r List.mem_cons_self)
    obtain ⟨l, h1, h2⟩ := rows_opp fun x hx => h x (List.mem_cons_of_mem _ hx)
    exact ⟨o :: l, by rw [List.map_cons, ← ho, ← h1], by rw [List.length_cons, List.length_cons, h2]⟩
/-- Does the loop end early? -/
noncomputable def bpQ (ev : Int) (own : Ck) (win : Int) (n : Nat) (rs : List (List V)) : Bool := @decide (RunG P [0, 2] 82 [2, 5, 31, 32, 33] [4] (loopAt Try.f5 0) (n + 1) (bpV n 0) (bpB own ev own win rs []) .ret [.tru]) (Classical.propDecidable _)
noncomputable def bpLf (vals : List V) (bs : List Blk) : Tree LRes := match vals, bs with
  | [.ptr 0 0 0 0, .ptr 1 0 0 0, .sl 2 0 0 34 n none, .int .i64 n', .int .i64 0], [Body.cells xc, tc, Body.rows sch rs, kb] => match Ck.p xc, tabPk 2 [tc, kb] with
    | some (own', [.int .i64 ev]), some (own, win, []) => .lit (decide (sch = opK)) (.need (own'.eqB own && (okO n rs && (decide (n ≤ 1000) && decide (n' = (n : Int))))) (.ite (bpQ ev own win n rs) (.leaf ⟨.ret, [.tru], goneU [0, 2] 4, []⟩) (.leaf ⟨.exit 0, [.any], goneU [0, 2] 4, []⟩)))
    | _, _ => .fail
  | _, _ => .fail
noncomputable abbrev bpLs : LSpec := ⟨82, [2, 5, 31, 32, 33], [4], bpLf⟩
theorem bp_loop : LoopOK P (loopAt Try.f5 0) bpLs := by
  refine loop_okG [0, 2] hm bpLs ?_
  intro vals bs r h
  change (bpLf vals bs).den = some r at h
  unfold bpLf at h
  split at h
  · rename_i n n' xc tc sch rs kb
    split at h
    · rename_i own' ev own win hs hb
      have hb := tabPk_eq hb
      have hs := Ck.p_eq hs
      rw [den_lit, den_need] at h
      obtain ⟨h1, h2, h⟩ := h
      simp only [decide_eq_true_eq] at h1
      simp only [Bool.and_eq_true, decide_eq_true_eq, okO_iff, Ck.eqB_iff] at h2
      obtain ⟨rfl, ⟨l, rfl, rfl⟩, h3, rfl⟩ := h2
      subst h1 hs
      have hb : tc :: [kb] = Body.cells (own'.vs ++ [.int .i64 win, .mapr 3]) :: [Body.kv [] []] := hb
      have e1 := (List.cons.inj hb).1
      have e2 := (List.cons.inj (List.cons.inj hb).2).1
      have hr := bp_run ev own' win l h3 l.length 0 [] (by omega) (by decide) (fun x hx => by cases hx)
      cases hq : bpQ ev own' win l.length (l.map Opp.vs) with
      | true =>
        rw [hq] at h
        have h : some (⟨.ret, [.tru], goneU [0, 2] 4, []⟩ : LRes) = some r := h
        cases h
        refine ⟨rfl, rfl, rfl, l.length + 1, ?_⟩
        rw [e1, e2]
        unfold bpQ at hq
        exact @of_decide_eq_true _ (Classical.propDecidable _) hq
      | false =>
        rw [hq] at h
        have h : some (⟨.exit 0, [.any], goneU [0, 2] 4, []⟩ : LRes) = some r := h
        cases h
        refine ⟨rfl, rfl, rfl, l.length + 1, ?_⟩
        rw [e1, e2]
        rcases hr with hr | hr
        · exact hr
        · unfold bpQ at hq
          exact absurd hr (@of_decide_eq_false _ (Classical.propDecidable _) hq)
    · simp [den_fail] at h
  · simp [den_fail] at h
abbrev bwG : List (Nat × Rx.Spec) := [(9, neS), (10, alS)]
noncomputable def bwT (own : Ck) (ev : Int) (n : Nat) (rs : List (List V)) : Tree Res :=
  .ite (decide (ev < 1)) (.leaf ⟨.tru, [none], []⟩) (.ite (decide (ev > 1099511627776)) (.leaf ⟨.tru, [none], []⟩) (.ite (decide ((n : Int) > 400)) (.leaf ⟨.tru, [none], []⟩)
    (.ite (own.eqB own && (okO n rs && (decide (n ≤ 1000) && decide ((n : Int) = (n : Int))))) (.ite (bpQ ev own (IntKind.i64.wrap (4 * ev)) n rs) (.leaf ⟨.tru, [none], []⟩) (.leaf ⟨.tru, [none], []⟩)) .fail)))
theorem bw_nf (own : Ck) (ev : Int) (n : Nat) (rs : List (List V)) : Tree.denN (fFn P (specsOf bwG) (loopsOf [(5, bpLs)]) Try.f5 [.agg (own.vs ++ [.int .i64 ev]), .sl 0 0 0 34 n none] [.rows opK rs]) = Tree.denN (bwT own ev n rs) := by
  kernel_rfl
noncomputable def bwS : Rx.Spec := fun a b => match a, b with
  | [q, .sl 0 0 0 34 n none], [.rows sch rs] => match Sea.of q with
    | some x => .lit (decide (sch = opK)) (.need (okO n rs) (.leaf ⟨.bool true, [none], []⟩))
    | _ => .fail
  | _, _ => .fail
theorem bw_true (own : Ck) (ev : Int) (n : Nat) (rs : List (List V)) (h : okO n rs = true) : (bwT own ev n rs).denN = some (Res.nrm ⟨.bool true, [none], []⟩) := by
  unfold bwT
  simp only [denN_ite, denN_leaf]
  split
  · rfl
  split
  · rfl
  split
  · rfl
  rename_i c3
  simp only [decide_eq_true_eq] at c3
  rw [h, decide_eq_true (show n ≤ 1000 by omega), Ck.eqB_self]
  cases bpQ ev own (IntKind.i64.wrap (4 * ev)) n rs <;> rfl
theorem bw_ok : SpecOK P 5 bwS := by
  refine specOK_fast (.cons ne_ok (.cons (al_ok (srt := isoL) fun _ => rfl) (.nil P)) : GammaOK P bwG) hm (Λ := loopsOf [(5, bpLs)]) Try.func5 (by kernel_rfl) (LoopsOK.outer (by kernel_rfl) (by kernel_rfl) bp_loop) ?_
  intro args bs r h
  unfold bwS at h
  split at h
  · rename_i q n sch rs
    split at h
    · rename_i x h1
      have h1 := Sea.of_eq h1
      subst h1
      rw [den_lit, den_need, denLf] at h
      obtain ⟨h3, h4, h⟩ := h
      simp only [decide_eq_true_eq] at h3
      subst h3
      cases h
      exact (bw_nf x.own x.ev n rs).trans (bw_true x.own x.ev n rs h4)
    · simp [den_fail] at h
  · simp [den_fail] at h
end Go.Proofs.Ytgdalboilghciaa
