/- Layer 8: rounds of ForeignApart over tables of three and four entries. No condition. -/
import Derived.Test.YtgdalboilghciaaFoG
set_option linter.unusedSimpArgs false
set_option linter.unusedVariables false
set_option linter.unnecessarySimpa false
set_option linter.unusedSectionVars false
set_option maxRecDepth 100000
set_option linter.unusedSimpArgs false
set_option linter.unusedVariables false
namespace Go.Proofs.Ytgdalboilghciaa
open Go.Rx
theorem ap_3_keep (s : Ste) (own : Ck) (win : Int) (rs : List (List V)) (n : Nat) (i : Int) (o : Opp) (t : Int) (p0 p1 p2 : Prt) (e0 e1 e2 : Ent) : ApFacts s own win rs n i o t [(p0, e0), (p1, e1), (p2, e2)] .keep := ⟨by kernel_rfl, by kernel_rfl, by kernel_rfl, by kernel_rfl, by kernel_rfl, by kernel_rfl⟩
theorem ap_3_same (s : Ste) (own : Ck) (win : Int) (rs : List (List V)) (n : Nat) (i : Int) (o : Opp) (t : Int) (p0 p1 p2 : Prt) (e0 e1 e2 : Ent) : ApFacts s own win rs n i o t [(p0, e0), (p1, e1), (p2, e2)] .same := ⟨by kernel_rfl, by kernel_rfl, by kernel_rfl, by kernel_rfl, by kernel_rfl, by kernel_rfl⟩
theorem ap_3_clear (s : Ste) (own : Ck) (win : Int) (rs : List (List V)) (n : Nat) (i : Int) (o : Opp) (t : Int) (p0 p1 p2 : Prt) (e0 e1 e2 : Ent) : ApFacts s own win rs n i o t [(p0, e0), (p1, e1), (p2, e2)] .clear := ⟨by kernel_rfl, by kernel_rfl, by kernel_rfl, by kernel_rfl, by kernel_rfl, by kernel_rfl⟩
theorem ap_3_set0 (s : Ste) (own : Ck) (win : Int) (rs : List (List V)) (n : Nat) (i : Int) (o : Opp) (t : Int) (p0 p1 p2 : Prt) (e0 e1 e2 : Ent) (e : Ent) : ApFacts s own win rs n i o t [(p0, e0), (p1, e1), (p2, e2)] (.set 0 e) := ⟨by kernel_rfl, by kernel_rfl, by kernel_rfl, by kernel_rfl, by kernel_rfl, by kernel_rfl⟩
theorem ap_3_drop0 (s : Ste) (own : Ck) (win : Int) (rs : List (List V)) (n : Nat) (i : Int) (o : Opp) (t : Int) (p0 p1 p2 : Prt) (e0 e1 e2 : Ent) : ApFacts s own win rs n i o t [(p0, e0), (p1, e1), (p2, e2)] (.drop 0) := ⟨by kernel_rfl, by kernel_rfl, by kernel_rfl, by kernel_rfl, by kernel_rfl, by kernel_rfl⟩
theorem ap_3_set1 (s : Ste) (own : Ck) (win : Int) (rs : List (List V)) (n : Nat) (i : Int) (o : Opp) (t : Int) (p0 p1 p2 : Prt) (e0 e1 e2 : Ent) (e : Ent) : ApFacts s own win rs n i o t [(p0, e0), (p1, e1), (p2, e2)] (.set 1 e) := ⟨by kernel_rfl, by kernel_rfl, by kernel_rfl, by kernel_rfl, by kernel_rfl, by kernel_rfl⟩
theorem ap_3_drop1 (s : Ste) (own : Ck) (win : Int) (rs : List (List V)) (n : Nat) (i : Int) (o : Opp) (t : Int) (p0 p1 p2 : Prt) (e0 e1 e2 : Ent) : ApFacts s own win rs n i o t [(p0, e0), (p1, e1), (p2, e2)] (.drop 1) := ⟨by kernel_rfl, by kernel_rfl, by kernel_rfl, by kernel_rfl, by kernel_rfl, by kernel_rfl⟩
theorem ap_3_set2 (s : Ste) (own : Ck) (win : Int) (rs : List (List V)) (n : Nat) (i : Int) (o : Opp) (t : Int) (p0 p1 p2 : Prt) (e0 e1 e2 : Ent) (e : Ent) : ApFacts s own win rs n i o t [(p0, e0), (p1, e1), (p2, e2)] (.set 2 e) := ⟨by kernel_rfl, by kernel_rfl, by kernel_rfl, by kernel_rfl, by kernel_rfl, by kernel_rfl⟩
theorem ap_3_drop2 (s : Ste) (own : Ck) (win : Int) (rs : List (List V)) (n : Nat) (i : Int) (o : Opp) (t : Int) (p0 p1 p2 : Prt) (e0 e1 e2 : Ent) : ApFacts s own win rs n i o t [(p0, e0), (p1, e1), (p2, e2)] (.drop 2) := ⟨by kernel_rfl, by kernel_rfl, by kernel_rfl, by kernel_rfl, by kernel_rfl, by kernel_rfl⟩
theorem ap_3_app (s : Ste) (own : Ck) (win : Int) (rs : List (List V)) (n : Nat) (i : Int) (o : Opp) (t : Int) (p0 p1 p2 : Prt) (e0 e1 e2 : Ent) (p : Prt) (e : Ent) : ApFacts s own win rs n i o t [(p0, e0), (p1, e1), (p2, e2)] (.app p e) := ⟨by kernel_rfl, by kernel_rfl, by kernel_rfl, by kernel_rfl, by kernel_rfl, by kernel_rfl⟩
theorem ap_3_evi0 (s : Ste) (own : Ck) (win : Int) (rs : List (List V)) (n : Nat) (i : Int) (o : Opp) (t : Int) (p0 p1 p2 : Prt) (e0 e1 e2 : Ent) (p : Prt) (e : Ent) : ApFacts s own win rs n i o t [(p0, e0), (p1, e1), (p2, e2)] (.evi 0 p e) := ⟨by kernel_rfl, by kernel_rfl, by kernel_rfl, by kernel_rfl, by kernel_rfl, by kernel_rfl⟩
theorem ap_3_evi1 (s : Ste) (own : Ck) (win : Int) (rs : List (List V)) (n : Nat) (i : Int) (o : Opp) (t : Int) (p0 p1 p2 : Prt) (e0 e1 e2 : Ent) (p : Prt) (e : Ent) : ApFacts s own win rs n i o t [(p0, e0), (p1, e1), (p2, e2)] (.evi 1 p e) := ⟨by kernel_rfl, by kernel_rfl, by kernel_rfl, by kernel_rfl, by kernel_rfl, by kernel_rfl⟩
theorem ap_3_evi2 (s : Ste) (own : Ck) (win : Int) (rs : List (List V)) (n : Nat) (i : Int) (o : Opp) (t : Int) (p0 p1 p2 : Prt) (e0 e1 e2 : Ent) (p : Prt) (e : Ent) : ApFacts s own win rs n i o t [(p0, e0), (p1, e1), (p2, e2)] (.evi 2 p e) := ⟨by kernel_rfl, by kernel_rfl, by kernel_rfl, by kernel_rfl, by kernel_rfl, by kernel_rfl⟩
theorem apn_3 (s : Ste) (own : Ck) (win : Int) (rs : List (List V)) (n : Nat) (i : Int) (o : Opp) (t : Int) (p0 p1 p2 : Prt) (e0 e1 e2 : Ent) (u : Up) (hu : u.okU 3) : ApFacts s own win rs n i o t [(p0, e0), (p1, e1), (p2, e2)] u := by
  cases u with
  | keep => exact ap_3_keep s own win rs n i o t p0 p1 p2 e0 e1 e2
  | same => exact ap_3_same s own win rs n i o t p0 p1 p2 e0 e1 e2
  | clear => exact ap_3_clear s own win rs n i o t p0 p1 p2 e0 e1 e2
  | set i e =>
    obtain rfl | rfl | rfl : i = 0 ∨ i = 1 ∨ i = 2 := by
      have : i < 3 := hu
      omega
    · exact ap_3_set0 s own win rs n i o t p0 p1 p2 e0 e1 e2 e
    · exact ap_3_set1 s own win rs n i o t p0 p1 p2 e0 e1 e2 e
    · exact ap_3_set2 s own win rs n i o t p0 p1 p2 e0 e1 e2 e
  | drop i =>
    obtain rfl | rfl | rfl : i = 0 ∨ i = 1 ∨ i = 2 := by
      have : i < 3 := hu
      omega
    · exact ap_3_drop0 s own win rs n i o t p0 p1 p2 e0 e1 e2
    · exact ap_3_drop1 s own win rs n i o t p0 p1 p2 e0 e1 e2
    · exact ap_3_drop2 s own win rs n i o t p0 p1 p2 e0 e1 e2
  | app p e => exact ap_3_app s own win rs n i o t p0 p1 p2 e0 e1 e2 p e
  | evi i p e =>
    obtain rfl | rfl | rfl : i = 0 ∨ i = 1 ∨ i = 2 := by
      have : i < 3 := hu
      omega
    · exact ap_3_evi0 s own win rs n i o t p0 p1 p2 e0 e1 e2 p e
    · exact ap_3_evi1 s own win rs n i o t p0 p1 p2 e0 e1 e2 p e
    · exact ap_3_evi2 s own win rs n i o t p0 p1 p2 e0 e1 e2 p e
end Go.Proofs.Ytgdalboilghciaa

set_option maxRecDepth 100000
set_option linter.unusedSimpArgs false
set_option linter.unusedVariables false
namespace Go.Proofs.Ytgdalboilghciaa
open Go.Rx
theorem ap_4_keep (s : Ste) (own : Ck) (win : Int) (rs : List (List V)) (n : Nat) (i : Int) (o : Opp) (t : Int) (p0 p1 p2 p3 : Prt) (e0 e1 e2 e3 : Ent) : ApFacts s own win rs n i o t [(p0, e0), (p1, e1), (p2, e2), (p3, e3)] .keep := ⟨by kernel_rfl, by kernel_rfl, by kernel_rfl, by kernel_rfl, by kernel_rfl, by kernel_rfl⟩
theorem ap_4_same (s : Ste) (own : Ck) (win : Int) (rs : List (List V)) (n : Nat) (i : Int) (o : Opp) (t : Int) (p0 p1 p2 p3 : Prt) (e0 e1 e2 e3 : Ent) : ApFacts s own win rs n i o t [(p0, e0), (p1, e1), (p2, e2), (p3, e3)] .same := ⟨by kernel_rfl, by kernel_rfl, by kernel_rfl, by kernel_rfl, by kernel_rfl, by kernel_rfl⟩
theorem ap_4_clear (s : Ste) (own : Ck) (win : Int) (rs : List (List V)) (n : Nat) (i : Int) (o : Opp) (t : Int) (p0 p1 p2 p3 : Prt) (e0 e1 e2 e3 : Ent) : ApFacts s own win rs n i o t [(p0, e0), (p1, e1), (p2, e2), (p3, e3)] .clear := ⟨by kernel_rfl, by kernel_rfl, by kernel_rfl, by kernel_rfl, by kernel_rfl, by kernel_rfl⟩
theorem ap_4_set0 (s : Ste) (own : Ck) (win : Int) (rs : List (List V)) (n : Nat) (i : Int) (o : Opp) (t : Int) (p0 p1 p2 p3 : Prt) (e0 e1 e2 e3 : Ent) (e : Ent) : ApFacts s own win rs n i o t [(p0, e0), (p1, e1), (p2, e2), (p3, e3)] (.set 0 e) := ⟨by kernel_rfl, by kernel_rfl, by kernel_rfl, by kernel_rfl, by kernel_rfl, by kernel_rfl⟩
theorem ap_4_drop0 (s : Ste) (own : Ck) (win : Int) (rs : List (List V)) (n : Nat) (i : Int) (o : Opp) (t : Int) (p0 p1 p2 p3 : Prt) (e0 e1 e2 e3 : Ent) : ApFacts s own win rs n i o t [(p0, e0), (p1, e1), (p2, e2), (p3, e3)] (.drop 0) := ⟨by kernel_rfl, by kernel_rfl, by kernel_rfl, by kernel_rfl, by kernel_rfl, by kernel_rfl⟩
theorem ap_4_set1 (s : Ste) (own : Ck) (win : Int) (rs : List (List V)) (n : Nat) (i : Int) (o : Opp) (t : Int) (p0 p1 p2 p3 : Prt) (e0 e1 e2 e3 : Ent) (e : Ent) : ApFacts s own win rs n i o t [(p0, e0), (p1, e1), (p2, e2), (p3, e3)] (.set 1 e) := ⟨by kernel_rfl, by kernel_rfl, by kernel_rfl, by kernel_rfl, by kernel_rfl, by kernel_rfl⟩
theorem ap_4_drop1 (s : Ste) (own : Ck) (win : Int) (rs : List (List V)) (n : Nat) (i : Int) (o : Opp) (t : Int) (p0 p1 p2 p3 : Prt) (e0 e1 e2 e3 : Ent) : ApFacts s own win rs n i o t [(p0, e0), (p1, e1), (p2, e2), (p3, e3)] (.drop 1) := ⟨by kernel_rfl, by kernel_rfl, by kernel_rfl, by kernel_rfl, by kernel_rfl, by kernel_rfl⟩
theorem ap_4_set2 (s : Ste) (own : Ck) (win : Int) (rs : List (List V)) (n : Nat) (i : Int) (o : Opp) (t : Int) (p0 p1 p2 p3 : Prt) (e0 e1 e2 e3 : Ent) (e : Ent) : ApFacts s own win rs n i o t [(p0, e0), (p1, e1), (p2, e2), (p3, e3)] (.set 2 e) := ⟨by kernel_rfl, by kernel_rfl, by kernel_rfl, by kernel_rfl, by kernel_rfl, by kernel_rfl⟩
theorem ap_4_drop2 (s : Ste) (own : Ck) (win : Int) (rs : List (List V)) (n : Nat) (i : Int) (o : Opp) (t : Int) (p0 p1 p2 p3 : Prt) (e0 e1 e2 e3 : Ent) : ApFacts s own win rs n i o t [(p0, e0), (p1, e1), (p2, e2), (p3, e3)] (.drop 2) := ⟨by kernel_rfl, by kernel_rfl, by kernel_rfl, by kernel_rfl, by kernel_rfl, by kernel_rfl⟩
theorem ap_4_set3 (s : Ste) (own : Ck) (win : Int) (rs : List (List V)) (n : Nat) (i : Int) (o : Opp) (t : Int) (p0 p1 p2 p3 : Prt) (e0 e1 e2 e3 : Ent) (e : Ent) : ApFacts s own win rs n i o t [(p0, e0), (p1, e1), (p2, e2), (p3, e3)] (.set 3 e) := ⟨by kernel_rfl, by kernel_rfl, by kernel_rfl, by kernel_rfl, by kernel_rfl, by kernel_rfl⟩
theorem ap_4_drop3 (s : Ste) (own : Ck) (win : Int) (rs : List (List V)) (n : Nat) (i : Int) (o : Opp) (t : Int) (p0 p1 p2 p3 : Prt) (e0 e1 e2 e3 : Ent) : ApFacts s own win rs n i o t [(p0, e0), (p1, e1), (p2, e2), (p3, e3)] (.drop 3) := ⟨by kernel_rfl, by kernel_rfl, by kernel_rfl, by kernel_rfl, by kernel_rfl, by kernel_rfl⟩
theorem ap_4_app (s : Ste) (own : Ck) (win : Int) (rs : List (List V)) (n : Nat) (i : Int) (o : Opp) (t : Int) (p0 p1 p2 p3 : Prt) (e0 e1 e2 e3 : Ent) (p : Prt) (e : Ent) : ApFacts s own win rs n i o t [(p0, e0), (p1, e1), (p2, e2), (p3, e3)] (.app p e) := ⟨by kernel_rfl, by kernel_rfl, by kernel_rfl, by kernel_rfl, by kernel_rfl, by kernel_rfl⟩
theorem ap_4_evi0 (s : Ste) (own : Ck) (win : Int) (rs : List (List V)) (n : Nat) (i : Int) (o : Opp) (t : Int) (p0 p1 p2 p3 : Prt) (e0 e1 e2 e3 : Ent) (p : Prt) (e : Ent) : ApFacts s own win rs n i o t [(p0, e0), (p1, e1), (p2, e2), (p3, e3)] (.evi 0 p e) := ⟨by kernel_rfl, by kernel_rfl, by kernel_rfl, by kernel_rfl, by kernel_rfl, by kernel_rfl⟩
theorem ap_4_evi1 (s : Ste) (own : Ck) (win : Int) (rs : List (List V)) (n : Nat) (i : Int) (o : Opp) (t : Int) (p0 p1 p2 p3 : Prt) (e0 e1 e2 e3 : Ent) (p : Prt) (e : Ent) : ApFacts s own win rs n i o t [(p0, e0), (p1, e1), (p2, e2), (p3, e3)] (.evi 1 p e) := ⟨by kernel_rfl, by kernel_rfl, by kernel_rfl, by kernel_rfl, by kernel_rfl, by kernel_rfl⟩
theorem ap_4_evi2 (s : Ste) (own : Ck) (win : Int) (rs : List (List V)) (n : Nat) (i : Int) (o : Opp) (t : Int) (p0 p1 p2 p3 : Prt) (e0 e1 e2 e3 : Ent) (p : Prt) (e : Ent) : ApFacts s own win rs n i o t [(p0, e0), (p1, e1), (p2, e2), (p3, e3)] (.evi 2 p e) := ⟨by kernel_rfl, by kernel_rfl, by kernel_rfl, by kernel_rfl, by kernel_rfl, by kernel_rfl⟩
theorem ap_4_evi3 (s : Ste) (own : Ck) (win : Int) (rs : List (List V)) (n : Nat) (i : Int) (o : Opp) (t : Int) (p0 p1 p2 p3 : Prt) (e0 e1 e2 e3 : Ent) (p : Prt) (e : Ent) : ApFacts s own win rs n i o t [(p0, e0), (p1, e1), (p2, e2), (p3, e3)] (.evi 3 p e) := ⟨by kernel_rfl, by kernel_rfl, by kernel_rfl, by kernel_rfl, by kernel_rfl, by kernel_rfl⟩
theorem apn_4 (s : Ste) (own : Ck) (win : Int) (rs : List (List V)) (n : Nat) (i : Int) (o : Opp) (t : Int) (p0 p1 p2 p3 : Prt) (e0 e1 e2 e3 : Ent) (u : Up) (hu : u.okU 4) : ApFacts s own win rs n i o t [(p0, e0), (p1, e1), (p2, e2), (p3, e3)] u := by
  cases u with
  | keep => exact ap_4_keep s own win rs n i o t p0 p1 p2 p3 e0 e1 e2 e3
  | same => exact ap_4_same s own win rs n i o t p0 p1 p2 p3 e0 e1 e2 e3
  | clear => exact ap_4_clear s own win rs n i o t p0 p1 p2 p3 e0 e1 e2 e3
  | set i e =>
    obtain rfl | rfl | rfl | rfl : i = 0 ∨ i = 1 ∨ i = 2 ∨ i = 3 := by
      have : i < 4 := hu
      omega
    · exact ap_4_set0 s own win rs n i o t p0 p1 p2 p3 e0 e1 e2 e3 e
    · exact ap_4_set1 s own win rs n i o t p0 p1 p2 p3 e0 e1 e2 e3 e
    · exact ap_4_set2 s own win rs n i o t p0 p1 p2 p3 e0 e1 e2 e3 e
    · exact ap_4_set3 s own win rs n i o t p0 p1 p2 p3 e0 e1 e2 e3 e
  | drop i =>
    obtain rfl | rfl | rfl | rfl : i = 0 ∨ i = 1 ∨ i = 2 ∨ i = 3 := by
      have : i < 4 := hu
      omega
    · exact ap_4_drop0 s own win rs n i o t p0 p1 p2 p3 e0 e1 e2 e3
    · exact ap_4_drop1 s own win rs n i o t p0 p1 p2 p3 e0 e1 e2 e3
    · exact ap_4_drop2 s own win rs n i o t p0 p1 p2 p3 e0 e1 e2 e3
    · exact ap_4_drop3 s own win rs n i o t p0 p1 p2 p3 e0 e1 e2 e3
  | app p e => exact ap_4_app s own win rs n i o t p0 p1 p2 p3 e0 e1 e2 e3 p e
  | evi i p e =>
    obtain rfl | rfl | rfl | rfl : i = 0 ∨ i = 1 ∨ i = 2 ∨ i = 3 := by
      have : i < 4 := hu
      omega
    · exact ap_4_evi0 s own win rs n i o t p0 p1 p2 p3 e0 e1 e2 e3 p e
    · exact ap_4_evi1 s own win rs n i o t p0 p1 p2 p3 e0 e1 e2 e3 p e
    · exact ap_4_evi2 s own win rs n i o t p0 p1 p2 p3 e0 e1 e2 e3 p e
    · exact ap_4_evi3 s own win rs n i o t p0 p1 p2 p3 e0 e1 e2 e3 p e
end Go.Proofs.Ytgdalboilghciaa
