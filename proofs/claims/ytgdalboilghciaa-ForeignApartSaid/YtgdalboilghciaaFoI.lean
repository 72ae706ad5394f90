/- Layer 8: rounds of ForeignApart over tables of five entries. No condition. -/
import Derived.Test.YtgdalboilghciaaFoG
set_option linter.unusedSimpArgs false
set_option linter.unusedVariables false
set_option linter.unnecessarySimpa false
set_option linter.unusedSectionVars false
set_option maxRecDepth 100000
set_option linter.unusedSimpArgs false
set_option linter.unusedVariables false
namespace Go.Proofs.Ytgdalboilghciaa
open Go.Rx
theorem ap_5_keep (s : Ste) (own : Ck) (win : Int) (rs : List (List V)) (n : Nat) (i : Int) (o : Opp) (t : Int) (p0 p1 p2 p3 p4 : Prt) (e0 e1 e2 e3 e4 : Ent) : ApFacts s own win rs n i o t [(p0, e0), (p1, e1), (p2, e2), (p3, e3), (p4, e4)] .keep := ⟨by kernel_rfl, by kernel_rfl, by kernel_rfl, by kernel_rfl, by kernel_rfl, by kernel_rfl⟩
theorem ap_5_same (s : Ste) (own : Ck) (win : Int) (rs : List (List V)) (n : Nat) (i : Int) (o : Opp) (t : Int) (p0 p1 p2 p3 p4 : Prt) (e0 e1 e2 e3 e4 : Ent) : ApFacts s own win rs n i o t [(p0, e0), (p1, e1), (p2, e2), (p3, e3), (p4, e4)] .same := ⟨by kernel_rfl, by kernel_rfl, by kernel_rfl, by kernel_rfl, by kernel_rfl, by kernel_rfl⟩
theorem ap_5_clear (s : Ste) (own : Ck) (win : Int) (rs : List (List V)) (n : Nat) (i : Int) (o : Opp) (t : Int) (p0 p1 p2 p3 p4 : Prt) (e0 e1 e2 e3 e4 : Ent) : ApFacts s own win rs n i o t [(p0, e0), (p1, e1), (p2, e2), (p3, e3), (p4, e4)] .clear := ⟨by kernel_rfl, by kernel_rfl, by kernel_rfl, by kernel_rfl, by kernel_rfl, by kernel_rfl⟩
theorem ap_5_set0 (s : Ste) (own : Ck) (win : Int) (rs : List (List V)) (n : Nat) (i : Int) (o : Opp) (t : Int) (p0 p1 p2 p3 p4 : Prt) (e0 e1 e2 e3 e4 : Ent) (e : Ent) : ApFacts s own win rs n i o t [(p0, e0), (p1, e1), (p2, e2), (p3, e3), (p4, e4)] (.set 0 e) := ⟨by kernel_rfl, by kernel_rfl, by kernel_rfl, by kernel_rfl, by kernel_rfl, by kernel_rfl⟩
theorem ap_5_drop0 (s : Ste) (own : Ck) (win : Int) (rs : List (List V)) (n : Nat) (i : Int) (o : Opp) (t : Int) (p0 p1 p2 p3 p4 : Prt) (e0 e1 e2 e3 e4 : Ent) : ApFacts s own win rs n i o t [(p0, e0), (p1, e1), (p2, e2), (p3, e3), (p4, e4)] (.drop 0) := ⟨by kernel_rfl, by kernel_rfl, by kernel_rfl, by kernel_rfl, by kernel_rfl, by kernel_rfl⟩
theorem ap_5_set1 (s : Ste) (own : Ck) (win : Int) (rs : List (List V)) (n : Nat) (i : Int) (o : Opp) (t : Int) (p0 p1 p2 p3 p4 : Prt) (e0 e1 e2 e3 e4 : Ent) (e : Ent) : ApFacts s own win rs n i o t [(p0, e0), (p1, e1), (p2, e2), (p3, e3), (p4, e4)] (.set 1 e) := ⟨by kernel_rfl, by kernel_rfl, by kernel_rfl, by kernel_rfl, by kernel_rfl, by kernel_rfl⟩
theorem ap_5_drop1 (s : Ste) (own : Ck) (win : Int) (rs : List (List V)) (n : Nat) (i : Int) (o : Opp) (t : Int) (p0 p1 p2 p3 p4 : Prt) (e0 e1 e2 e3 e4 : Ent) : ApFacts s own win rs n i o t [(p0, e0), (p1, e1), (p2, e2), (p3, e3), (p4, e4)] (.drop 1) := ⟨by kernel_rfl, by kernel_rfl, by kernel_rfl, by kernel_rfl, by kernel_rfl, by kernel_rfl⟩
theorem ap_5_set2 (s : Ste) (own : Ck) (win : Int) (rs : List (List V)) (n : Nat) (i : Int) (o : Opp) (t : Int) (p0 p1 p2 p3 p4 : Prt) (e0 e1 e2 e3 e4 : Ent) (e : Ent) : ApFacts s own win rs n i o t [(p0, e0), (p1, e1), (p2, e2), (p3, e3), (p4, e4)] (.set 2 e) := ⟨by kernel_rfl, by kernel_rfl, by kernel_rfl, by kernel_rfl, by kernel_rfl, by kernel_rfl⟩
theorem ap_5_drop2 (s : Ste) (own : Ck) (win : Int) (rs : List (List V)) (n : Nat) (i : Int) (o : Opp) (t : Int) (p0 p1 p2 p3 p4 : Prt) (e0 e1 e2 e3 e4 : Ent) : ApFacts s own win rs n i o t [(p0, e0), (p1, e1), (p2, e2), (p3, e3), (p4, e4)] (.drop 2) := ⟨by kernel_rfl, by kernel_rfl, by kernel_rfl, by kernel_rfl, by kernel_rfl, by kernel_rfl⟩
theorem ap_5_set3 (s : Ste) (own : Ck) (win : Int) (rs : List (List V)) (n : Nat) (i : Int) (o : Opp) (t : Int) (p0 p1 p2 p3 p4 : Prt) (e0 e1 e2 e3 e4 : Ent) (e : Ent) : ApFacts s own win rs n i o t [(p0, e0), (p1, e1), (p2, e2), (p3, e3), (p4, e4)] (.set 3 e) := ⟨by kernel_rfl, by kernel_rfl, by kernel_rfl, by kernel_rfl, by kernel_rfl, by kernel_rfl⟩
theorem ap_5_drop3 (s : Ste) (own : Ck) (win : Int) (rs : List (List V)) (n : Nat) (i : Int) (o : Opp) (t : Int) (p0 p1 p2 p3 p4 : Prt) (e0 e1 e2 e3 e4 : Ent) : ApFacts s own win rs n i o t [(p0, e0), (p1, e1), (p2, e2), (p3, e3), (p4, e4)] (.drop 3) := ⟨by kernel_rfl, by kernel_rfl, by kernel_rfl, by kernel_rfl, by kernel_rfl, by kernel_rfl⟩
theorem ap_5_set4 (s : Ste) (own : Ck) (win : Int) (rs : List (List V)) (n : Nat) (i : Int) (o : Opp) (t : Int) (p0 p1 p2 p3 p4 : Prt) (e0 e1 e2 e3 e4 : Ent) (e : Ent) : ApFacts s own win rs n i o t [(p0, e0), (p1, e1), (p2, e2), (p3, e3), (p4, e4)] (.set 4 e) := ⟨by kernel_rfl, by kernel_rfl, by kernel_rfl, by kernel_rfl, by kernel_rfl, by kernel_rfl⟩
theorem ap_5_drop4 (s : Ste) (own : Ck) (win : Int) (rs : List (List V)) (n : Nat) (i : Int) (o : Opp) (t : Int) (p0 p1 p2 p3 p4 : Prt) (e0 e1 e2 e3 e4 : Ent) : ApFacts s own win rs n i o t [(p0, e0), (p1, e1), (p2, e2), (p3, e3), (p4, e4)] (.drop 4) := ⟨by kernel_rfl, by kernel_rfl, by kernel_rfl, by kernel_rfl, by kernel_rfl, by kernel_rfl⟩
theorem ap_5_evi0 (s : Ste) (own : Ck) (win : Int) (rs : List (List V)) (n : Nat) (i : Int) (o : Opp) (t : Int) (p0 p1 p2 p3 p4 : Prt) (e0 e1 e2 e3 e4 : Ent) (p : Prt) (e : Ent) : ApFacts s own win rs n i o t [(p0, e0), (p1, e1), (p2, e2), (p3, e3), (p4, e4)] (.evi 0 p e) := ⟨by kernel_rfl, by kernel_rfl, by kernel_rfl, by kernel_rfl, by kernel_rfl, by kernel_rfl⟩
theorem ap_5_evi1 (s : Ste) (own : Ck) (win : Int) (rs : List (List V)) (n : Nat) (i : Int) (o : Opp) (t : Int) (p0 p1 p2 p3 p4 : Prt) (e0 e1 e2 e3 e4 : Ent) (p : Prt) (e : Ent) : ApFacts s own win rs n i o t [(p0, e0), (p1, e1), (p2, e2), (p3, e3), (p4, e4)] (.evi 1 p e) := ⟨by kernel_rfl, by kernel_rfl, by kernel_rfl, by kernel_rfl, by kernel_rfl, by kernel_rfl⟩
theorem ap_5_evi2 (s : Ste) (own : Ck) (win : Int) (rs : List (List V)) (n : Nat) (i : Int) (o : Opp) (t : Int) (p0 p1 p2 p3 p4 : Prt) (e0 e1 e2 e3 e4 : Ent) (p : Prt) (e : Ent) : ApFacts s own win rs n i o t [(p0, e0), (p1, e1), (p2, e2), (p3, e3), (p4, e4)] (.evi 2 p e) := ⟨by kernel_rfl, by kernel_rfl, by kernel_rfl, by kernel_rfl, by kernel_rfl, by kernel_rfl⟩
theorem ap_5_evi3 (s : Ste) (own : Ck) (win : Int) (rs : List (List V)) (n : Nat) (i : Int) (o : Opp) (t : Int) (p0 p1 p2 p3 p4 : Prt) (e0 e1 e2 e3 e4 : Ent) (p : Prt) (e : Ent) : ApFacts s own win rs n i o t [(p0, e0), (p1, e1), (p2, e2), (p3, e3), (p4, e4)] (.evi 3 p e) := ⟨by kernel_rfl, by kernel_rfl, by kernel_rfl, by kernel_rfl, by kernel_rfl, by kernel_rfl⟩
theorem ap_5_evi4 (s : Ste) (own : Ck) (win : Int) (rs : List (List V)) (n : Nat) (i : Int) (o : Opp) (t : Int) (p0 p1 p2 p3 p4 : Prt) (e0 e1 e2 e3 e4 : Ent) (p : Prt) (e : Ent) : ApFacts s own win rs n i o t [(p0, e0), (p1, e1), (p2, e2), (p3, e3), (p4, e4)] (.evi 4 p e) := ⟨by kernel_rfl, by kernel_rfl, by kernel_rfl, by kernel_rfl, by kernel_rfl, by kernel_rfl⟩
theorem apn_5 (s : Ste) (own : Ck) (win : Int) (rs : List (List V)) (n : Nat) (i : Int) (o : Opp) (t : Int) (p0 p1 p2 p3 p4 : Prt) (e0 e1 e2 e3 e4 : Ent) (u : Up) (hu : u.okU 5) : ApFacts s own win rs n i o t [(p0, e0), (p1, e1), (p2, e2), (p3, e3), (p4, e4)] u := by
  cases u with
  | keep => exact ap_5_keep s own win rs n i o t p0 p1 p2 p3 p4 e0 e1 e2 e3 e4
  | same => exact ap_5_same s own win rs n i o t p0 p1 p2 p3 p4 e0 e1 e2 e3 e4
  | clear => exact ap_5_clear s own win rs n i o t p0 p1 p2 p3 p4 e0 e1 e2 e3 e4
  | set i e =>
    obtain rfl | rfl | rfl | rfl | rfl : i = 0 ∨ i = 1 ∨ i = 2 ∨ i = 3 ∨ i = 4 := by
      have : i < 5 := hu
      omega
    · exact ap_5_set0 s own win rs n i o t p0 p1 p2 p3 p4 e0 e1 e2 e3 e4 e
    · exact ap_5_set1 s own win rs n i o t p0 p1 p2 p3 p4 e0 e1 e2 e3 e4 e
    · exact ap_5_set2 s own win rs n i o t p0 p1 p2 p3 p4 e0 e1 e2 e3 e4 e
    · exact ap_5_set3 s own win rs n i o t p0 p1 p2 p3 p4 e0 e1 e2 e3 e4 e
    · exact ap_5_set4 s own win rs n i o t p0 p1 p2 p3 p4 e0 e1 e2 e3 e4 e
  | drop i =>
    obtain rfl | rfl | rfl | rfl | rfl : i = 0 ∨ i = 1 ∨ i = 2 ∨ i = 3 ∨ i = 4 := by
      have : i < 5 := hu
      omega
    · exact ap_5_drop0 s own win rs n i o t p0 p1 p2 p3 p4 e0 e1 e2 e3 e4
    · exact ap_5_drop1 s own win rs n i o t p0 p1 p2 p3 p4 e0 e1 e2 e3 e4
    · exact ap_5_drop2 s own win rs n i o t p0 p1 p2 p3 p4 e0 e1 e2 e3 e4
    · exact ap_5_drop3 s own win rs n i o t p0 p1 p2 p3 p4 e0 e1 e2 e3 e4
    · exact ap_5_drop4 s own win rs n i o t p0 p1 p2 p3 p4 e0 e1 e2 e3 e4
  | app p e => exact absurd hu (Nat.lt_irrefl _)
  | evi i p e =>
    obtain rfl | rfl | rfl | rfl | rfl : i = 0 ∨ i = 1 ∨ i = 2 ∨ i = 3 ∨ i = 4 := by
      have : i < 5 := hu
      omega
    · exact ap_5_evi0 s own win rs n i o t p0 p1 p2 p3 p4 e0 e1 e2 e3 e4 p e
    · exact ap_5_evi1 s own win rs n i o t p0 p1 p2 p3 p4 e0 e1 e2 e3 e4 p e
    · exact ap_5_evi2 s own win rs n i o t p0 p1 p2 p3 p4 e0 e1 e2 e3 e4 p e
    · exact ap_5_evi3 s own win rs n i o t p0 p1 p2 p3 p4 e0 e1 e2 e3 e4 p e
    · exact ap_5_evi4 s own win rs n i o t p0 p1 p2 p3 p4 e0 e1 e2 e3 e4 p e
end Go.Proofs.Ytgdalboilghciaa
