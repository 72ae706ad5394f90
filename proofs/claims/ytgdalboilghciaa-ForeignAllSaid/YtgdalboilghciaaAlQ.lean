/- Layer 8: ForeignAll: a round, for all tables. The conditions stand in the theorems. -/
import Derived.Test.YtgdalboilghciaaAlP
import Derived.Test.YtgdalboilghciaaAlK
import Derived.Test.YtgdalboilghciaaAlL
import Derived.Test.YtgdalboilghciaaAlM
import Derived.Test.YtgdalboilghciaaAlN
import Derived.Test.YtgdalboilghciaaAlO0
import Derived.Test.YtgdalboilghciaaAlO1
import Derived.Test.YtgdalboilghciaaAlO2
import Derived.Test.YtgdalboilghciaaAlO3
import Derived.Test.YtgdalboilghciaaAlO4
set_option linter.unusedSimpArgs false
set_option linter.unusedVariables false
set_option linter.unnecessarySimpa false
set_option linter.unusedSectionVars false
set_option maxRecDepth 100000
set_option linter.unusedSimpArgs false
set_option linter.unusedVariables false
namespace Go.Proofs.Ytgdalboilghciaa
open Go.Rx
theorem afn_0 (ev : Int) (own : Ck) (win : Int) (rs : List (List V)) (n : Nat) (now i : Int) (o : Opp) (t m : Int) (F : List Ste)  (u : Up) (r : RUp) (hu : okUR 0 u r) : AfFacts ev own win rs n now i o t m F [] [] u r := by
  cases u with
  | keep =>
    cases r with
    | keep => exact af_0_keep ev own win rs n now i o t m F
    | ins k j a => exact hu.elim
    | drop k => exact hu.elim
    | clear => exact hu.elim
  | same =>
    cases r with
    | keep => exact af_0_same ev own win rs n now i o t m F
    | ins k j a => exact hu.elim
    | drop k => exact hu.elim
    | clear => exact hu.elim
  | clear =>
    cases r with
    | keep => exact hu.elim
    | ins k j a => exact hu.elim
    | drop k => exact hu.elim
    | clear => exact af_0_clear ev own win rs n now i o t m F
  | set i e =>
    cases r with
    | keep => exact hu.elim
    | drop k => exact hu.elim
    | clear => exact hu.elim
    | ins k j a =>
      cases k with
      | none => exact hu.elim
      | some k =>
        obtain ⟨h1, h2, rfl⟩ := hu
        exact absurd h1 (Nat.not_lt_zero _)
  | drop i =>
    cases r with
    | keep => exact hu.elim
    | ins k j a => exact hu.elim
    | clear => exact hu.elim
    | drop k =>
      obtain ⟨h1, h2⟩ := hu
      exact absurd h1 (Nat.not_lt_zero _)
  | app p e =>
    cases r with
    | keep => exact hu.elim
    | drop k => exact hu.elim
    | clear => exact hu.elim
    | ins k j a =>
      cases k with
      | some k => exact hu.elim
      | none =>
        obtain ⟨h1, h2⟩ := hu
        obtain rfl : j = 0 := by
          have := h2
          omega
        exact af_0_app_0 ev own win rs n now i o t m F p e a
  | evi i p e =>
    cases r with
    | keep => exact hu.elim
    | drop k => exact hu.elim
    | clear => exact hu.elim
    | ins k j a =>
      cases k with
      | none => exact hu.elim
      | some k =>
        obtain ⟨h0, h1, h2, h3⟩ := hu
        exact absurd h0 (by decide)
theorem afn_1 (ev : Int) (own : Ck) (win : Int) (rs : List (List V)) (n : Nat) (now i : Int) (o : Opp) (t m : Int) (F : List Ste) (p0 : Prt) (e0 : Ent) (a0 : RefE) (u : Up) (r : RUp) (hu : okUR 1 u r) : AfFacts ev own win rs n now i o t m F [(p0, e0)] [a0] u r := by
  cases u with
  | keep =>
    cases r with
    | keep => exact af_1_keep ev own win rs n now i o t m F p0 e0 a0
    | ins k j a => exact hu.elim
    | drop k => exact hu.elim
    | clear => exact hu.elim
  | same =>
    cases r with
    | keep => exact af_1_same ev own win rs n now i o t m F p0 e0 a0
    | ins k j a => exact hu.elim
    | drop k => exact hu.elim
    | clear => exact hu.elim
  | clear =>
    cases r with
    | keep => exact hu.elim
    | ins k j a => exact hu.elim
    | drop k => exact hu.elim
    | clear => exact af_1_clear ev own win rs n now i o t m F p0 e0 a0
  | set i e =>
    cases r with
    | keep => exact hu.elim
    | drop k => exact hu.elim
    | clear => exact hu.elim
    | ins k j a =>
      cases k with
      | none => exact hu.elim
      | some k =>
        obtain ⟨h1, h2, rfl⟩ := hu
        obtain rfl : i = 0 := by
          have := h1
          omega
        · obtain rfl : j = 0 := by
            have := h2
            omega
          · exact af_1_set_0_0 ev own win rs n now i o t m F p0 e0 a0 e a
  | drop i =>
    cases r with
    | keep => exact hu.elim
    | ins k j a => exact hu.elim
    | clear => exact hu.elim
    | drop k =>
      obtain ⟨h1, h2⟩ := hu
      obtain rfl : i = 0 := by
        have := h1
        omega
      · obtain rfl : k = 0 := by
          have := h2
          omega
        · exact af_1_drop_0_0 ev own win rs n now i o t m F p0 e0 a0
  | app p e =>
    cases r with
    | keep => exact hu.elim
    | drop k => exact hu.elim
    | clear => exact hu.elim
    | ins k j a =>
      cases k with
      | some k => exact hu.elim
      | none =>
        obtain ⟨h1, h2⟩ := hu
        obtain rfl | rfl : j = 0 ∨ j = 1 := by
          have := h2
          omega
        · exact af_1_app_0 ev own win rs n now i o t m F p0 e0 a0 p e a
        · exact af_1_app_1 ev own win rs n now i o t m F p0 e0 a0 p e a
  | evi i p e =>
    cases r with
    | keep => exact hu.elim
    | drop k => exact hu.elim
    | clear => exact hu.elim
    | ins k j a =>
      cases k with
      | none => exact hu.elim
      | some k =>
        obtain ⟨h0, h1, h2, h3⟩ := hu
        exact absurd h0 (by decide)
theorem afn_2 (ev : Int) (own : Ck) (win : Int) (rs : List (List V)) (n : Nat) (now i : Int) (o : Opp) (t m : Int) (F : List Ste) (p0 p1 : Prt) (e0 e1 : Ent) (a0 a1 : RefE) (u : Up) (r : RUp) (hu : okUR 2 u r) : AfFacts ev own win rs n now i o t m F [(p0, e0), (p1, e1)] [a0, a1] u r := by
  cases u with
  | keep =>
    cases r with
    | keep => exact af_2_keep ev own win rs n now i o t m F p0 p1 e0 e1 a0 a1
    | ins k j a => exact hu.elim
    | drop k => exact hu.elim
    | clear => exact hu.elim
  | same =>
    cases r with
    | keep => exact af_2_same ev own win rs n now i o t m F p0 p1 e0 e1 a0 a1
    | ins k j a => exact hu.elim
    | drop k => exact hu.elim
    | clear => exact hu.elim
  | clear =>
    cases r with
    | keep => exact hu.elim
    | ins k j a => exact hu.elim
    | drop k => exact hu.elim
    | clear => exact af_2_clear ev own win rs n now i o t m F p0 p1 e0 e1 a0 a1
  | set i e =>
    cases r with
    | keep => exact hu.elim
    | drop k => exact hu.elim
    | clear => exact hu.elim
    | ins k j a =>
      cases k with
      | none => exact hu.elim
      | some k =>
        obtain ⟨h1, h2, rfl⟩ := hu
        obtain rfl | rfl : i = 0 ∨ i = 1 := by
          have := h1
          omega
        · obtain rfl | rfl : j = 0 ∨ j = 1 := by
            have := h2
            omega
          · exact af_2_set_0_0 ev own win rs n now i o t m F p0 p1 e0 e1 a0 a1 e a
          · exact af_2_set_0_1 ev own win rs n now i o t m F p0 p1 e0 e1 a0 a1 e a
        · obtain rfl | rfl : j = 0 ∨ j = 1 := by
            have := h2
            omega
          · exact af_2_set_1_0 ev own win rs n now i o t m F p0 p1 e0 e1 a0 a1 e a
          · exact af_2_set_1_1 ev own win rs n now i o t m F p0 p1 e0 e1 a0 a1 e a
  | drop i =>
    cases r with
    | keep => exact hu.elim
    | ins k j a => exact hu.elim
    | clear => exact hu.elim
    | drop k =>
      obtain ⟨h1, h2⟩ := hu
      obtain rfl | rfl : i = 0 ∨ i = 1 := by
        have := h1
        omega
      · obtain rfl | rfl : k = 0 ∨ k = 1 := by
          have := h2
          omega
        · exact af_2_drop_0_0 ev own win rs n now i o t m F p0 p1 e0 e1 a0 a1
        · exact af_2_drop_0_1 ev own win rs n now i o t m F p0 p1 e0 e1 a0 a1
      · obtain rfl | rfl : k = 0 ∨ k = 1 := by
          have := h2
          omega
        · exact af_2_drop_1_0 ev own win rs n now i o t m F p0 p1 e0 e1 a0 a1
        · exact af_2_drop_1_1 ev own win rs n now i o t m F p0 p1 e0 e1 a0 a1
  | app p e =>
    cases r with
    | keep => exact hu.elim
    | drop k => exact hu.elim
    | clear => exact hu.elim
    | ins k j a =>
      cases k with
      | some k => exact hu.elim
      | none =>
        obtain ⟨h1, h2⟩ := hu
        obtain rfl | rfl | rfl : j = 0 ∨ j = 1 ∨ j = 2 := by
          have := h2
          omega
        · exact af_2_app_0 ev own win rs n now i o t m F p0 p1 e0 e1 a0 a1 p e a
        · exact af_2_app_1 ev own win rs n now i o t m F p0 p1 e0 e1 a0 a1 p e a
        · exact af_2_app_2 ev own win rs n now i o t m F p0 p1 e0 e1 a0 a1 p e a
  | evi i p e =>
    cases r with
    | keep => exact hu.elim
    | drop k => exact hu.elim
    | clear => exact hu.elim
    | ins k j a =>
      cases k with
      | none => exact hu.elim
      | some k =>
        obtain ⟨h0, h1, h2, h3⟩ := hu
        exact absurd h0 (by decide)
theorem afn_3 (ev : Int) (own : Ck) (win : Int) (rs : List (List V)) (n : Nat) (now i : Int) (o : Opp) (t m : Int) (F : List Ste) (p0 p1 p2 : Prt) (e0 e1 e2 : Ent) (a0 a1 a2 : RefE) (u : Up) (r : RUp) (hu : okUR 3 u r) : AfFacts ev own win rs n now i o t m F [(p0, e0), (p1, e1), (p2, e2)] [a0, a1, a2] u r := by
  cases u with
  | keep =>
    cases r with
    | keep => exact af_3_keep ev own win rs n now i o t m F p0 p1 p2 e0 e1 e2 a0 a1 a2
    | ins k j a => exact hu.elim
    | drop k => exact hu.elim
    | clear => exact hu.elim
  | same =>
    cases r with
    | keep => exact af_3_same ev own win rs n now i o t m F p0 p1 p2 e0 e1 e2 a0 a1 a2
    | ins k j a => exact hu.elim
    | drop k => exact hu.elim
    | clear => exact hu.elim
  | clear =>
    cases r with
    | keep => exact hu.elim
    | ins k j a => exact hu.elim
    | drop k => exact hu.elim
    | clear => exact af_3_clear ev own win rs n now i o t m F p0 p1 p2 e0 e1 e2 a0 a1 a2
  | set i e =>
    cases r with
    | keep => exact hu.elim
    | drop k => exact hu.elim
    | clear => exact hu.elim
    | ins k j a =>
      cases k with
      | none => exact hu.elim
      | some k =>
        obtain ⟨h1, h2, rfl⟩ := hu
        obtain rfl | rfl | rfl : i = 0 ∨ i = 1 ∨ i = 2 := by
          have := h1
          omega
        · obtain rfl | rfl | rfl : j = 0 ∨ j = 1 ∨ j = 2 := by
            have := h2
            omega
          · exact af_3_set_0_0 ev own win rs n now i o t m F p0 p1 p2 e0 e1 e2 a0 a1 a2 e a
          · exact af_3_set_0_1 ev own win rs n now i o t m F p0 p1 p2 e0 e1 e2 a0 a1 a2 e a
          · exact af_3_set_0_2 ev own win rs n now i o t m F p0 p1 p2 e0 e1 e2 a0 a1 a2 e a
        · obtain rfl | rfl | rfl : j = 0 ∨ j = 1 ∨ j = 2 := by
            have := h2
            omega
          · exact af_3_set_1_0 ev own win rs n now i o t m F p0 p1 p2 e0 e1 e2 a0 a1 a2 e a
          · exact af_3_set_1_1 ev own win rs n now i o t m F p0 p1 p2 e0 e1 e2 a0 a1 a2 e a
          · exact af_3_set_1_2 ev own win rs n now i o t m F p0 p1 p2 e0 e1 e2 a0 a1 a2 e a
        · obtain rfl | rfl | rfl : j = 0 ∨ j = 1 ∨ j = 2 := by
            have := h2
            omega
          · exact af_3_set_2_0 ev own win rs n now i o t m F p0 p1 p2 e0 e1 e2 a0 a1 a2 e a
          · exact af_3_set_2_1 ev own win rs n now i o t m F p0 p1 p2 e0 e1 e2 a0 a1 a2 e a
          · exact af_3_set_2_2 ev own win rs n now i o t m F p0 p1 p2 e0 e1 e2 a0 a1 a2 e a
  | drop i =>
    cases r with
    | keep => exact hu.elim
    | ins k j a => exact hu.elim
    | clear => exact hu.elim
    | drop k =>
      obtain ⟨h1, h2⟩ := hu
      obtain rfl | rfl | rfl : i = 0 ∨ i = 1 ∨ i = 2 := by
        have := h1
        omega
      · obtain rfl | rfl | rfl : k = 0 ∨ k = 1 ∨ k = 2 := by
          have := h2
          omega
        · exact af_3_drop_0_0 ev own win rs n now i o t m F p0 p1 p2 e0 e1 e2 a0 a1 a2
        · exact af_3_drop_0_1 ev own win rs n now i o t m F p0 p1 p2 e0 e1 e2 a0 a1 a2
        · exact af_3_drop_0_2 ev own win rs n now i o t m F p0 p1 p2 e0 e1 e2 a0 a1 a2
      · obtain rfl | rfl | rfl : k = 0 ∨ k = 1 ∨ k = 2 := by
          have := h2
          omega
        · exact af_3_drop_1_0 ev own win rs n now i o t m F p0 p1 p2 e0 e1 e2 a0 a1 a2
        · exact af_3_drop_1_1 ev own win rs n now i o t m F p0 p1 p2 e0 e1 e2 a0 a1 a2
        · exact af_3_drop_1_2 ev own win rs n now i o t m F p0 p1 p2 e0 e1 e2 a0 a1 a2
      · obtain rfl | rfl | rfl : k = 0 ∨ k = 1 ∨ k = 2 := by
          have := h2
          omega
        · exact af_3_drop_2_0 ev own win rs n now i o t m F p0 p1 p2 e0 e1 e2 a0 a1 a2
        · exact af_3_drop_2_1 ev own win rs n now i o t m F p0 p1 p2 e0 e1 e2 a0 a1 a2
        · exact af_3_drop_2_2 ev own win rs n now i o t m F p0 p1 p2 e0 e1 e2 a0 a1 a2
  | app p e =>
    cases r with
    | keep => exact hu.elim
    | drop k => exact hu.elim
    | clear => exact hu.elim
    | ins k j a =>
      cases k with
      | some k => exact hu.elim
      | none =>
        obtain ⟨h1, h2⟩ := hu
        obtain rfl | rfl | rfl | rfl : j = 0 ∨ j = 1 ∨ j = 2 ∨ j = 3 := by
          have := h2
          omega
        · exact af_3_app_0 ev own win rs n now i o t m F p0 p1 p2 e0 e1 e2 a0 a1 a2 p e a
        · exact af_3_app_1 ev own win rs n now i o t m F p0 p1 p2 e0 e1 e2 a0 a1 a2 p e a
        · exact af_3_app_2 ev own win rs n now i o t m F p0 p1 p2 e0 e1 e2 a0 a1 a2 p e a
        · exact af_3_app_3 ev own win rs n now i o t m F p0 p1 p2 e0 e1 e2 a0 a1 a2 p e a
  | evi i p e =>
    cases r with
    | keep => exact hu.elim
    | drop k => exact hu.elim
    | clear => exact hu.elim
    | ins k j a =>
      cases k with
      | none => exact hu.elim
      | some k =>
        obtain ⟨h0, h1, h2, h3⟩ := hu
        exact absurd h0 (by decide)
theorem afn_4 (ev : Int) (own : Ck) (win : Int) (rs : List (List V)) (n : Nat) (now i : Int) (o : Opp) (t m : Int) (F : List Ste) (p0 p1 p2 p3 : Prt) (e0 e1 e2 e3 : Ent) (a0 a1 a2 a3 : RefE) (u : Up) (r : RUp) (hu : okUR 4 u r) : AfFacts ev own win rs n now i o t m F [(p0, e0), (p1, e1), (p2, e2), (p3, e3)] [a0, a1, a2, a3] u r := by
  cases u with
  | keep =>
    cases r with
    | keep => exact af_4_keep ev own win rs n now i o t m F p0 p1 p2 p3 e0 e1 e2 e3 a0 a1 a2 a3
    | ins k j a => exact hu.elim
    | drop k => exact hu.elim
    | clear => exact hu.elim
  | same =>
    cases r with
    | keep => exact af_4_same ev own win rs n now i o t m F p0 p1 p2 p3 e0 e1 e2 e3 a0 a1 a2 a3
    | ins k j a => exact hu.elim
    | drop k => exact hu.elim
    | clear => exact hu.elim
  | clear =>
    cases r with
    | keep => exact hu.elim
    | ins k j a => exact hu.elim
    | drop k => exact hu.elim
    | clear => exact af_4_clear ev own win rs n now i o t m F p0 p1 p2 p3 e0 e1 e2 e3 a0 a1 a2 a3
  | set i e =>
    cases r with
    | keep => exact hu.elim
    | drop k => exact hu.elim
    | clear => exact hu.elim
    | ins k j a =>
      cases k with
      | none => exact hu.elim
      | some k =>
        obtain ⟨h1, h2, rfl⟩ := hu
        obtain rfl | rfl | rfl | rfl : i = 0 ∨ i = 1 ∨ i = 2 ∨ i = 3 := by
          have := h1
          omega
        · obtain rfl | rfl | rfl | rfl : j = 0 ∨ j = 1 ∨ j = 2 ∨ j = 3 := by
            have := h2
            omega
          · exact af_4_set_0_0 ev own win rs n now i o t m F p0 p1 p2 p3 e0 e1 e2 e3 a0 a1 a2 a3 e a
          · exact af_4_set_0_1 ev own win rs n now i o t m F p0 p1 p2 p3 e0 e1 e2 e3 a0 a1 a2 a3 e a
          · exact af_4_set_0_2 ev own win rs n now i o t m F p0 p1 p2 p3 e0 e1 e2 e3 a0 a1 a2 a3 e a
          · exact af_4_set_0_3 ev own win rs n now i o t m F p0 p1 p2 p3 e0 e1 e2 e3 a0 a1 a2 a3 e a
        · obtain rfl | rfl | rfl | rfl : j = 0 ∨ j = 1 ∨ j = 2 ∨ j = 3 := by
            have := h2
            omega
          · exact af_4_set_1_0 ev own win rs n now i o t m F p0 p1 p2 p3 e0 e1 e2 e3 a0 a1 a2 a3 e a
          · exact af_4_set_1_1 ev own win rs n now i o t m F p0 p1 p2 p3 e0 e1 e2 e3 a0 a1 a2 a3 e a
          · exact af_4_set_1_2 ev own win rs n now i o t m F p0 p1 p2 p3 e0 e1 e2 e3 a0 a1 a2 a3 e a
          · exact af_4_set_1_3 ev own win rs n now i o t m F p0 p1 p2 p3 e0 e1 e2 e3 a0 a1 a2 a3 e a
        · obtain rfl | rfl | rfl | rfl : j = 0 ∨ j = 1 ∨ j = 2 ∨ j = 3 := by
            have := h2
            omega
          · exact af_4_set_2_0 ev own win rs n now i o t m F p0 p1 p2 p3 e0 e1 e2 e3 a0 a1 a2 a3 e a
          · exact af_4_set_2_1 ev own win rs n now i o t m F p0 p1 p2 p3 e0 e1 e2 e3 a0 a1 a2 a3 e a
          · exact af_4_set_2_2 ev own win rs n now i o t m F p0 p1 p2 p3 e0 e1 e2 e3 a0 a1 a2 a3 e a
          · exact af_4_set_2_3 ev own win rs n now i o t m F p0 p1 p2 p3 e0 e1 e2 e3 a0 a1 a2 a3 e a
        · obtain rfl | rfl | rfl | rfl : j = 0 ∨ j = 1 ∨ j = 2 ∨ j = 3 := by
            have := h2
            omega
          · exact af_4_set_3_0 ev own win rs n now i o t m F p0 p1 p2 p3 e0 e1 e2 e3 a0 a1 a2 a3 e a
          · exact af_4_set_3_1 ev own win rs n now i o t m F p0 p1 p2 p3 e0 e1 e2 e3 a0 a1 a2 a3 e a
          · exact af_4_set_3_2 ev own win rs n now i o t m F p0 p1 p2 p3 e0 e1 e2 e3 a0 a1 a2 a3 e a
          · exact af_4_set_3_3 ev own win rs n now i o t m F p0 p1 p2 p3 e0 e1 e2 e3 a0 a1 a2 a3 e a
  | drop i =>
    cases r with
    | keep => exact hu.elim
    | ins k j a => exact hu.elim
    | clear => exact hu.elim
    | drop k =>
      obtain ⟨h1, h2⟩ := hu
      obtain rfl | rfl | rfl | rfl : i = 0 ∨ i = 1 ∨ i = 2 ∨ i = 3 := by
        have := h1
        omega
      · obtain rfl | rfl | rfl | rfl : k = 0 ∨ k = 1 ∨ k = 2 ∨ k = 3 := by
          have := h2
          omega
        · exact af_4_drop_0_0 ev own win rs n now i o t m F p0 p1 p2 p3 e0 e1 e2 e3 a0 a1 a2 a3
        · exact af_4_drop_0_1 ev own win rs n now i o t m F p0 p1 p2 p3 e0 e1 e2 e3 a0 a1 a2 a3
        · exact af_4_drop_0_2 ev own win rs n now i o t m F p0 p1 p2 p3 e0 e1 e2 e3 a0 a1 a2 a3
        · exact af_4_drop_0_3 ev own win rs n now i o t m F p0 p1 p2 p3 e0 e1 e2 e3 a0 a1 a2 a3
      · obtain rfl | rfl | rfl | rfl : k = 0 ∨ k = 1 ∨ k = 2 ∨ k = 3 := by
          have := h2
          omega
        · exact af_4_drop_1_0 ev own win rs n now i o t m F p0 p1 p2 p3 e0 e1 e2 e3 a0 a1 a2 a3
        · exact af_4_drop_1_1 ev own win rs n now i o t m F p0 p1 p2 p3 e0 e1 e2 e3 a0 a1 a2 a3
        · exact af_4_drop_1_2 ev own win rs n now i o t m F p0 p1 p2 p3 e0 e1 e2 e3 a0 a1 a2 a3
        · exact af_4_drop_1_3 ev own win rs n now i o t m F p0 p1 p2 p3 e0 e1 e2 e3 a0 a1 a2 a3
      · obtain rfl | rfl | rfl | rfl : k = 0 ∨ k = 1 ∨ k = 2 ∨ k = 3 := by
          have := h2
          omega
        · exact af_4_drop_2_0 ev own win rs n now i o t m F p0 p1 p2 p3 e0 e1 e2 e3 a0 a1 a2 a3
        · exact af_4_drop_2_1 ev own win rs n now i o t m F p0 p1 p2 p3 e0 e1 e2 e3 a0 a1 a2 a3
        · exact af_4_drop_2_2 ev own win rs n now i o t m F p0 p1 p2 p3 e0 e1 e2 e3 a0 a1 a2 a3
        · exact af_4_drop_2_3 ev own win rs n now i o t m F p0 p1 p2 p3 e0 e1 e2 e3 a0 a1 a2 a3
      · obtain rfl | rfl | rfl | rfl : k = 0 ∨ k = 1 ∨ k = 2 ∨ k = 3 := by
          have := h2
          omega
        · exact af_4_drop_3_0 ev own win rs n now i o t m F p0 p1 p2 p3 e0 e1 e2 e3 a0 a1 a2 a3
        · exact af_4_drop_3_1 ev own win rs n now i o t m F p0 p1 p2 p3 e0 e1 e2 e3 a0 a1 a2 a3
        · exact af_4_drop_3_2 ev own win rs n now i o t m F p0 p1 p2 p3 e0 e1 e2 e3 a0 a1 a2 a3
        · exact af_4_drop_3_3 ev own win rs n now i o t m F p0 p1 p2 p3 e0 e1 e2 e3 a0 a1 a2 a3
  | app p e =>
    cases r with
    | keep => exact hu.elim
    | drop k => exact hu.elim
    | clear => exact hu.elim
    | ins k j a =>
      cases k with
      | some k => exact hu.elim
      | none =>
        obtain ⟨h1, h2⟩ := hu
        obtain rfl | rfl | rfl | rfl | rfl : j = 0 ∨ j = 1 ∨ j = 2 ∨ j = 3 ∨ j = 4 := by
          have := h2
          omega
        · exact af_4_app_0 ev own win rs n now i o t m F p0 p1 p2 p3 e0 e1 e2 e3 a0 a1 a2 a3 p e a
        · exact af_4_app_1 ev own win rs n now i o t m F p0 p1 p2 p3 e0 e1 e2 e3 a0 a1 a2 a3 p e a
        · exact af_4_app_2 ev own win rs n now i o t m F p0 p1 p2 p3 e0 e1 e2 e3 a0 a1 a2 a3 p e a
        · exact af_4_app_3 ev own win rs n now i o t m F p0 p1 p2 p3 e0 e1 e2 e3 a0 a1 a2 a3 p e a
        · exact af_4_app_4 ev own win rs n now i o t m F p0 p1 p2 p3 e0 e1 e2 e3 a0 a1 a2 a3 p e a
  | evi i p e =>
    cases r with
    | keep => exact hu.elim
    | drop k => exact hu.elim
    | clear => exact hu.elim
    | ins k j a =>
      cases k with
      | none => exact hu.elim
      | some k =>
        obtain ⟨h0, h1, h2, h3⟩ := hu
        exact absurd h0 (by decide)
theorem afn_5 (ev : Int) (own : Ck) (win : Int) (rs : List (List V)) (n : Nat) (now i : Int) (o : Opp) (t m : Int) (F : List Ste) (p0 p1 p2 p3 p4 : Prt) (e0 e1 e2 e3 e4 : Ent) (a0 a1 a2 a3 a4 : RefE) (u : Up) (r : RUp) (hu : okUR 5 u r) : AfFacts ev own win rs n now i o t m F [(p0, e0), (p1, e1), (p2, e2), (p3, e3), (p4, e4)] [a0, a1, a2, a3, a4] u r := by
  cases u with
  | keep =>
    cases r with
    | keep => exact af_5_keep ev own win rs n now i o t m F p0 p1 p2 p3 p4 e0 e1 e2 e3 e4 a0 a1 a2 a3 a4
    | ins k j a => exact hu.elim
    | drop k => exact hu.elim
    | clear => exact hu.elim
  | same =>
    cases r with
    | keep => exact af_5_same ev own win rs n now i o t m F p0 p1 p2 p3 p4 e0 e1 e2 e3 e4 a0 a1 a2 a3 a4
    | ins k j a => exact hu.elim
    | drop k => exact hu.elim
    | clear => exact hu.elim
  | clear =>
    cases r with
    | keep => exact hu.elim
    | ins k j a => exact hu.elim
    | drop k => exact hu.elim
    | clear => exact af_5_clear ev own win rs n now i o t m F p0 p1 p2 p3 p4 e0 e1 e2 e3 e4 a0 a1 a2 a3 a4
  | set i e =>
    cases r with
    | keep => exact hu.elim
    | drop k => exact hu.elim
    | clear => exact hu.elim
    | ins k j a =>
      cases k with
      | none => exact hu.elim
      | some k =>
        obtain ⟨h1, h2, rfl⟩ := hu
        obtain rfl | rfl | rfl | rfl | rfl : i = 0 ∨ i = 1 ∨ i = 2 ∨ i = 3 ∨ i = 4 := by
          have := h1
          omega
        · obtain rfl | rfl | rfl | rfl | rfl : j = 0 ∨ j = 1 ∨ j = 2 ∨ j = 3 ∨ j = 4 := by
            have := h2
            omega
          · exact af_5_set_0_0 ev own win rs n now i o t m F p0 p1 p2 p3 p4 e0 e1 e2 e3 e4 a0 a1 a2 a3 a4 e a
          · exact af_5_set_0_1 ev own win rs n now i o t m F p0 p1 p2 p3 p4 e0 e1 e2 e3 e4 a0 a1 a2 a3 a4 e a
          · exact af_5_set_0_2 ev own win rs n now i o t m F p0 p1 p2 p3 p4 e0 e1 e2 e3 e4 a0 a1 a2 a3 a4 e a
          · exact af_5_set_0_3 ev own win rs n now i o t m F p0 p1 p2 p3 p4 e0 e1 e2 e3 e4 a0 a1 a2 a3 a4 e a
          · exact af_5_set_0_4 ev own win rs n now i o t m F p0 p1 p2 p3 p4 e0 e1 e2 e3 e4 a0 a1 a2 a3 a4 e a
        · obtain rfl | rfl | rfl | rfl | rfl : j = 0 ∨ j = 1 ∨ j = 2 ∨ j = 3 ∨ j = 4 := by
            have := h2
            omega
          · exact af_5_set_1_0 ev own win rs n now i o t m F p0 p1 p2 p3 p4 e0 e1 e2 e3 e4 a0 a1 a2 a3 a4 e a
          · exact af_5_set_1_1 ev own win rs n now i o t m F p0 p1 p2 p3 p4 e0 e1 e2 e3 e4 a0 a1 a2 a3 a4 e a
          · exact af_5_set_1_2 ev own win rs n now i o t m F p0 p1 p2 p3 p4 e0 e1 e2 e3 e4 a0 a1 a2 a3 a4 e a
          · exact af_5_set_1_3 ev own win rs n now i o t m F p0 p1 p2 p3 p4 e0 e1 e2 e3 e4 a0 a1 a2 a3 a4 e a
          · exact af_5_set_1_4 ev own win rs n now i o t m F p0 p1 p2 p3 p4 e0 e1 e2 e3 e4 a0 a1 a2 a3 a4 e a
        · obtain rfl | rfl | rfl | rfl | rfl : j = 0 ∨ j = 1 ∨ j = 2 ∨ j = 3 ∨ j = 4 := by
            have := h2
            omega
          · exact af_5_set_2_0 ev own win rs n now i o t m F p0 p1 p2 p3 p4 e0 e1 e2 e3 e4 a0 a1 a2 a3 a4 e a
          · exact af_5_set_2_1 ev own win rs n now i o t m F p0 p1 p2 p3 p4 e0 e1 e2 e3 e4 a0 a1 a2 a3 a4 e a
          · exact af_5_set_2_2 ev own win rs n now i o t m F p0 p1 p2 p3 p4 e0 e1 e2 e3 e4 a0 a1 a2 a3 a4 e a
          · exact af_5_set_2_3 ev own win rs n now i o t m F p0 p1 p2 p3 p4 e0 e1 e2 e3 e4 a0 a1 a2 a3 a4 e a
          · exact af_5_set_2_4 ev own win rs n now i o t m F p0 p1 p2 p3 p4 e0 e1 e2 e3 e4 a0 a1 a2 a3 a4 e a
        · obtain rfl | rfl | rfl | rfl | rfl : j = 0 ∨ j = 1 ∨ j = 2 ∨ j = 3 ∨ j = 4 := by
            have := h2
            omega
          · exact af_5_set_3_0 ev own win rs n now i o t m F p0 p1 p2 p3 p4 e0 e1 e2 e3 e4 a0 a1 a2 a3 a4 e a
          · exact af_5_set_3_1 ev own win rs n now i o t m F p0 p1 p2 p3 p4 e0 e1 e2 e3 e4 a0 a1 a2 a3 a4 e a
          · exact af_5_set_3_2 ev own win rs n now i o t m F p0 p1 p2 p3 p4 e0 e1 e2 e3 e4 a0 a1 a2 a3 a4 e a
          · exact af_5_set_3_3 ev own win rs n now i o t m F p0 p1 p2 p3 p4 e0 e1 e2 e3 e4 a0 a1 a2 a3 a4 e a
          · exact af_5_set_3_4 ev own win rs n now i o t m F p0 p1 p2 p3 p4 e0 e1 e2 e3 e4 a0 a1 a2 a3 a4 e a
        · obtain rfl | rfl | rfl | rfl | rfl : j = 0 ∨ j = 1 ∨ j = 2 ∨ j = 3 ∨ j = 4 := by
            have := h2
            omega
          · exact af_5_set_4_0 ev own win rs n now i o t m F p0 p1 p2 p3 p4 e0 e1 e2 e3 e4 a0 a1 a2 a3 a4 e a
          · exact af_5_set_4_1 ev own win rs n now i o t m F p0 p1 p2 p3 p4 e0 e1 e2 e3 e4 a0 a1 a2 a3 a4 e a
          · exact af_5_set_4_2 ev own win rs n now i o t m F p0 p1 p2 p3 p4 e0 e1 e2 e3 e4 a0 a1 a2 a3 a4 e a
          · exact af_5_set_4_3 ev own win rs n now i o t m F p0 p1 p2 p3 p4 e0 e1 e2 e3 e4 a0 a1 a2 a3 a4 e a
          · exact af_5_set_4_4 ev own win rs n now i o t m F p0 p1 p2 p3 p4 e0 e1 e2 e3 e4 a0 a1 a2 a3 a4 e a
  | drop i =>
    cases r with
    | keep => exact hu.elim
    | ins k j a => exact hu.elim
    | clear => exact hu.elim
    | drop k =>
      obtain ⟨h1, h2⟩ := hu
      obtain rfl | rfl | rfl | rfl | rfl : i = 0 ∨ i = 1 ∨ i = 2 ∨ i = 3 ∨ i = 4 := by
        have := h1
        omega
      · obtain rfl | rfl | rfl | rfl | rfl : k = 0 ∨ k = 1 ∨ k = 2 ∨ k = 3 ∨ k = 4 := by
          have := h2
          omega
        · exact af_5_drop_0_0 ev own win rs n now i o t m F p0 p1 p2 p3 p4 e0 e1 e2 e3 e4 a0 a1 a2 a3 a4
        · exact af_5_drop_0_1 ev own win rs n now i o t m F p0 p1 p2 p3 p4 e0 e1 e2 e3 e4 a0 a1 a2 a3 a4
        · exact af_5_drop_0_2 ev own win rs n now i o t m F p0 p1 p2 p3 p4 e0 e1 e2 e3 e4 a0 a1 a2 a3 a4
        · exact af_5_drop_0_3 ev own win rs n now i o t m F p0 p1 p2 p3 p4 e0 e1 e2 e3 e4 a0 a1 a2 a3 a4
        · exact af_5_drop_0_4 ev own win rs n now i o t m F p0 p1 p2 p3 p4 e0 e1 e2 e3 e4 a0 a1 a2 a3 a4
      · obtain rfl | rfl | rfl | rfl | rfl : k = 0 ∨ k = 1 ∨ k = 2 ∨ k = 3 ∨ k = 4 := by
          have := h2
          omega
        · exact af_5_drop_1_0 ev own win rs n now i o t m F p0 p1 p2 p3 p4 e0 e1 e2 e3 e4 a0 a1 a2 a3 a4
        · exact af_5_drop_1_1 ev own win rs n now i o t m F p0 p1 p2 p3 p4 e0 e1 e2 e3 e4 a0 a1 a2 a3 a4
        · exact af_5_drop_1_2 ev own win rs n now i o t m F p0 p1 p2 p3 p4 e0 e1 e2 e3 e4 a0 a1 a2 a3 a4
        · exact af_5_drop_1_3 ev own win rs n now i o t m F p0 p1 p2 p3 p4 e0 e1 e2 e3 e4 a0 a1 a2 a3 a4
        · exact af_5_drop_1_4 ev own win rs n now i o t m F p0 p1 p2 p3 p4 e0 e1 e2 e3 e4 a0 a1 a2 a3 a4
      · obtain rfl | rfl | rfl | rfl | rfl : k = 0 ∨ k = 1 ∨ k = 2 ∨ k = 3 ∨ k = 4 := by
          have := h2
          omega
        · exact af_5_drop_2_0 ev own win rs n now i o t m F p0 p1 p2 p3 p4 e0 e1 e2 e3 e4 a0 a1 a2 a3 a4
        · exact af_5_drop_2_1 ev own win rs n now i o t m F p0 p1 p2 p3 p4 e0 e1 e2 e3 e4 a0 a1 a2 a3 a4
        · exact af_5_drop_2_2 ev own win rs n now i o t m F p0 p1 p2 p3 p4 e0 e1 e2 e3 e4 a0 a1 a2 a3 a4
        · exact af_5_drop_2_3 ev own win rs n now i o t m F p0 p1 p2 p3 p4 e0 e1 e2 e3 e4 a0 a1 a2 a3 a4
        · exact af_5_drop_2_4 ev own win rs n now i o t m F p0 p1 p2 p3 p4 e0 e1 e2 e3 e4 a0 a1 a2 a3 a4
      · obtain rfl | rfl | rfl | rfl | rfl : k = 0 ∨ k = 1 ∨ k = 2 ∨ k = 3 ∨ k = 4 := by
          have := h2
          omega
        · exact af_5_drop_3_0 ev own win rs n now i o t m F p0 p1 p2 p3 p4 e0 e1 e2 e3 e4 a0 a1 a2 a3 a4
        · exact af_5_drop_3_1 ev own win rs n now i o t m F p0 p1 p2 p3 p4 e0 e1 e2 e3 e4 a0 a1 a2 a3 a4
        · exact af_5_drop_3_2 ev own win rs n now i o t m F p0 p1 p2 p3 p4 e0 e1 e2 e3 e4 a0 a1 a2 a3 a4
        · exact af_5_drop_3_3 ev own win rs n now i o t m F p0 p1 p2 p3 p4 e0 e1 e2 e3 e4 a0 a1 a2 a3 a4
        · exact af_5_drop_3_4 ev own win rs n now i o t m F p0 p1 p2 p3 p4 e0 e1 e2 e3 e4 a0 a1 a2 a3 a4
      · obtain rfl | rfl | rfl | rfl | rfl : k = 0 ∨ k = 1 ∨ k = 2 ∨ k = 3 ∨ k = 4 := by
          have := h2
          omega
        · exact af_5_drop_4_0 ev own win rs n now i o t m F p0 p1 p2 p3 p4 e0 e1 e2 e3 e4 a0 a1 a2 a3 a4
        · exact af_5_drop_4_1 ev own win rs n now i o t m F p0 p1 p2 p3 p4 e0 e1 e2 e3 e4 a0 a1 a2 a3 a4
        · exact af_5_drop_4_2 ev own win rs n now i o t m F p0 p1 p2 p3 p4 e0 e1 e2 e3 e4 a0 a1 a2 a3 a4
        · exact af_5_drop_4_3 ev own win rs n now i o t m F p0 p1 p2 p3 p4 e0 e1 e2 e3 e4 a0 a1 a2 a3 a4
        · exact af_5_drop_4_4 ev own win rs n now i o t m F p0 p1 p2 p3 p4 e0 e1 e2 e3 e4 a0 a1 a2 a3 a4
  | app p e =>
    cases r with
    | keep => exact hu.elim
    | drop k => exact hu.elim
    | clear => exact hu.elim
    | ins k j a =>
      cases k with
      | some k => exact hu.elim
      | none =>
        obtain ⟨h1, h2⟩ := hu
        exact absurd h1 (Nat.lt_irrefl _)
  | evi i p e =>
    cases r with
    | keep => exact hu.elim
    | drop k => exact hu.elim
    | clear => exact hu.elim
    | ins k j a =>
      cases k with
      | none => exact hu.elim
      | some k =>
        obtain ⟨h0, h1, h2, h3⟩ := hu
        obtain rfl | rfl | rfl | rfl | rfl : i = 0 ∨ i = 1 ∨ i = 2 ∨ i = 3 ∨ i = 4 := by
          have := h1
          omega
        · obtain rfl | rfl | rfl | rfl | rfl : k = 0 ∨ k = 1 ∨ k = 2 ∨ k = 3 ∨ k = 4 := by
            have := h2
            omega
          · obtain rfl | rfl | rfl | rfl | rfl : j = 0 ∨ j = 1 ∨ j = 2 ∨ j = 3 ∨ j = 4 := by
              have := h3
              omega
            · exact af_5_evi_0_0_0 ev own win rs n now i o t m F p0 p1 p2 p3 p4 e0 e1 e2 e3 e4 a0 a1 a2 a3 a4 p e a
            · exact af_5_evi_0_0_1 ev own win rs n now i o t m F p0 p1 p2 p3 p4 e0 e1 e2 e3 e4 a0 a1 a2 a3 a4 p e a
            · exact af_5_evi_0_0_2 ev own win rs n now i o t m F p0 p1 p2 p3 p4 e0 e1 e2 e3 e4 a0 a1 a2 a3 a4 p e a
            · exact af_5_evi_0_0_3 ev own win rs n now i o t m F p0 p1 p2 p3 p4 e0 e1 e2 e3 e4 a0 a1 a2 a3 a4 p e a
            · exact af_5_evi_0_0_4 ev own win rs n now i o t m F p0 p1 p2 p3 p4 e0 e1 e2 e3 e4 a0 a1 a2 a3 a4 p e a
          · obtain rfl | rfl | rfl | rfl | rfl : j = 0 ∨ j = 1 ∨ j = 2 ∨ j = 3 ∨ j = 4 := by
              have := h3
              omega
            · exact af_5_evi_0_1_0 ev own win rs n now i o t m F p0 p1 p2 p3 p4 e0 e1 e2 e3 e4 a0 a1 a2 a3 a4 p e a
            · exact af_5_evi_0_1_1 ev own win rs n now i o t m F p0 p1 p2 p3 p4 e0 e1 e2 e3 e4 a0 a1 a2 a3 a4 p e a
            · exact af_5_evi_0_1_2 ev own win rs n now i o t m F p0 p1 p2 p3 p4 e0 e1 e2 e3 e4 a0 a1 a2 a3 a4 p e a
            · exact af_5_evi_0_1_3 ev own win rs n now i o t m F p0 p1 p2 p3 p4 e0 e1 e2 e3 e4 a0 a1 a2 a3 a4 p e a
            · exact af_5_evi_0_1_4 ev own win rs n now i o t m F p0 p1 p2 p3 p4 e0 e1 e2 e3 e4 a0 a1 a2 a3 a4 p e a
          · obtain rfl | rfl | rfl | rfl | rfl : j = 0 ∨ j = 1 ∨ j = 2 ∨ j = 3 ∨ j = 4 := by
              have := h3
              omega
            · exact af_5_evi_0_2_0 ev own win rs n now i o t m F p0 p1 p2 p3 p4 e0 e1 e2 e3 e4 a0 a1 a2 a3 a4 p e a
            · exact af_5_evi_0_2_1 ev own win rs n now i o t m F p0 p1 p2 p3 p4 e0 e1 e2 e3 e4 a0 a1 a2 a3 a4 p e a
            · exact af_5_evi_0_2_2 ev own win rs n now i o t m F p0 p1 p2 p3 p4 e0 e1 e2 e3 e4 a0 a1 a2 a3 a4 p e a
            · exact af_5_evi_0_2_3 ev own win rs n now i o t m F p0 p1 p2 p3 p4 e0 e1 e2 e3 e4 a0 a1 a2 a3 a4 p e a
            · exact af_5_evi_0_2_4 ev own win rs n now i o t m F p0 p1 p2 p3 p4 e0 e1 e2 e3 e4 a0 a1 a2 a3 a4 p e a
          · obtain rfl | rfl | rfl | rfl | rfl : j = 0 ∨ j = 1 ∨ j = 2 ∨ j = 3 ∨ j = 4 := by
              have := h3
              omega
            · exact af_5_evi_0_3_0 ev own win rs n now i o t m F p0 p1 p2 p3 p4 e0 e1 e2 e3 e4 a0 a1 a2 a3 a4 p e a
            · exact af_5_evi_0_3_1 ev own win rs n now i o t m F p0 p1 p2 p3 p4 e0 e1 e2 e3 e4 a0 a1 a2 a3 a4 p e a
            · exact af_5_evi_0_3_2 ev own win rs n now i o t m F p0 p1 p2 p3 p4 e0 e1 e2 e3 e4 a0 a1 a2 a3 a4 p e a
            · exact af_5_evi_0_3_3 ev own win rs n now i o t m F p0 p1 p2 p3 p4 e0 e1 e2 e3 e4 a0 a1 a2 a3 a4 p e a
            · exact af_5_evi_0_3_4 ev own win rs n now i o t m F p0 p1 p2 p3 p4 e0 e1 e2 e3 e4 a0 a1 a2 a3 a4 p e a
          · obtain rfl | rfl | rfl | rfl | rfl : j = 0 ∨ j = 1 ∨ j = 2 ∨ j = 3 ∨ j = 4 := by
              have := h3
              omega
            · exact af_5_evi_0_4_0 ev own win rs n now i o t m F p0 p1 p2 p3 p4 e0 e1 e2 e3 e4 a0 a1 a2 a3 a4 p e a
            · exact af_5_evi_0_4_1 ev own win rs n now i o t m F p0 p1 p2 p3 p4 e0 e1 e2 e3 e4 a0 a1 a2 a3 a4 p e a
            · exact af_5_evi_0_4_2 ev own win rs n now i o t m F p0 p1 p2 p3 p4 e0 e1 e2 e3 e4 a0 a1 a2 a3 a4 p e a
            · exact af_5_evi_0_4_3 ev own win rs n now i o t m F p0 p1 p2 p3 p4 e0 e1 e2 e3 e4 a0 a1 a2 a3 a4 p e a
            · exact af_5_evi_0_4_4 ev own win rs n now i o t m F p0 p1 p2 p3 p4 e0 e1 e2 e3 e4 a0 a1 a2 a3 a4 p e a
        · obtain rfl | rfl | rfl | rfl | rfl : k = 0 ∨ k = 1 ∨ k = 2 ∨ k = 3 ∨ k = 4 := by
            have := h2
            omega
          · obtain rfl | rfl | rfl | rfl | rfl : j = 0 ∨ j = 1 ∨ j = 2 ∨ j = 3 ∨ j = 4 := by
              have := h3
              omega
            · exact af_5_evi_1_0_0 ev own win rs n now i o t m F p0 p1 p2 p3 p4 e0 e1 e2 e3 e4 a0 a1 a2 a3 a4 p e a
            · exact af_5_evi_1_0_1 ev own win rs n now i o t m F p0 p1 p2 p3 p4 e0 e1 e2 e3 e4 a0 a1 a2 a3 a4 p e a
            · exact af_5_evi_1_0_2 ev own win rs n now i o t m F p0 p1 p2 p3 p4 e0 e1 e2 e3 e4 a0 a1 a2 a3 a4 p e a
            · exact af_5_evi_1_0_3 ev own win rs n now i o t m F p0 p1 p2 p3 p4 e0 e1 e2 e3 e4 a0 a1 a2 a3 a4 p e a
            · exact af_5_evi_1_0_4 ev own win rs n now i o t m F p0 p1 p2 p3 p4 e0 e1 e2 e3 e4 a0 a1 a2 a3 a4 p e a
          · obtain rfl | rfl | rfl | rfl | rfl : j = 0 ∨ j = 1 ∨ j = 2 ∨ j = 3 ∨ j = 4 := by
              have := h3
              omega
            · exact af_5_evi_1_1_0 ev own win rs n now i o t m F p0 p1 p2 p3 p4 e0 e1 e2 e3 e4 a0 a1 a2 a3 a4 p e a
            · exact af_5_evi_1_1_1 ev own win rs n now i o t m F p0 p1 p2 p3 p4 e0 e1 e2 e3 e4 a0 a1 a2 a3 a4 p e a
            · exact af_5_evi_1_1_2 ev own win rs n now i o t m F p0 p1 p2 p3 p4 e0 e1 e2 e3 e4 a0 a1 a2 a3 a4 p e a
            · exact af_5_evi_1_1_3 ev own win rs n now i o t m F p0 p1 p2 p3 p4 e0 e1 e2 e3 e4 a0 a1 a2 a3 a4 p e a
            · exact af_5_evi_1_1_4 ev own win rs n now i o t m F p0 p1 p2 p3 p4 e0 e1 e2 e3 e4 a0 a1 a2 a3 a4 p e a
          · obtain rfl | rfl | rfl | rfl | rfl : j = 0 ∨ j = 1 ∨ j = 2 ∨ j = 3 ∨ j = 4 := by
              have := h3
              omega
            · exact af_5_evi_1_2_0 ev own win rs n now i o t m F p0 p1 p2 p3 p4 e0 e1 e2 e3 e4 a0 a1 a2 a3 a4 p e a
            · exact af_5_evi_1_2_1 ev own win rs n now i o t m F p0 p1 p2 p3 p4 e0 e1 e2 e3 e4 a0 a1 a2 a3 a4 p e a
            · exact af_5_evi_1_2_2 ev own win rs n now i o t m F p0 p1 p2 p3 p4 e0 e1 e2 e3 e4 a0 a1 a2 a3 a4 p e a
            · exact af_5_evi_1_2_3 ev own win rs n now i o t m F p0 p1 p2 p3 p4 e0 e1 e2 e3 e4 a0 a1 a2 a3 a4 p e a
            · exact af_5_evi_1_2_4 ev own win rs n now i o t m F p0 p1 p2 p3 p4 e0 e1 e2 e3 e4 a0 a1 a2 a3 a4 p e a
          · obtain rfl | rfl | rfl | rfl | rfl : j = 0 ∨ j = 1 ∨ j = 2 ∨ j = 3 ∨ j = 4 := by
              have := h3
              omega
            · exact af_5_evi_1_3_0 ev own win rs n now i o t m F p0 p1 p2 p3 p4 e0 e1 e2 e3 e4 a0 a1 a2 a3 a4 p e a
            · exact af_5_evi_1_3_1 ev own win rs n now i o t m F p0 p1 p2 p3 p4 e0 e1 e2 e3 e4 a0 a1 a2 a3 a4 p e a
            · exact af_5_evi_1_3_2 ev own win rs n now i o t m F p0 p1 p2 p3 p4 e0 e1 e2 e3 e4 a0 a1 a2 a3 a4 p e a
            · exact af_5_evi_1_3_3 ev own win rs n now i o t m F p0 p1 p2 p3 p4 e0 e1 e2 e3 e4 a0 a1 a2 a3 a4 p e a
            · exact af_5_evi_1_3_4 ev own win rs n now i o t m F p0 p1 p2 p3 p4 e0 e1 e2 e3 e4 a0 a1 a2 a3 a4 p e a
          · obtain rfl | rfl | rfl | rfl | rfl : j = 0 ∨ j = 1 ∨ j = 2 ∨ j = 3 ∨ j = 4 := by
              have := h3
              omega
            · exact af_5_evi_1_4_0 ev own win rs n now i o t m F p0 p1 p2 p3 p4 e0 e1 e2 e3 e4 a0 a1 a2 a3 a4 p e a
            · exact af_5_evi_1_4_1 ev own win rs n now i o t m F p0 p1 p2 p3 p4 e0 e1 e2 e3 e4 a0 a1 a2 a3 a4 p e a
            · exact af_5_evi_1_4_2 ev own win rs n now i o t m F p0 p1 p2 p3 p4 e0 e1 e2 e3 e4 a0 a1 a2 a3 a4 p e a
            · exact af_5_evi_1_4_3 ev own win rs n now i o t m F p0 p1 p2 p3 p4 e0 e1 e2 e3 e4 a0 a1 a2 a3 a4 p e a
            · exact af_5_evi_1_4_4 ev own win rs n now i o t m F p0 p1 p2 p3 p4 e0 e1 e2 e3 e4 a0 a1 a2 a3 a4 p e a
        · obtain rfl | rfl | rfl | rfl | rfl : k = 0 ∨ k = 1 ∨ k = 2 ∨ k = 3 ∨ k = 4 := by
            have := h2
            omega
          · obtain rfl | rfl | rfl | rfl | rfl : j = 0 ∨ j = 1 ∨ j = 2 ∨ j = 3 ∨ j = 4 := by
              have := h3
              omega
            · exact af_5_evi_2_0_0 ev own win rs n now i o t m F p0 p1 p2 p3 p4 e0 e1 e2 e3 e4 a0 a1 a2 a3 a4 p e a
            · exact af_5_evi_2_0_1 ev own win rs n now i o t m F p0 p1 p2 p3 p4 e0 e1 e2 e3 e4 a0 a1 a2 a3 a4 p e a
            · exact af_5_evi_2_0_2 ev own win rs n now i o t m F p0 p1 p2 p3 p4 e0 e1 e2 e3 e4 a0 a1 a2 a3 a4 p e a
            · exact af_5_evi_2_0_3 ev own win rs n now i o t m F p0 p1 p2 p3 p4 e0 e1 e2 e3 e4 a0 a1 a2 a3 a4 p e a
            · exact af_5_evi_2_0_4 ev own win rs n now i o t m F p0 p1 p2 p3 p4 e0 e1 e2 e3 e4 a0 a1 a2 a3 a4 p e a
          · obtain rfl | rfl | rfl | rfl | rfl : j = 0 ∨ j = 1 ∨ j = 2 ∨ j = 3 ∨ j = 4 := by
              have := h3
              omega
            · exact af_5_evi_2_1_0 ev own win rs n now i o t m F p0 p1 p2 p3 p4 e0 e1 e2 e3 e4 a0 a1 a2 a3 a4 p e a
            · exact af_5_evi_2_1_1 ev own win rs n now i o t m F p0 p1 p2 p3 p4 e0 e1 e2 e3 e4 a0 a1 a2 a3 a4 p e a
            · exact af_5_evi_2_1_2 ev own win rs n now i o t m F p0 p1 p2 p3 p4 e0 e1 e2 e3 e4 a0 a1 a2 a3 a4 p e a
            · exact af_5_evi_2_1_3 ev own win rs n now i o t m F p0 p1 p2 p3 p4 e0 e1 e2 e3 e4 a0 a1 a2 a3 a4 p e a
            · exact af_5_evi_2_1_4 ev own win rs n now i o t m F p0 p1 p2 p3 p4 e0 e1 e2 e3 e4 a0 a1 a2 a3 a4 p e a
          · obtain rfl | rfl | rfl | rfl | rfl : j = 0 ∨ j = 1 ∨ j = 2 ∨ j = 3 ∨ j = 4 := by
              have := h3
              omega
            · exact af_5_evi_2_2_0 ev own win rs n now i o t m F p0 p1 p2 p3 p4 e0 e1 e2 e3 e4 a0 a1 a2 a3 a4 p e a
            · exact af_5_evi_2_2_1 ev own win rs n now i o t m F p0 p1 p2 p3 p4 e0 e1 e2 e3 e4 a0 a1 a2 a3 a4 p e a
            · exact af_5_evi_2_2_2 ev own win rs n now i o t m F p0 p1 p2 p3 p4 e0 e1 e2 e3 e4 a0 a1 a2 a3 a4 p e a
            · exact af_5_evi_2_2_3 ev own win rs n now i o t m F p0 p1 p2 p3 p4 e0 e1 e2 e3 e4 a0 a1 a2 a3 a4 p e a
            · exact af_5_evi_2_2_4 ev own win rs n now i o t m F p0 p1 p2 p3 p4 e0 e1 e2 e3 e4 a0 a1 a2 a3 a4 p e a
          · obtain rfl | rfl | rfl | rfl | rfl : j = 0 ∨ j = 1 ∨ j = 2 ∨ j = 3 ∨ j = 4 := by
              have := h3
              omega
            · exact af_5_evi_2_3_0 ev own win rs n now i o t m F p0 p1 p2 p3 p4 e0 e1 e2 e3 e4 a0 a1 a2 a3 a4 p e a
            · exact af_5_evi_2_3_1 ev own win rs n now i o t m F p0 p1 p2 p3 p4 e0 e1 e2 e3 e4 a0 a1 a2 a3 a4 p e a
            · exact af_5_evi_2_3_2 ev own win rs n now i o t m F p0 p1 p2 p3 p4 e0 e1 e2 e3 e4 a0 a1 a2 a3 a4 p e a
            · exact af_5_evi_2_3_3 ev own win rs n now i o t m F p0 p1 p2 p3 p4 e0 e1 e2 e3 e4 a0 a1 a2 a3 a4 p e a
            · exact af_5_evi_2_3_4 ev own win rs n now i o t m F p0 p1 p2 p3 p4 e0 e1 e2 e3 e4 a0 a1 a2 a3 a4 p e a
          · obtain rfl | rfl | rfl | rfl | rfl : j = 0 ∨ j = 1 ∨ j = 2 ∨ j = 3 ∨ j = 4 := by
              have := h3
              omega
            · exact af_5_evi_2_4_0 ev own win rs n now i o t m F p0 p1 p2 p3 p4 e0 e1 e2 e3 e4 a0 a1 a2 a3 a4 p e a
            · exact af_5_evi_2_4_1 ev own win rs n now i o t m F p0 p1 p2 p3 p4 e0 e1 e2 e3 e4 a0 a1 a2 a3 a4 p e a
            · exact af_5_evi_2_4_2 ev own win rs n now i o t m F p0 p1 p2 p3 p4 e0 e1 e2 e3 e4 a0 a1 a2 a3 a4 p e a
            · exact af_5_evi_2_4_3 ev own win rs n now i o t m F p0 p1 p2 p3 p4 e0 e1 e2 e3 e4 a0 a1 a2 a3 a4 p e a
            · exact af_5_evi_2_4_4 ev own win rs n now i o t m F p0 p1 p2 p3 p4 e0 e1 e2 e3 e4 a0 a1 a2 a3 a4 p e a
        · obtain rfl | rfl | rfl | rfl | rfl : k = 0 ∨ k = 1 ∨ k = 2 ∨ k = 3 ∨ k = 4 := by
            have := h2
            omega
          · obtain rfl | rfl | rfl | rfl | rfl : j = 0 ∨ j = 1 ∨ j = 2 ∨ j = 3 ∨ j = 4 := by
              have := h3
              omega
            · exact af_5_evi_3_0_0 ev own win rs n now i o t m F p0 p1 p2 p3 p4 e0 e1 e2 e3 e4 a0 a1 a2 a3 a4 p e a
            · exact af_5_evi_3_0_1 ev own win rs n now i o t m F p0 p1 p2 p3 p4 e0 e1 e2 e3 e4 a0 a1 a2 a3 a4 p e a
            · exact af_5_evi_3_0_2 ev own win rs n now i o t m F p0 p1 p2 p3 p4 e0 e1 e2 e3 e4 a0 a1 a2 a3 a4 p e a
            · exact af_5_evi_3_0_3 ev own win rs n now i o t m F p0 p1 p2 p3 p4 e0 e1 e2 e3 e4 a0 a1 a2 a3 a4 p e a
            · exact af_5_evi_3_0_4 ev own win rs n now i o t m F p0 p1 p2 p3 p4 e0 e1 e2 e3 e4 a0 a1 a2 a3 a4 p e a
          · obtain rfl | rfl | rfl | rfl | rfl : j = 0 ∨ j = 1 ∨ j = 2 ∨ j = 3 ∨ j = 4 := by
              have := h3
              omega
            · exact af_5_evi_3_1_0 ev own win rs n now i o t m F p0 p1 p2 p3 p4 e0 e1 e2 e3 e4 a0 a1 a2 a3 a4 p e a
            · exact af_5_evi_3_1_1 ev own win rs n now i o t m F p0 p1 p2 p3 p4 e0 e1 e2 e3 e4 a0 a1 a2 a3 a4 p e a
            · exact af_5_evi_3_1_2 ev own win rs n now i o t m F p0 p1 p2 p3 p4 e0 e1 e2 e3 e4 a0 a1 a2 a3 a4 p e a
            · exact af_5_evi_3_1_3 ev own win rs n now i o t m F p0 p1 p2 p3 p4 e0 e1 e2 e3 e4 a0 a1 a2 a3 a4 p e a
            · exact af_5_evi_3_1_4 ev own win rs n now i o t m F p0 p1 p2 p3 p4 e0 e1 e2 e3 e4 a0 a1 a2 a3 a4 p e a
          · obtain rfl | rfl | rfl | rfl | rfl : j = 0 ∨ j = 1 ∨ j = 2 ∨ j = 3 ∨ j = 4 := by
              have := h3
              omega
            · exact af_5_evi_3_2_0 ev own win rs n now i o t m F p0 p1 p2 p3 p4 e0 e1 e2 e3 e4 a0 a1 a2 a3 a4 p e a
            · exact af_5_evi_3_2_1 ev own win rs n now i o t m F p0 p1 p2 p3 p4 e0 e1 e2 e3 e4 a0 a1 a2 a3 a4 p e a
            · exact af_5_evi_3_2_2 ev own win rs n now i o t m F p0 p1 p2 p3 p4 e0 e1 e2 e3 e4 a0 a1 a2 a3 a4 p e a
            · exact af_5_evi_3_2_3 ev own win rs n now i o t m F p0 p1 p2 p3 p4 e0 e1 e2 e3 e4 a0 a1 a2 a3 a4 p e a
            · exact af_5_evi_3_2_4 ev own win rs n now i o t m F p0 p1 p2 p3 p4 e0 e1 e2 e3 e4 a0 a1 a2 a3 a4 p e a
          · obtain rfl | rfl | rfl | rfl | rfl : j = 0 ∨ j = 1 ∨ j = 2 ∨ j = 3 ∨ j = 4 := by
              have := h3
              omega
            · exact af_5_evi_3_3_0 ev own win rs n now i o t m F p0 p1 p2 p3 p4 e0 e1 e2 e3 e4 a0 a1 a2 a3 a4 p e a
            · exact af_5_evi_3_3_1 ev own win rs n now i o t m F p0 p1 p2 p3 p4 e0 e1 e2 e3 e4 a0 a1 a2 a3 a4 p e a
            · exact af_5_evi_3_3_2 ev own win rs n now i o t m F p0 p1 p2 p3 p4 e0 e1 e2 e3 e4 a0 a1 a2 a3 a4 p e a
            · exact af_5_evi_3_3_3 ev own win rs n now i o t m F p0 p1 p2 p3 p4 e0 e1 e2 e3 e4 a0 a1 a2 a3 a4 p e a
            · exact af_5_evi_3_3_4 ev own win rs n now i o t m F p0 p1 p2 p3 p4 e0 e1 e2 e3 e4 a0 a1 a2 a3 a4 p e a
          · obtain rfl | rfl | rfl | rfl | rfl : j = 0 ∨ j = 1 ∨ j = 2 ∨ j = 3 ∨ j = 4 := by
              have := h3
              omega
            · exact af_5_evi_3_4_0 ev own win rs n now i o t m F p0 p1 p2 p3 p4 e0 e1 e2 e3 e4 a0 a1 a2 a3 a4 p e a
            · exact af_5_evi_3_4_1 ev own win rs n now i o t m F p0 p1 p2 p3 p4 e0 e1 e2 e3 e4 a0 a1 a2 a3 a4 p e a
            · exact af_5_evi_3_4_2 ev own win rs n now i o t m F p0 p1 p2 p3 p4 e0 e1 e2 e3 e4 a0 a1 a2 a3 a4 p e a
            · exact af_5_evi_3_4_3 ev own win rs n now i o t m F p0 p1 p2 p3 p4 e0 e1 e2 e3 e4 a0 a1 a2 a3 a4 p e a
            · exact af_5_evi_3_4_4 ev own win rs n now i o t m F p0 p1 p2 p3 p4 e0 e1 e2 e3 e4 a0 a1 a2 a3 a4 p e a
        · obtain rfl | rfl | rfl | rfl | rfl : k = 0 ∨ k = 1 ∨ k = 2 ∨ k = 3 ∨ k = 4 := by
            have := h2
            omega
          · obtain rfl | rfl | rfl | rfl | rfl : j = 0 ∨ j = 1 ∨ j = 2 ∨ j = 3 ∨ j = 4 := by
              have := h3
              omega
            · exact af_5_evi_4_0_0 ev own win rs n now i o t m F p0 p1 p2 p3 p4 e0 e1 e2 e3 e4 a0 a1 a2 a3 a4 p e a
            · exact af_5_evi_4_0_1 ev own win rs n now i o t m F p0 p1 p2 p3 p4 e0 e1 e2 e3 e4 a0 a1 a2 a3 a4 p e a
            · exact af_5_evi_4_0_2 ev own win rs n now i o t m F p0 p1 p2 p3 p4 e0 e1 e2 e3 e4 a0 a1 a2 a3 a4 p e a
            · exact af_5_evi_4_0_3 ev own win rs n now i o t m F p0 p1 p2 p3 p4 e0 e1 e2 e3 e4 a0 a1 a2 a3 a4 p e a
            · exact af_5_evi_4_0_4 ev own win rs n now i o t m F p0 p1 p2 p3 p4 e0 e1 e2 e3 e4 a0 a1 a2 a3 a4 p e a
          · obtain rfl | rfl | rfl | rfl | rfl : j = 0 ∨ j = 1 ∨ j = 2 ∨ j = 3 ∨ j = 4 := by
              have := h3
              omega
            · exact af_5_evi_4_1_0 ev own win rs n now i o t m F p0 p1 p2 p3 p4 e0 e1 e2 e3 e4 a0 a1 a2 a3 a4 p e a
            · exact af_5_evi_4_1_1 ev own win rs n now i o t m F p0 p1 p2 p3 p4 e0 e1 e2 e3 e4 a0 a1 a2 a3 a4 p e a
            · exact af_5_evi_4_1_2 ev own win rs n now i o t m F p0 p1 p2 p3 p4 e0 e1 e2 e3 e4 a0 a1 a2 a3 a4 p e a
            · exact af_5_evi_4_1_3 ev own win rs n now i o t m F p0 p1 p2 p3 p4 e0 e1 e2 e3 e4 a0 a1 a2 a3 a4 p e a
            · exact af_5_evi_4_1_4 ev own win rs n now i o t m F p0 p1 p2 p3 p4 e0 e1 e2 e3 e4 a0 a1 a2 a3 a4 p e a
          · obtain rfl | rfl | rfl | rfl | rfl : j = 0 ∨ j = 1 ∨ j = 2 ∨ j = 3 ∨ j = 4 := by
              have := h3
              omega
            · exact af_5_evi_4_2_0 ev own win rs n now i o t m F p0 p1 p2 p3 p4 e0 e1 e2 e3 e4 a0 a1 a2 a3 a4 p e a
            · exact af_5_evi_4_2_1 ev own win rs n now i o t m F p0 p1 p2 p3 p4 e0 e1 e2 e3 e4 a0 a1 a2 a3 a4 p e a
            · exact af_5_evi_4_2_2 ev own win rs n now i o t m F p0 p1 p2 p3 p4 e0 e1 e2 e3 e4 a0 a1 a2 a3 a4 p e a
            · exact af_5_evi_4_2_3 ev own win rs n now i o t m F p0 p1 p2 p3 p4 e0 e1 e2 e3 e4 a0 a1 a2 a3 a4 p e a
            · exact af_5_evi_4_2_4 ev own win rs n now i o t m F p0 p1 p2 p3 p4 e0 e1 e2 e3 e4 a0 a1 a2 a3 a4 p e a
          · obtain rfl | rfl | rfl | rfl | rfl : j = 0 ∨ j = 1 ∨ j = 2 ∨ j = 3 ∨ j = 4 := by
              have := h3
              omega
            · exact af_5_evi_4_3_0 ev own win rs n now i o t m F p0 p1 p2 p3 p4 e0 e1 e2 e3 e4 a0 a1 a2 a3 a4 p e a
            · exact af_5_evi_4_3_1 ev own win rs n now i o t m F p0 p1 p2 p3 p4 e0 e1 e2 e3 e4 a0 a1 a2 a3 a4 p e a
            · exact af_5_evi_4_3_2 ev own win rs n now i o t m F p0 p1 p2 p3 p4 e0 e1 e2 e3 e4 a0 a1 a2 a3 a4 p e a
            · exact af_5_evi_4_3_3 ev own win rs n now i o t m F p0 p1 p2 p3 p4 e0 e1 e2 e3 e4 a0 a1 a2 a3 a4 p e a
            · exact af_5_evi_4_3_4 ev own win rs n now i o t m F p0 p1 p2 p3 p4 e0 e1 e2 e3 e4 a0 a1 a2 a3 a4 p e a
          · obtain rfl | rfl | rfl | rfl | rfl : j = 0 ∨ j = 1 ∨ j = 2 ∨ j = 3 ∨ j = 4 := by
              have := h3
              omega
            · exact af_5_evi_4_4_0 ev own win rs n now i o t m F p0 p1 p2 p3 p4 e0 e1 e2 e3 e4 a0 a1 a2 a3 a4 p e a
            · exact af_5_evi_4_4_1 ev own win rs n now i o t m F p0 p1 p2 p3 p4 e0 e1 e2 e3 e4 a0 a1 a2 a3 a4 p e a
            · exact af_5_evi_4_4_2 ev own win rs n now i o t m F p0 p1 p2 p3 p4 e0 e1 e2 e3 e4 a0 a1 a2 a3 a4 p e a
            · exact af_5_evi_4_4_3 ev own win rs n now i o t m F p0 p1 p2 p3 p4 e0 e1 e2 e3 e4 a0 a1 a2 a3 a4 p e a
            · exact af_5_evi_4_4_4 ev own win rs n now i o t m F p0 p1 p2 p3 p4 e0 e1 e2 e3 e4 a0 a1 a2 a3 a4 p e a
theorem tab2 {P : TabE → RTab → Prop} (h0 : P [] []) (h1 : ∀ a x, P [a] [x]) (h2 : ∀ a b x y, P [a, b] [x, y]) (h3 : ∀ a b c x y z, P [a, b, c] [x, y, z]) (h4 : ∀ a b c d x y z w, P [a, b, c, d] [x, y, z, w]) (h5 : ∀ a b c d e x y z w v, P [a, b, c, d, e] [x, y, z, w, v]) : ∀ (es : TabE) (rt : RTab), es.length ≤ 5 → es.length = rt.length → P es rt := by
  intro es rt h hl
  rcases es with _ | ⟨a, _ | ⟨b, _ | ⟨c, _ | ⟨d, _ | ⟨e, _ | ⟨f, l⟩⟩⟩⟩⟩⟩
  · rcases rt with _ | ⟨x, l⟩
    · exact h0
    · simp at hl
  · rcases rt with _ | ⟨x, _ | ⟨y, l⟩⟩
    · simp at hl
    · exact h1 a x
    · simp at hl
  · rcases rt with _ | ⟨x, _ | ⟨y, _ | ⟨z, l⟩⟩⟩
    · simp at hl
    · simp at hl
    · exact h2 a b x y
    · simp at hl
  · rcases rt with _ | ⟨x, _ | ⟨y, _ | ⟨z, _ | ⟨w, l⟩⟩⟩⟩
    · simp at hl
    · simp at hl
    · simp at hl
    · exact h3 a b c x y z
    · simp at hl
  · rcases rt with _ | ⟨x, _ | ⟨y, _ | ⟨z, _ | ⟨w, _ | ⟨v, l⟩⟩⟩⟩⟩
    · simp at hl
    · simp at hl
    · simp at hl
    · simp at hl
    · exact h4 a b c d x y z w
    · simp at hl
  · rcases rt with _ | ⟨x, _ | ⟨y, _ | ⟨z, _ | ⟨w, _ | ⟨v, _ | ⟨f, l⟩⟩⟩⟩⟩⟩
    · simp at hl
    · simp at hl
    · simp at hl
    · simp at hl
    · simp at hl
    · exact h5 a b c d e x y z w v
    · simp at hl
  · simp at h
theorem af_all (ev : Int) (own : Ck) (win : Int) (rs : List (List V)) (n : Nat) (now i : Int) (o : Opp) (t m : Int) (F : List Ste) (es : TabE) (rt : RTab) (hn : es.length ≤ 5) (hl : es.length = rt.length) : ∀ (u : Up) (r : RUp), okUR es.length u r → AfFacts ev own win rs n now i o t m F es rt u r := by
  revert hn hl
  refine fun hn hl => tab2 (P := fun es rt => ∀ (u : Up) (r : RUp), okUR es.length u r → AfFacts ev own win rs n now i o t m F es rt u r) ?_ ?_ ?_ ?_ ?_ ?_ es rt hn hl
  · exact fun  u r hu => afn_0 ev own win rs n now i o t m F    u r hu
  · exact fun a x u r hu => afn_1 ev own win rs n now i o t m F a.1 a.2 x u r hu
  · exact fun a b x y u r hu => afn_2 ev own win rs n now i o t m F a.1 b.1 a.2 b.2 x y u r hu
  · exact fun a b c x y z u r hu => afn_3 ev own win rs n now i o t m F a.1 b.1 c.1 a.2 b.2 c.2 x y z u r hu
  · exact fun a b c d x y z w u r hu => afn_4 ev own win rs n now i o t m F a.1 b.1 c.1 d.1 a.2 b.2 c.2 d.2 x y z w u r hu
  · exact fun a b c d e x y z w v u r hu => afn_5 ev own win rs n now i o t m F a.1 b.1 c.1 d.1 e.1 a.2 b.2 c.2 d.2 e.2 x y z w v u r hu
end Go.Proofs.Ytgdalboilghciaa
