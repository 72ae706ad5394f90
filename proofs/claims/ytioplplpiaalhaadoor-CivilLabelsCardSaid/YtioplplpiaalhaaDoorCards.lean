/-
  DERIVED. GIVEN WITH THE SEED: THE CARDS: each row of YtioplplpiaalhaaDoorRows.lean that lists a variable, with what it lists TIED to the program's text (the seventh form; the later family's looks); each row that meets fmt, with fmt's text TOLD by the authors' own Lean function (tested against real Go, not proved from fmt's source: count such statements apart). THE CARD IS WHAT COUNTS. Prove the row's statement (the work); the ties are given (YtioplplpiaalhaaDoorTie.lean); close each card by the builder's one call (the guide's Derived/Test/ToyasCard.lean, 'card_holds'). Laid BY PROGRAM, IN A SANDBOX (cutbox-door.mjs). By AI agents, Wed Nov 11 2026. No macro, syntax, notation, axiom, sorry.
-/
import Derived.Test.YtioplplpiaalhaaDoorRows
import GoSem.ClaimSeven
namespace Go.Proofs.YtioplplpiaalhaaDoor
namespace Rows

/-- THE TIED CARD OF 'horologelaw15.CivilDays'. -/
def civilDaysCard : Claim7 := { stood := { row := civilDaysRow, standIns := [], harness := (true, "a46c0db0f743c2a9835ad43eacbdce2141252b5b7991e93e003219324c7f46f6"), looks := false }, kinds := [], alts := [], laidByText := true, laidKinds := [.data, .data, .data], laidTests := true, laidLooks := .later }
def CivilDaysCardSaid : Prop := Claim7.holds Tryd.pinned (.plain (OpenSpec.ofChange civilDaysSpec)) civilDaysCard

/-- THE TIED CARD OF 'horologelaw15.CivilYears'. -/
def civilYearsCard : Claim7 := { stood := { row := civilYearsRow, standIns := [], harness := (true, "a46c0db0f743c2a9835ad43eacbdce2141252b5b7991e93e003219324c7f46f6"), looks := false }, kinds := [], alts := [], laidByText := true, laidKinds := [.data, .data, .data], laidTests := true, laidLooks := .later }
def CivilYearsCardSaid : Prop := Claim7.holds Tryd.pinned (.plain (OpenSpec.ofChange civilYearsSpec)) civilYearsCard

/-- THE TIED CARD OF 'horologelaw15.CivilMonths'. -/
def civilMonthsCard : Claim7 := { stood := { row := civilMonthsRow, standIns := [], harness := (true, "a46c0db0f743c2a9835ad43eacbdce2141252b5b7991e93e003219324c7f46f6"), looks := false }, kinds := [], alts := [], laidByText := true, laidKinds := [.data, .data, .data], laidTests := true, laidLooks := .later }
def CivilMonthsCardSaid : Prop := Claim7.holds Tryd.pinned (.plain (OpenSpec.ofChange civilMonthsSpec)) civilMonthsCard

/-- THE TIED CARD OF 'horologelaw15.CivilFours'. -/
def civilFoursCard : Claim7 := { stood := { row := civilFoursRow, standIns := [], harness := (true, "a46c0db0f743c2a9835ad43eacbdce2141252b5b7991e93e003219324c7f46f6"), looks := false }, kinds := [], alts := [], laidByText := true, laidKinds := [.data, .data, .data], laidTests := true, laidLooks := .later }
def CivilFoursCardSaid : Prop := Claim7.holds Tryd.pinned (.plain (OpenSpec.ofChange civilFoursSpec)) civilFoursCard

/-- THE TIED CARD OF 'horologelaw15.CivilLabels'. -/
def civilLabelsCard : Claim7 := { stood := { row := civilLabelsRow, standIns := [], harness := (true, "a46c0db0f743c2a9835ad43eacbdce2141252b5b7991e93e003219324c7f46f6"), looks := false }, kinds := [], alts := [], laidByText := true, laidKinds := [.data, .data, .data], laidTests := true, laidLooks := .later }
def CivilLabelsCardSaid : Prop := Claim7.holds Tryd.pinned (.plain (OpenSpec.ofChange civilLabelsSpec)) civilLabelsCard

/-- THE TIED CARD OF 'horologelaw15.CivilOrder'. -/
def civilOrderCard : Claim7 := { stood := { row := civilOrderRow, standIns := [], harness := (true, "a46c0db0f743c2a9835ad43eacbdce2141252b5b7991e93e003219324c7f46f6"), looks := false }, kinds := [], alts := [], laidByText := true, laidKinds := [.data, .data, .data], laidTests := true, laidLooks := .later }
def CivilOrderCardSaid : Prop := Claim7.holds Tryd.pinned (.plain (OpenSpec.ofChange civilOrderSpec)) civilOrderCard

/-- THE TIED CARD OF 'horologelaw15.CivilTexts'. -/
def civilTextsCard : Claim7 := { stood := { row := civilTextsRow, standIns := [], harness := (true, "a46c0db0f743c2a9835ad43eacbdce2141252b5b7991e93e003219324c7f46f6"), looks := false }, kinds := [], alts := [], laidByText := true, laidKinds := [.data, .data, .data], laidTests := true, laidLooks := .later }
def CivilTextsCardSaid : Prop := Claim7.holds Tryd.pinned (.plain (OpenSpec.ofChange civilTextsSpec)) civilTextsCard

/-- THE TIED CARD OF 'horologelaw15.CivilBack'. -/
def civilBackCard : Claim7 := { stood := { row := civilBackRow, standIns := [], harness := (true, "a46c0db0f743c2a9835ad43eacbdce2141252b5b7991e93e003219324c7f46f6"), looks := false }, kinds := [], alts := [], laidByText := true, laidKinds := [.data, .data, .data], laidTests := true, laidLooks := .later }
def CivilBackCardSaid : Prop := Claim7.holds Tryd.pinned (.plain (OpenSpec.ofChange civilBackSpec)) civilBackCard

/-- THE SECOND FORM's CARD OF 'horologelaw15.CivilDays'. -/
def civilDaysUptoCard : Claim7 := { stood := { row := civilDaysUptoRow, standIns := [], harness := (true, "a46c0db0f743c2a9835ad43eacbdce2141252b5b7991e93e003219324c7f46f6"), looks := false }, kinds := [], alts := [], laidByText := true, laidKinds := [.data, .data, .data], laidTests := true, laidLooks := .later }
def CivilDaysUptoCardSaid : Prop := Claim7.holds Tryd.pinned (.plain (OpenSpec.upto civilDaysSpec)) civilDaysUptoCard

/-- THE SECOND FORM's CARD OF 'horologelaw15.CivilYears'. -/
def civilYearsUptoCard : Claim7 := { stood := { row := civilYearsUptoRow, standIns := [], harness := (true, "a46c0db0f743c2a9835ad43eacbdce2141252b5b7991e93e003219324c7f46f6"), looks := false }, kinds := [], alts := [], laidByText := true, laidKinds := [.data, .data, .data], laidTests := true, laidLooks := .later }
def CivilYearsUptoCardSaid : Prop := Claim7.holds Tryd.pinned (.plain (OpenSpec.upto civilYearsSpec)) civilYearsUptoCard

/-- THE SECOND FORM's CARD OF 'horologelaw15.CivilMonths'. -/
def civilMonthsUptoCard : Claim7 := { stood := { row := civilMonthsUptoRow, standIns := [], harness := (true, "a46c0db0f743c2a9835ad43eacbdce2141252b5b7991e93e003219324c7f46f6"), looks := false }, kinds := [], alts := [], laidByText := true, laidKinds := [.data, .data, .data], laidTests := true, laidLooks := .later }
def CivilMonthsUptoCardSaid : Prop := Claim7.holds Tryd.pinned (.plain (OpenSpec.upto civilMonthsSpec)) civilMonthsUptoCard

/-- THE SECOND FORM's CARD OF 'horologelaw15.CivilFours'. -/
def civilFoursUptoCard : Claim7 := { stood := { row := civilFoursUptoRow, standIns := [], harness := (true, "a46c0db0f743c2a9835ad43eacbdce2141252b5b7991e93e003219324c7f46f6"), looks := false }, kinds := [], alts := [], laidByText := true, laidKinds := [.data, .data, .data], laidTests := true, laidLooks := .later }
def CivilFoursUptoCardSaid : Prop := Claim7.holds Tryd.pinned (.plain (OpenSpec.upto civilFoursSpec)) civilFoursUptoCard

/-- THE SECOND FORM's CARD OF 'horologelaw15.CivilLabels'. -/
def civilLabelsUptoCard : Claim7 := { stood := { row := civilLabelsUptoRow, standIns := [], harness := (true, "a46c0db0f743c2a9835ad43eacbdce2141252b5b7991e93e003219324c7f46f6"), looks := false }, kinds := [], alts := [], laidByText := true, laidKinds := [.data, .data, .data], laidTests := true, laidLooks := .later }
def CivilLabelsUptoCardSaid : Prop := Claim7.holds Tryd.pinned (.plain (OpenSpec.upto civilLabelsSpec)) civilLabelsUptoCard

/-- THE SECOND FORM's CARD OF 'horologelaw15.CivilOrder'. -/
def civilOrderUptoCard : Claim7 := { stood := { row := civilOrderUptoRow, standIns := [], harness := (true, "a46c0db0f743c2a9835ad43eacbdce2141252b5b7991e93e003219324c7f46f6"), looks := false }, kinds := [], alts := [], laidByText := true, laidKinds := [.data, .data, .data], laidTests := true, laidLooks := .later }
def CivilOrderUptoCardSaid : Prop := Claim7.holds Tryd.pinned (.plain (OpenSpec.upto civilOrderSpec)) civilOrderUptoCard

/-- THE SECOND FORM's CARD OF 'horologelaw15.CivilTexts'. -/
def civilTextsUptoCard : Claim7 := { stood := { row := civilTextsUptoRow, standIns := [], harness := (true, "a46c0db0f743c2a9835ad43eacbdce2141252b5b7991e93e003219324c7f46f6"), looks := false }, kinds := [], alts := [], laidByText := true, laidKinds := [.data, .data, .data], laidTests := true, laidLooks := .later }
def CivilTextsUptoCardSaid : Prop := Claim7.holds Tryd.pinned (.plain (OpenSpec.upto civilTextsSpec)) civilTextsUptoCard

/-- THE SECOND FORM's CARD OF 'horologelaw15.CivilBack'. -/
def civilBackUptoCard : Claim7 := { stood := { row := civilBackUptoRow, standIns := [], harness := (true, "a46c0db0f743c2a9835ad43eacbdce2141252b5b7991e93e003219324c7f46f6"), looks := false }, kinds := [], alts := [], laidByText := true, laidKinds := [.data, .data, .data], laidTests := true, laidLooks := .later }
def CivilBackUptoCardSaid : Prop := Claim7.holds Tryd.pinned (.plain (OpenSpec.upto civilBackSpec)) civilBackUptoCard
end Rows
end Go.Proofs.YtioplplpiaalhaaDoor
