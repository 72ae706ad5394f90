/-
  DERIVED. GIVEN WITH THE SEED: THE CARDS: each row of YtkgbphheppfnaaaDoorRows.lean that lists a variable, with what it lists TIED to the program's text (the seventh form; the later family's looks); each row that meets fmt, with fmt's text TOLD by the authors' own Lean function (tested against real Go, not proved from fmt's source: count such statements apart). THE CARD IS WHAT COUNTS. Prove the row's statement (the work); the ties are given (YtkgbphheppfnaaaDoorTie.lean); close each card by the builder's one call (the guide's Derived/Test/ToyasCard.lean, 'card_holds'). Laid BY PROGRAM, IN A SANDBOX (cutbox-door.mjs). By AI agents, Wed Nov 11 2026. No macro, syntax, notation, axiom, sorry.
-/
import Derived.Test.YtkgbphheppfnaaaDoorRows
import GoSem.ClaimSeven
namespace Go.Proofs.YtkgbphheppfnaaaDoor
namespace Rows

/-- THE TIED CARD OF 'horologelaw17.ConfigChecks'. -/
def configChecksCard : Claim7 := { stood := { row := configChecksRow, standIns := [], harness := (true, "b815f9b2eaebf131159a8f40a004a9189cdd1ee58a383ce3981fc1b5cdd0ab14"), looks := true }, kinds := [], alts := [], laidByText := true, laidKinds := [.data, .data, .data, .data, .sentinel, .sentinel, .pinned], laidTests := true, laidLooks := .later }
def ConfigChecksCardSaid : Prop := Claim7.holds Tryd.pinned (.plain (OpenSpec.ofChange configChecksSpec)) configChecksCard

/-- THE TIED CARD OF 'horologelaw17.ConfigBack'. -/
def configBackCard : Claim7 := { stood := { row := configBackRow, standIns := [], harness := (true, "b815f9b2eaebf131159a8f40a004a9189cdd1ee58a383ce3981fc1b5cdd0ab14"), looks := true }, kinds := [], alts := [], laidByText := true, laidKinds := [.data, .data, .data, .data, .sentinel, .sentinel, .pinned], laidTests := true, laidLooks := .later }
def ConfigBackCardSaid : Prop := Claim7.holds Tryd.pinned (.plain (OpenSpec.ofChange configBackSpec)) configBackCard

/-- THE TIED CARD OF 'horologelaw17.ConfigLines'. -/
def configLinesCard : Claim7 := { stood := { row := configLinesRow, standIns := [], harness := (true, "b815f9b2eaebf131159a8f40a004a9189cdd1ee58a383ce3981fc1b5cdd0ab14"), looks := true }, kinds := [], alts := [], laidByText := true, laidKinds := [.data, .data, .data, .data, .sentinel, .sentinel, .pinned], laidTests := true, laidLooks := .later }
def ConfigLinesCardSaid : Prop := Claim7.holds Tryd.pinned (.plain (OpenSpec.ofChange configLinesSpec)) configLinesCard

/-- THE TIED CARD OF 'horologelaw17.ConfigUnlike'. -/
def configUnlikeCard : Claim7 := { stood := { row := configUnlikeRow, standIns := [], harness := (true, "b815f9b2eaebf131159a8f40a004a9189cdd1ee58a383ce3981fc1b5cdd0ab14"), looks := true }, kinds := [], alts := [], laidByText := true, laidKinds := [.data, .data, .data, .data, .sentinel, .sentinel, .pinned], laidTests := true, laidLooks := .later }
def ConfigUnlikeCardSaid : Prop := Claim7.holds Tryd.pinned (.plain (OpenSpec.ofChange configUnlikeSpec)) configUnlikeCard

/-- THE SECOND FORM's CARD OF 'horologelaw17.ConfigChecks'. -/
def configChecksUptoCard : Claim7 := { stood := { row := configChecksUptoRow, standIns := [], harness := (true, "b815f9b2eaebf131159a8f40a004a9189cdd1ee58a383ce3981fc1b5cdd0ab14"), looks := true }, kinds := [], alts := [], laidByText := true, laidKinds := [.data, .data, .data, .data, .sentinel, .sentinel, .pinned], laidTests := true, laidLooks := .later }
def ConfigChecksUptoCardSaid : Prop := Claim7.holds Tryd.pinned (.plain (OpenSpec.upto configChecksSpec)) configChecksUptoCard

/-- THE SECOND FORM's CARD OF 'horologelaw17.ConfigBack'. -/
def configBackUptoCard : Claim7 := { stood := { row := configBackUptoRow, standIns := [], harness := (true, "b815f9b2eaebf131159a8f40a004a9189cdd1ee58a383ce3981fc1b5cdd0ab14"), looks := true }, kinds := [], alts := [], laidByText := true, laidKinds := [.data, .data, .data, .data, .sentinel, .sentinel, .pinned], laidTests := true, laidLooks := .later }
def ConfigBackUptoCardSaid : Prop := Claim7.holds Tryd.pinned (.plain (OpenSpec.upto configBackSpec)) configBackUptoCard

/-- THE SECOND FORM's CARD OF 'horologelaw17.ConfigLines'. -/
def configLinesUptoCard : Claim7 := { stood := { row := configLinesUptoRow, standIns := [], harness := (true, "b815f9b2eaebf131159a8f40a004a9189cdd1ee58a383ce3981fc1b5cdd0ab14"), looks := true }, kinds := [], alts := [], laidByText := true, laidKinds := [.data, .data, .data, .data, .sentinel, .sentinel, .pinned], laidTests := true, laidLooks := .later }
def ConfigLinesUptoCardSaid : Prop := Claim7.holds Tryd.pinned (.plain (OpenSpec.upto configLinesSpec)) configLinesUptoCard

/-- THE SECOND FORM's CARD OF 'horologelaw17.ConfigUnlike'. -/
def configUnlikeUptoCard : Claim7 := { stood := { row := configUnlikeUptoRow, standIns := [], harness := (true, "b815f9b2eaebf131159a8f40a004a9189cdd1ee58a383ce3981fc1b5cdd0ab14"), looks := true }, kinds := [], alts := [], laidByText := true, laidKinds := [.data, .data, .data, .data, .sentinel, .sentinel, .pinned], laidTests := true, laidLooks := .later }
def ConfigUnlikeUptoCardSaid : Prop := Claim7.holds Tryd.pinned (.plain (OpenSpec.upto configUnlikeSpec)) configUnlikeUptoCard
end Rows
end Go.Proofs.YtkgbphheppfnaaaDoor
