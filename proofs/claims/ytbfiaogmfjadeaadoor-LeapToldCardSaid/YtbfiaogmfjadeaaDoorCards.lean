/-
  DERIVED. GIVEN WITH THE SEED: THE CARDS: each row of YtbfiaogmfjadeaaDoorRows.lean that lists a variable, with what it lists TIED to the program's text (the seventh form; the later family's looks); each row that meets fmt, with fmt's text TOLD by the authors' own Lean function (tested against real Go, not proved from fmt's source: count such statements apart). THE CARD IS WHAT COUNTS. Prove the row's statement (the work); the ties are given (YtbfiaogmfjadeaaDoorTie.lean); close each card by the builder's one call (the guide's Derived/Test/ToyasCard.lean, 'card_holds'). Laid BY PROGRAM, IN A SANDBOX (cutbox-door.mjs). By AI agents, Wed Nov 11 2026. No macro, syntax, notation, axiom, sorry.
-/
import Derived.Test.YtbfiaogmfjadeaaDoorRows
import GoSem.ClaimSeven
namespace Go.Proofs.YtbfiaogmfjadeaaDoor
namespace Rows

/-- THE TIED CARD OF 'horologelaw16.LeapTables'. -/
def leapTablesCard : Claim7 := { stood := { row := leapTablesRow, standIns := [], harness := (true, "1347cad621257ad6841246381f7303dd4d12ce5586b07aacb04d76a71a032a51"), looks := false }, kinds := [], alts := [], laidByText := true, laidKinds := [.data, .data, .data], laidTests := true, laidLooks := .later }
def LeapTablesCardSaid : Prop := Claim7.holds Tryd.pinned (.plain (OpenSpec.ofChange leapTablesSpec)) leapTablesCard

/-- THE TIED CARD OF 'horologelaw16.LeapOnce'. -/
def leapOnceCard : Claim7 := { stood := { row := leapOnceRow, standIns := [], harness := (true, "1347cad621257ad6841246381f7303dd4d12ce5586b07aacb04d76a71a032a51"), looks := false }, kinds := [], alts := [], laidByText := true, laidKinds := [.data, .data, .data], laidTests := true, laidLooks := .later }
def LeapOnceCardSaid : Prop := Claim7.holds Tryd.pinned (.plain (OpenSpec.ofChange leapOnceSpec)) leapOnceCard

/-- THE TIED CARD OF 'horologelaw16.LeapNone'. -/
def leapNoneCard : Claim7 := { stood := { row := leapNoneRow, standIns := [], harness := (true, "1347cad621257ad6841246381f7303dd4d12ce5586b07aacb04d76a71a032a51"), looks := false }, kinds := [], alts := [], laidByText := true, laidKinds := [.data, .data, .data], laidTests := true, laidLooks := .later }
def LeapNoneCardSaid : Prop := Claim7.holds Tryd.pinned (.plain (OpenSpec.ofChange leapNoneSpec)) leapNoneCard

/-- THE TIED CARD OF 'horologelaw16.LeapMany'. -/
def leapManyCard : Claim7 := { stood := { row := leapManyRow, standIns := [], harness := (true, "1347cad621257ad6841246381f7303dd4d12ce5586b07aacb04d76a71a032a51"), looks := false }, kinds := [], alts := [], laidByText := true, laidKinds := [.data, .data, .data], laidTests := true, laidLooks := .later }
def LeapManyCardSaid : Prop := Claim7.holds Tryd.pinned (.plain (OpenSpec.ofChange leapManySpec)) leapManyCard

/-- THE TIED CARD OF 'horologelaw16.LeapTimes'. -/
def leapTimesCard : Claim7 := { stood := { row := leapTimesRow, standIns := [], harness := (true, "1347cad621257ad6841246381f7303dd4d12ce5586b07aacb04d76a71a032a51"), looks := false }, kinds := [], alts := [], laidByText := true, laidKinds := [.data, .data, .data], laidTests := true, laidLooks := .later }
def LeapTimesCardSaid : Prop := Claim7.holds Tryd.pinned (.plain (OpenSpec.ofChange leapTimesSpec)) leapTimesCard

/-- THE TIED CARD OF 'horologelaw16.LeapGoes'. -/
def leapGoesCard : Claim7 := { stood := { row := leapGoesRow, standIns := [], harness := (true, "1347cad621257ad6841246381f7303dd4d12ce5586b07aacb04d76a71a032a51"), looks := false }, kinds := [], alts := [], laidByText := true, laidKinds := [.data, .data, .data], laidTests := true, laidLooks := .later }
def LeapGoesCardSaid : Prop := Claim7.holds Tryd.pinned (.plain (OpenSpec.ofChange leapGoesSpec)) leapGoesCard

/-- THE TIED CARD OF 'horologelaw16.LeapBy'. -/
def leapByCard : Claim7 := { stood := { row := leapByRow, standIns := [], harness := (true, "1347cad621257ad6841246381f7303dd4d12ce5586b07aacb04d76a71a032a51"), looks := false }, kinds := [], alts := [], laidByText := true, laidKinds := [.data, .data, .data], laidTests := true, laidLooks := .later }
def LeapByCardSaid : Prop := Claim7.holds Tryd.pinned (.plain (OpenSpec.ofChange leapBySpec)) leapByCard

/-- THE TIED CARD OF 'horologelaw16.LeapTold'. -/
def leapToldCard : Claim7 := { stood := { row := leapToldRow, standIns := [], harness := (true, "1347cad621257ad6841246381f7303dd4d12ce5586b07aacb04d76a71a032a51"), looks := false }, kinds := [], alts := [], laidByText := true, laidKinds := [.data, .data, .data], laidTests := true, laidLooks := .later }
def LeapToldCardSaid : Prop := Claim7.holds Tryd.pinned (.plain (OpenSpec.ofChange leapToldSpec)) leapToldCard

/-- THE SECOND FORM's CARD OF 'horologelaw16.LeapTables'. -/
def leapTablesUptoCard : Claim7 := { stood := { row := leapTablesUptoRow, standIns := [], harness := (true, "1347cad621257ad6841246381f7303dd4d12ce5586b07aacb04d76a71a032a51"), looks := false }, kinds := [], alts := [], laidByText := true, laidKinds := [.data, .data, .data], laidTests := true, laidLooks := .later }
def LeapTablesUptoCardSaid : Prop := Claim7.holds Tryd.pinned (.plain (OpenSpec.upto leapTablesSpec)) leapTablesUptoCard

/-- THE SECOND FORM's CARD OF 'horologelaw16.LeapOnce'. -/
def leapOnceUptoCard : Claim7 := { stood := { row := leapOnceUptoRow, standIns := [], harness := (true, "1347cad621257ad6841246381f7303dd4d12ce5586b07aacb04d76a71a032a51"), looks := false }, kinds := [], alts := [], laidByText := true, laidKinds := [.data, .data, .data], laidTests := true, laidLooks := .later }
def LeapOnceUptoCardSaid : Prop := Claim7.holds Tryd.pinned (.plain (OpenSpec.upto leapOnceSpec)) leapOnceUptoCard

/-- THE SECOND FORM's CARD OF 'horologelaw16.LeapNone'. -/
def leapNoneUptoCard : Claim7 := { stood := { row := leapNoneUptoRow, standIns := [], harness := (true, "1347cad621257ad6841246381f7303dd4d12ce5586b07aacb04d76a71a032a51"), looks := false }, kinds := [], alts := [], laidByText := true, laidKinds := [.data, .data, .data], laidTests := true, laidLooks := .later }
def LeapNoneUptoCardSaid : Prop := Claim7.holds Tryd.pinned (.plain (OpenSpec.upto leapNoneSpec)) leapNoneUptoCard

/-- THE SECOND FORM's CARD OF 'horologelaw16.LeapMany'. -/
def leapManyUptoCard : Claim7 := { stood := { row := leapManyUptoRow, standIns := [], harness := (true, "1347cad621257ad6841246381f7303dd4d12ce5586b07aacb04d76a71a032a51"), looks := false }, kinds := [], alts := [], laidByText := true, laidKinds := [.data, .data, .data], laidTests := true, laidLooks := .later }
def LeapManyUptoCardSaid : Prop := Claim7.holds Tryd.pinned (.plain (OpenSpec.upto leapManySpec)) leapManyUptoCard

/-- THE SECOND FORM's CARD OF 'horologelaw16.LeapTimes'. -/
def leapTimesUptoCard : Claim7 := { stood := { row := leapTimesUptoRow, standIns := [], harness := (true, "1347cad621257ad6841246381f7303dd4d12ce5586b07aacb04d76a71a032a51"), looks := false }, kinds := [], alts := [], laidByText := true, laidKinds := [.data, .data, .data], laidTests := true, laidLooks := .later }
def LeapTimesUptoCardSaid : Prop := Claim7.holds Tryd.pinned (.plain (OpenSpec.upto leapTimesSpec)) leapTimesUptoCard

/-- THE SECOND FORM's CARD OF 'horologelaw16.LeapGoes'. -/
def leapGoesUptoCard : Claim7 := { stood := { row := leapGoesUptoRow, standIns := [], harness := (true, "1347cad621257ad6841246381f7303dd4d12ce5586b07aacb04d76a71a032a51"), looks := false }, kinds := [], alts := [], laidByText := true, laidKinds := [.data, .data, .data], laidTests := true, laidLooks := .later }
def LeapGoesUptoCardSaid : Prop := Claim7.holds Tryd.pinned (.plain (OpenSpec.upto leapGoesSpec)) leapGoesUptoCard

/-- THE SECOND FORM's CARD OF 'horologelaw16.LeapBy'. -/
def leapByUptoCard : Claim7 := { stood := { row := leapByUptoRow, standIns := [], harness := (true, "1347cad621257ad6841246381f7303dd4d12ce5586b07aacb04d76a71a032a51"), looks := false }, kinds := [], alts := [], laidByText := true, laidKinds := [.data, .data, .data], laidTests := true, laidLooks := .later }
def LeapByUptoCardSaid : Prop := Claim7.holds Tryd.pinned (.plain (OpenSpec.upto leapBySpec)) leapByUptoCard

/-- THE SECOND FORM's CARD OF 'horologelaw16.LeapTold'. -/
def leapToldUptoCard : Claim7 := { stood := { row := leapToldUptoRow, standIns := [], harness := (true, "1347cad621257ad6841246381f7303dd4d12ce5586b07aacb04d76a71a032a51"), looks := false }, kinds := [], alts := [], laidByText := true, laidKinds := [.data, .data, .data], laidTests := true, laidLooks := .later }
def LeapToldUptoCardSaid : Prop := Claim7.holds Tryd.pinned (.plain (OpenSpec.upto leapToldSpec)) leapToldUptoCard
end Rows
end Go.Proofs.YtbfiaogmfjadeaaDoor
