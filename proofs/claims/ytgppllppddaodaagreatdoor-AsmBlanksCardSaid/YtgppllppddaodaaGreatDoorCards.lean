/-
  DERIVED. GIVEN WITH THE SEED: THE CARDS: each row of YtgppllppddaodaaGreatDoorRows.lean that lists a variable, with what it lists TIED to the program's text (the seventh form; the later family's looks); each row that meets fmt, with fmt's text TOLD by the authors' own Lean function (tested against real Go, not proved from fmt's source: count such statements apart). THE CARD IS WHAT COUNTS. Prove the row's statement (the work); the ties are given (YtgppllppddaodaaGreatDoorTie.lean); close each card by the builder's one call (the guide's Derived/Test/ToyasCard.lean, 'card_holds'). Laid BY PROGRAM, IN A SANDBOX (cutbox-door.mjs). By AI agents, Wed Nov 11 2026. No macro, syntax, notation, axiom, sorry.
-/
import Derived.Test.YtgppllppddaodaaGreatDoorRows
import GoSem.ClaimSeven
namespace Go.Proofs.YtgppllppddaodaaGreatDoor
namespace Rows

/-- THE TIED CARD OF 'viceroylaw06.AsmBack'. -/
def asmBackCard : Claim7 := { stood := { row := asmBackRow, standIns := [], harness := (true, "7bda7c2dd6c37124d394c9cbf08684422e610034f966cee01bb41002ddf7c019"), looks := true }, kinds := [], alts := [], laidByText := true, laidKinds := [.data, .data, .data, .data, .sentinel, .sentinel, .pinned], laidTests := true, laidLooks := .later }
def AsmBackCardSaid : Prop := Claim7.holds Tryz.pinned (.plain (OpenSpec.ofChange asmBackSpec)) asmBackCard

/-- THE TIED CARD OF 'viceroylaw06.AsmBlanks'. -/
def asmBlanksCard : Claim7 := { stood := { row := asmBlanksRow, standIns := [], harness := (true, "7bda7c2dd6c37124d394c9cbf08684422e610034f966cee01bb41002ddf7c019"), looks := true }, kinds := [], alts := [], laidByText := true, laidKinds := [.data, .data, .data, .data, .sentinel, .sentinel, .pinned], laidTests := true, laidLooks := .later }
def AsmBlanksCardSaid : Prop := Claim7.holds Tryz.pinned (.plain (OpenSpec.ofChange asmBlanksSpec)) asmBlanksCard

/-- THE TIED CARD OF 'viceroylaw06.AsmJoins'. -/
def asmJoinsCard : Claim7 := { stood := { row := asmJoinsRow, standIns := [], harness := (true, "7bda7c2dd6c37124d394c9cbf08684422e610034f966cee01bb41002ddf7c019"), looks := true }, kinds := [], alts := [], laidByText := true, laidKinds := [.data, .data, .data, .data, .sentinel, .sentinel, .pinned], laidTests := true, laidLooks := .later }
def AsmJoinsCardSaid : Prop := Claim7.holds Tryz.pinned (.plain (OpenSpec.ofChange asmJoinsSpec)) asmJoinsCard

/-- THE TIED CARD OF 'viceroylaw06.AsmLabels'. -/
def asmLabelsCard : Claim7 := { stood := { row := asmLabelsRow, standIns := [], harness := (true, "7bda7c2dd6c37124d394c9cbf08684422e610034f966cee01bb41002ddf7c019"), looks := true }, kinds := [], alts := [], laidByText := true, laidKinds := [.data, .data, .data, .data, .sentinel, .sentinel, .pinned], laidTests := true, laidLooks := .later }
def AsmLabelsCardSaid : Prop := Claim7.holds Tryz.pinned (.plain (OpenSpec.ofChange asmLabelsSpec)) asmLabelsCard

/-- THE TIED CARD OF 'viceroylaw06.AsmBase'. -/
def asmBaseCard : Claim7 := { stood := { row := asmBaseRow, standIns := [], harness := (true, "7bda7c2dd6c37124d394c9cbf08684422e610034f966cee01bb41002ddf7c019"), looks := true }, kinds := [], alts := [], laidByText := true, laidKinds := [.data, .data, .data, .data, .sentinel, .sentinel, .pinned], laidTests := true, laidLooks := .later }
def AsmBaseCardSaid : Prop := Claim7.holds Tryz.pinned (.plain (OpenSpec.ofChange asmBaseSpec)) asmBaseCard

/-- THE TIED CARD OF 'viceroylaw06.AsmFirst'. -/
def asmFirstCard : Claim7 := { stood := { row := asmFirstRow, standIns := [], harness := (true, "7bda7c2dd6c37124d394c9cbf08684422e610034f966cee01bb41002ddf7c019"), looks := true }, kinds := [], alts := [], laidByText := true, laidKinds := [.data, .data, .data, .data, .sentinel, .sentinel, .pinned], laidTests := true, laidLooks := .later }
def AsmFirstCardSaid : Prop := Claim7.holds Tryz.pinned (.plain (OpenSpec.ofChange asmFirstSpec)) asmFirstCard

/-- THE TIED CARD OF 'viceroylaw06.AsmTwice'. -/
def asmTwiceCard : Claim7 := { stood := { row := asmTwiceRow, standIns := [], harness := (true, "7bda7c2dd6c37124d394c9cbf08684422e610034f966cee01bb41002ddf7c019"), looks := true }, kinds := [], alts := [], laidByText := true, laidKinds := [.data, .data, .data, .data, .sentinel, .sentinel, .pinned], laidTests := true, laidLooks := .later }
def AsmTwiceCardSaid : Prop := Claim7.holds Tryz.pinned (.plain (OpenSpec.ofChange asmTwiceSpec)) asmTwiceCard

/-- THE SECOND FORM's CARD OF 'viceroylaw06.AsmBack'. -/
def asmBackUptoCard : Claim7 := { stood := { row := asmBackUptoRow, standIns := [], harness := (true, "7bda7c2dd6c37124d394c9cbf08684422e610034f966cee01bb41002ddf7c019"), looks := true }, kinds := [], alts := [], laidByText := true, laidKinds := [.data, .data, .data, .data, .sentinel, .sentinel, .pinned], laidTests := true, laidLooks := .later }
def AsmBackUptoCardSaid : Prop := Claim7.holds Tryz.pinned (.plain (OpenSpec.upto asmBackSpec)) asmBackUptoCard

/-- THE SECOND FORM's CARD OF 'viceroylaw06.AsmBlanks'. -/
def asmBlanksUptoCard : Claim7 := { stood := { row := asmBlanksUptoRow, standIns := [], harness := (true, "7bda7c2dd6c37124d394c9cbf08684422e610034f966cee01bb41002ddf7c019"), looks := true }, kinds := [], alts := [], laidByText := true, laidKinds := [.data, .data, .data, .data, .sentinel, .sentinel, .pinned], laidTests := true, laidLooks := .later }
def AsmBlanksUptoCardSaid : Prop := Claim7.holds Tryz.pinned (.plain (OpenSpec.upto asmBlanksSpec)) asmBlanksUptoCard

/-- THE SECOND FORM's CARD OF 'viceroylaw06.AsmJoins'. -/
def asmJoinsUptoCard : Claim7 := { stood := { row := asmJoinsUptoRow, standIns := [], harness := (true, "7bda7c2dd6c37124d394c9cbf08684422e610034f966cee01bb41002ddf7c019"), looks := true }, kinds := [], alts := [], laidByText := true, laidKinds := [.data, .data, .data, .data, .sentinel, .sentinel, .pinned], laidTests := true, laidLooks := .later }
def AsmJoinsUptoCardSaid : Prop := Claim7.holds Tryz.pinned (.plain (OpenSpec.upto asmJoinsSpec)) asmJoinsUptoCard

/-- THE SECOND FORM's CARD OF 'viceroylaw06.AsmLabels'. -/
def asmLabelsUptoCard : Claim7 := { stood := { row := asmLabelsUptoRow, standIns := [], harness := (true, "7bda7c2dd6c37124d394c9cbf08684422e610034f966cee01bb41002ddf7c019"), looks := true }, kinds := [], alts := [], laidByText := true, laidKinds := [.data, .data, .data, .data, .sentinel, .sentinel, .pinned], laidTests := true, laidLooks := .later }
def AsmLabelsUptoCardSaid : Prop := Claim7.holds Tryz.pinned (.plain (OpenSpec.upto asmLabelsSpec)) asmLabelsUptoCard

/-- THE SECOND FORM's CARD OF 'viceroylaw06.AsmBase'. -/
def asmBaseUptoCard : Claim7 := { stood := { row := asmBaseUptoRow, standIns := [], harness := (true, "7bda7c2dd6c37124d394c9cbf08684422e610034f966cee01bb41002ddf7c019"), looks := true }, kinds := [], alts := [], laidByText := true, laidKinds := [.data, .data, .data, .data, .sentinel, .sentinel, .pinned], laidTests := true, laidLooks := .later }
def AsmBaseUptoCardSaid : Prop := Claim7.holds Tryz.pinned (.plain (OpenSpec.upto asmBaseSpec)) asmBaseUptoCard

/-- THE SECOND FORM's CARD OF 'viceroylaw06.AsmFirst'. -/
def asmFirstUptoCard : Claim7 := { stood := { row := asmFirstUptoRow, standIns := [], harness := (true, "7bda7c2dd6c37124d394c9cbf08684422e610034f966cee01bb41002ddf7c019"), looks := true }, kinds := [], alts := [], laidByText := true, laidKinds := [.data, .data, .data, .data, .sentinel, .sentinel, .pinned], laidTests := true, laidLooks := .later }
def AsmFirstUptoCardSaid : Prop := Claim7.holds Tryz.pinned (.plain (OpenSpec.upto asmFirstSpec)) asmFirstUptoCard

/-- THE SECOND FORM's CARD OF 'viceroylaw06.AsmTwice'. -/
def asmTwiceUptoCard : Claim7 := { stood := { row := asmTwiceUptoRow, standIns := [], harness := (true, "7bda7c2dd6c37124d394c9cbf08684422e610034f966cee01bb41002ddf7c019"), looks := true }, kinds := [], alts := [], laidByText := true, laidKinds := [.data, .data, .data, .data, .sentinel, .sentinel, .pinned], laidTests := true, laidLooks := .later }
def AsmTwiceUptoCardSaid : Prop := Claim7.holds Tryz.pinned (.plain (OpenSpec.upto asmTwiceSpec)) asmTwiceUptoCard
end Rows
end Go.Proofs.YtgppllppddaodaaGreatDoor
