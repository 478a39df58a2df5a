/-
  DERIVED. GIVEN WITH THE SEED: THE CARDS: each row of YtbdidnjdccpgaaaGreatDoorRows.lean that lists a variable, with what it lists TIED to the program's text (the seventh form; the later family's looks); each row that meets fmt, with fmt's text TOLD by the authors' own Lean function (tested against real Go, not proved from fmt's source: count such statements apart). THE CARD IS WHAT COUNTS. Prove the row's statement (the work); the ties are given (YtbdidnjdccpgaaaGreatDoorTie.lean); close each card by the builder's one call (the guide's Derived/Test/ToyasCard.lean, 'card_holds'). Laid BY PROGRAM, IN A SANDBOX (cutbox-door.mjs). By AI agents, Wed Nov 11 2026. No macro, syntax, notation, axiom, sorry.
-/
import Derived.Test.YtbdidnjdccpgaaaGreatDoorRows
import GoSem.ClaimSeven
namespace Go.Proofs.YtbdidnjdccpgaaaGreatDoor
namespace Rows

/-- THE TIED CARD OF 'dasdlaw33.EntryForms'. -/
def entryFormsCard : Claim7 := { stood := { row := entryFormsRow, standIns := [], harness := (true, "fb8ac68952d06e6e3cea92e189879f1c09de7e3f4a0c2c4aa17509adbeee771c"), looks := false }, kinds := [], alts := [], laidByText := true, laidKinds := [.data, .data, .data, .data, .pinned], laidTests := true, laidLooks := .later }
def EntryFormsCardSaid : Prop := Claim7.holds Tryz.pinned (.plain (OpenSpec.ofChange entryFormsSpec)) entryFormsCard

/-- THE TIED CARD OF 'dasdlaw33.EntryRecords'. -/
def entryRecordsCard : Claim7 := { stood := { row := entryRecordsRow, standIns := [], harness := (true, "fb8ac68952d06e6e3cea92e189879f1c09de7e3f4a0c2c4aa17509adbeee771c"), looks := false }, kinds := [], alts := [], laidByText := true, laidKinds := [.data, .data, .data, .data, .pinned], laidTests := true, laidLooks := .later }
def EntryRecordsCardSaid : Prop := Claim7.holds Tryz.pinned (.plain (OpenSpec.ofChange entryRecordsSpec)) entryRecordsCard

/-- THE TIED CARD OF 'dasdlaw33.EntryDecodes'. -/
def entryDecodesCard : Claim7 := { stood := { row := entryDecodesRow, standIns := [], harness := (true, "fb8ac68952d06e6e3cea92e189879f1c09de7e3f4a0c2c4aa17509adbeee771c"), looks := false }, kinds := [], alts := [], laidByText := true, laidKinds := [.data, .data, .data, .data, .pinned], laidTests := true, laidLooks := .later }
def EntryDecodesCardSaid : Prop := Claim7.holds Tryz.pinned (.plain (OpenSpec.ofChange entryDecodesSpec)) entryDecodesCard

/-- THE TIED CARD OF 'dasdlaw34.AccessLevels'. -/
def accessLevelsCard : Claim7 := { stood := { row := accessLevelsRow, standIns := [], harness := (true, "fb8ac68952d06e6e3cea92e189879f1c09de7e3f4a0c2c4aa17509adbeee771c"), looks := false }, kinds := [], alts := [], laidByText := true, laidKinds := [.data, .data, .data, .data, .pinned], laidTests := true, laidLooks := .later }
def AccessLevelsCardSaid : Prop := Claim7.holds Tryz.pinned (.plain (OpenSpec.ofChange accessLevelsSpec)) accessLevelsCard

/-- THE TIED CARD OF 'dasdlaw34.AccessNeeds'. -/
def accessNeedsCard : Claim7 := { stood := { row := accessNeedsRow, standIns := [], harness := (true, "fb8ac68952d06e6e3cea92e189879f1c09de7e3f4a0c2c4aa17509adbeee771c"), looks := false }, kinds := [], alts := [], laidByText := true, laidKinds := [.data, .data, .data, .data, .pinned], laidTests := true, laidLooks := .later }
def AccessNeedsCardSaid : Prop := Claim7.holds Tryz.pinned (.plain (OpenSpec.ofChange accessNeedsSpec)) accessNeedsCard

/-- THE TIED CARD OF 'dasdlaw34.AccessSpecific'. -/
def accessSpecificCard : Claim7 := { stood := { row := accessSpecificRow, standIns := [], harness := (true, "fb8ac68952d06e6e3cea92e189879f1c09de7e3f4a0c2c4aa17509adbeee771c"), looks := false }, kinds := [], alts := [], laidByText := true, laidKinds := [.data, .data, .data, .data, .pinned], laidTests := true, laidLooks := .later }
def AccessSpecificCardSaid : Prop := Claim7.holds Tryz.pinned (.plain (OpenSpec.ofChange accessSpecificSpec)) accessSpecificCard

/-- THE TIED CARD OF 'dasdlaw34.AccessPersons'. -/
def accessPersonsCard : Claim7 := { stood := { row := accessPersonsRow, standIns := [], harness := (true, "fb8ac68952d06e6e3cea92e189879f1c09de7e3f4a0c2c4aa17509adbeee771c"), looks := false }, kinds := [], alts := [], laidByText := true, laidKinds := [.data, .data, .data, .data, .pinned], laidTests := true, laidLooks := .later }
def AccessPersonsCardSaid : Prop := Claim7.holds Tryz.pinned (.plain (OpenSpec.ofChange accessPersonsSpec)) accessPersonsCard

/-- THE TIED CARD OF 'dasdlaw34.AccessChecks'. -/
def accessChecksCard : Claim7 := { stood := { row := accessChecksRow, standIns := [], harness := (true, "fb8ac68952d06e6e3cea92e189879f1c09de7e3f4a0c2c4aa17509adbeee771c"), looks := false }, kinds := [], alts := [], laidByText := true, laidKinds := [.data, .data, .data, .data, .pinned], laidTests := true, laidLooks := .later }
def AccessChecksCardSaid : Prop := Claim7.holds Tryz.pinned (.plain (OpenSpec.ofChange accessChecksSpec)) accessChecksCard

/-- THE TIED CARD OF 'dasdlaw34.AccessErrors'. -/
def accessErrorsCard : Claim7 := { stood := { row := accessErrorsRow, standIns := [], harness := (true, "fb8ac68952d06e6e3cea92e189879f1c09de7e3f4a0c2c4aa17509adbeee771c"), looks := false }, kinds := [], alts := [], laidByText := true, laidKinds := [.data, .data, .data, .data, .pinned], laidTests := true, laidLooks := .later }
def AccessErrorsCardSaid : Prop := Claim7.holds Tryz.pinned (.plain (OpenSpec.ofChange accessErrorsSpec)) accessErrorsCard

/-- THE TIED CARD OF 'dasdlaw37.RebuildNotes'. -/
def rebuildNotesCard : Claim7 := { stood := { row := rebuildNotesRow, standIns := [], harness := (true, "fb8ac68952d06e6e3cea92e189879f1c09de7e3f4a0c2c4aa17509adbeee771c"), looks := false }, kinds := [], alts := [], laidByText := true, laidKinds := [.data, .data, .data, .data, .pinned], laidTests := true, laidLooks := .later }
def RebuildNotesCardSaid : Prop := Claim7.holds Tryz.pinned (.plain (OpenSpec.ofChange rebuildNotesSpec)) rebuildNotesCard

/-- THE TIED CARD OF 'dasdlaw37.RebuildReturns'. -/
def rebuildReturnsCard : Claim7 := { stood := { row := rebuildReturnsRow, standIns := [], harness := (true, "fb8ac68952d06e6e3cea92e189879f1c09de7e3f4a0c2c4aa17509adbeee771c"), looks := false }, kinds := [], alts := [], laidByText := true, laidKinds := [.data, .data, .data, .data, .pinned], laidTests := true, laidLooks := .later }
def RebuildReturnsCardSaid : Prop := Claim7.holds Tryz.pinned (.plain (OpenSpec.ofChange rebuildReturnsSpec)) rebuildReturnsCard

/-- THE SECOND FORM's CARD OF 'dasdlaw33.EntryForms'. -/
def entryFormsUptoCard : Claim7 := { stood := { row := entryFormsUptoRow, standIns := [], harness := (true, "fb8ac68952d06e6e3cea92e189879f1c09de7e3f4a0c2c4aa17509adbeee771c"), looks := false }, kinds := [], alts := [], laidByText := true, laidKinds := [.data, .data, .data, .data, .pinned], laidTests := true, laidLooks := .later }
def EntryFormsUptoCardSaid : Prop := Claim7.holds Tryz.pinned (.plain (OpenSpec.upto entryFormsSpec)) entryFormsUptoCard

/-- THE SECOND FORM's CARD OF 'dasdlaw33.EntryRecords'. -/
def entryRecordsUptoCard : Claim7 := { stood := { row := entryRecordsUptoRow, standIns := [], harness := (true, "fb8ac68952d06e6e3cea92e189879f1c09de7e3f4a0c2c4aa17509adbeee771c"), looks := false }, kinds := [], alts := [], laidByText := true, laidKinds := [.data, .data, .data, .data, .pinned], laidTests := true, laidLooks := .later }
def EntryRecordsUptoCardSaid : Prop := Claim7.holds Tryz.pinned (.plain (OpenSpec.upto entryRecordsSpec)) entryRecordsUptoCard

/-- THE SECOND FORM's CARD OF 'dasdlaw33.EntryDecodes'. -/
def entryDecodesUptoCard : Claim7 := { stood := { row := entryDecodesUptoRow, standIns := [], harness := (true, "fb8ac68952d06e6e3cea92e189879f1c09de7e3f4a0c2c4aa17509adbeee771c"), looks := false }, kinds := [], alts := [], laidByText := true, laidKinds := [.data, .data, .data, .data, .pinned], laidTests := true, laidLooks := .later }
def EntryDecodesUptoCardSaid : Prop := Claim7.holds Tryz.pinned (.plain (OpenSpec.upto entryDecodesSpec)) entryDecodesUptoCard

/-- THE SECOND FORM's CARD OF 'dasdlaw34.AccessLevels'. -/
def accessLevelsUptoCard : Claim7 := { stood := { row := accessLevelsUptoRow, standIns := [], harness := (true, "fb8ac68952d06e6e3cea92e189879f1c09de7e3f4a0c2c4aa17509adbeee771c"), looks := false }, kinds := [], alts := [], laidByText := true, laidKinds := [.data, .data, .data, .data, .pinned], laidTests := true, laidLooks := .later }
def AccessLevelsUptoCardSaid : Prop := Claim7.holds Tryz.pinned (.plain (OpenSpec.upto accessLevelsSpec)) accessLevelsUptoCard

/-- THE SECOND FORM's CARD OF 'dasdlaw34.AccessNeeds'. -/
def accessNeedsUptoCard : Claim7 := { stood := { row := accessNeedsUptoRow, standIns := [], harness := (true, "fb8ac68952d06e6e3cea92e189879f1c09de7e3f4a0c2c4aa17509adbeee771c"), looks := false }, kinds := [], alts := [], laidByText := true, laidKinds := [.data, .data, .data, .data, .pinned], laidTests := true, laidLooks := .later }
def AccessNeedsUptoCardSaid : Prop := Claim7.holds Tryz.pinned (.plain (OpenSpec.upto accessNeedsSpec)) accessNeedsUptoCard

/-- THE SECOND FORM's CARD OF 'dasdlaw34.AccessSpecific'. -/
def accessSpecificUptoCard : Claim7 := { stood := { row := accessSpecificUptoRow, standIns := [], harness := (true, "fb8ac68952d06e6e3cea92e189879f1c09de7e3f4a0c2c4aa17509adbeee771c"), looks := false }, kinds := [], alts := [], laidByText := true, laidKinds := [.data, .data, .data, .data, .pinned], laidTests := true, laidLooks := .later }
def AccessSpecificUptoCardSaid : Prop := Claim7.holds Tryz.pinned (.plain (OpenSpec.upto accessSpecificSpec)) accessSpecificUptoCard

/-- THE SECOND FORM's CARD OF 'dasdlaw34.AccessPersons'. -/
def accessPersonsUptoCard : Claim7 := { stood := { row := accessPersonsUptoRow, standIns := [], harness := (true, "fb8ac68952d06e6e3cea92e189879f1c09de7e3f4a0c2c4aa17509adbeee771c"), looks := false }, kinds := [], alts := [], laidByText := true, laidKinds := [.data, .data, .data, .data, .pinned], laidTests := true, laidLooks := .later }
def AccessPersonsUptoCardSaid : Prop := Claim7.holds Tryz.pinned (.plain (OpenSpec.upto accessPersonsSpec)) accessPersonsUptoCard

/-- THE SECOND FORM's CARD OF 'dasdlaw34.AccessChecks'. -/
def accessChecksUptoCard : Claim7 := { stood := { row := accessChecksUptoRow, standIns := [], harness := (true, "fb8ac68952d06e6e3cea92e189879f1c09de7e3f4a0c2c4aa17509adbeee771c"), looks := false }, kinds := [], alts := [], laidByText := true, laidKinds := [.data, .data, .data, .data, .pinned], laidTests := true, laidLooks := .later }
def AccessChecksUptoCardSaid : Prop := Claim7.holds Tryz.pinned (.plain (OpenSpec.upto accessChecksSpec)) accessChecksUptoCard

/-- THE SECOND FORM's CARD OF 'dasdlaw34.AccessErrors'. -/
def accessErrorsUptoCard : Claim7 := { stood := { row := accessErrorsUptoRow, standIns := [], harness := (true, "fb8ac68952d06e6e3cea92e189879f1c09de7e3f4a0c2c4aa17509adbeee771c"), looks := false }, kinds := [], alts := [], laidByText := true, laidKinds := [.data, .data, .data, .data, .pinned], laidTests := true, laidLooks := .later }
def AccessErrorsUptoCardSaid : Prop := Claim7.holds Tryz.pinned (.plain (OpenSpec.upto accessErrorsSpec)) accessErrorsUptoCard

/-- THE SECOND FORM's CARD OF 'dasdlaw37.RebuildNotes'. -/
def rebuildNotesUptoCard : Claim7 := { stood := { row := rebuildNotesUptoRow, standIns := [], harness := (true, "fb8ac68952d06e6e3cea92e189879f1c09de7e3f4a0c2c4aa17509adbeee771c"), looks := false }, kinds := [], alts := [], laidByText := true, laidKinds := [.data, .data, .data, .data, .pinned], laidTests := true, laidLooks := .later }
def RebuildNotesUptoCardSaid : Prop := Claim7.holds Tryz.pinned (.plain (OpenSpec.upto rebuildNotesSpec)) rebuildNotesUptoCard

/-- THE SECOND FORM's CARD OF 'dasdlaw37.RebuildReturns'. -/
def rebuildReturnsUptoCard : Claim7 := { stood := { row := rebuildReturnsUptoRow, standIns := [], harness := (true, "fb8ac68952d06e6e3cea92e189879f1c09de7e3f4a0c2c4aa17509adbeee771c"), looks := false }, kinds := [], alts := [], laidByText := true, laidKinds := [.data, .data, .data, .data, .pinned], laidTests := true, laidLooks := .later }
def RebuildReturnsUptoCardSaid : Prop := Claim7.holds Tryz.pinned (.plain (OpenSpec.upto rebuildReturnsSpec)) rebuildReturnsUptoCard
end Rows
end Go.Proofs.YtbdidnjdccpgaaaGreatDoor
