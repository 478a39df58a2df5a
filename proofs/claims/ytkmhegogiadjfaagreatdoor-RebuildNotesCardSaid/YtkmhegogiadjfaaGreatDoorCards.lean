/-
  DERIVED. GIVEN WITH THE SEED: THE CARDS: each row of YtkmhegogiadjfaaGreatDoorRows.lean that lists a variable, with what it lists TIED to the program's text (the seventh form; the later family's looks); each row that meets fmt, with fmt's text TOLD by the authors' own Lean function (tested against real Go, not proved from fmt's source: count such statements apart). THE CARD IS WHAT COUNTS. Prove the row's statement (the work); the ties are given (YtkmhegogiadjfaaGreatDoorTie.lean); close each card by the builder's one call (the guide's Derived/Test/ToyasCard.lean, 'card_holds'). Laid BY PROGRAM, IN A SANDBOX (cutbox-door.mjs). By AI agents, Wed Nov 11 2026. No macro, syntax, notation, axiom, sorry.
-/
import Derived.Test.YtkmhegogiadjfaaGreatDoorRows
import GoSem.ClaimSeven
namespace Go.Proofs.YtkmhegogiadjfaaGreatDoor
namespace Rows

/-- THE TIED CARD OF 'dasdlaw33.EntryForms'. -/
def entryFormsCard : Claim7 := { stood := { row := entryFormsRow, standIns := [], harness := (true, "1e2f23852c3f1cb3a11c8d2e22bd7f46e656adc807645de9e9f618c067270f59"), looks := false }, kinds := [], alts := [], laidByText := true, laidKinds := [.data, .data, .data, .data, .pinned], laidTests := true, laidLooks := .later }
def EntryFormsCardSaid : Prop := Claim7.holds Tryz.pinned (.plain (OpenSpec.ofChange entryFormsSpec)) entryFormsCard

/-- THE TIED CARD OF 'dasdlaw33.EntryDecodes'. -/
def entryDecodesCard : Claim7 := { stood := { row := entryDecodesRow, standIns := [], harness := (true, "1e2f23852c3f1cb3a11c8d2e22bd7f46e656adc807645de9e9f618c067270f59"), looks := false }, kinds := [], alts := [], laidByText := true, laidKinds := [.data, .data, .data, .data, .pinned], laidTests := true, laidLooks := .later }
def EntryDecodesCardSaid : Prop := Claim7.holds Tryz.pinned (.plain (OpenSpec.ofChange entryDecodesSpec)) entryDecodesCard

/-- THE TIED CARD OF 'dasdlaw35.CatalogAdds'. -/
def catalogAddsCard : Claim7 := { stood := { row := catalogAddsRow, standIns := [], harness := (true, "1e2f23852c3f1cb3a11c8d2e22bd7f46e656adc807645de9e9f618c067270f59"), looks := false }, kinds := [], alts := [], laidByText := true, laidKinds := [.data, .data, .data, .data, .pinned], laidTests := true, laidLooks := .later }
def CatalogAddsCardSaid : Prop := Claim7.holds Tryz.pinned (.plain (OpenSpec.ofChange catalogAddsSpec)) catalogAddsCard

/-- THE TIED CARD OF 'dasdlaw35.CatalogThere'. -/
def catalogThereCard : Claim7 := { stood := { row := catalogThereRow, standIns := [], harness := (true, "1e2f23852c3f1cb3a11c8d2e22bd7f46e656adc807645de9e9f618c067270f59"), looks := false }, kinds := [], alts := [], laidByText := true, laidKinds := [.data, .data, .data, .data, .pinned], laidTests := true, laidLooks := .later }
def CatalogThereCardSaid : Prop := Claim7.holds Tryz.pinned (.plain (OpenSpec.ofChange catalogThereSpec)) catalogThereCard

/-- THE TIED CARD OF 'dasdlaw34.AccessChecks'. -/
def accessChecksCard : Claim7 := { stood := { row := accessChecksRow, standIns := [], harness := (true, "1e2f23852c3f1cb3a11c8d2e22bd7f46e656adc807645de9e9f618c067270f59"), looks := false }, kinds := [], alts := [], laidByText := true, laidKinds := [.data, .data, .data, .data, .pinned], laidTests := true, laidLooks := .later }
def AccessChecksCardSaid : Prop := Claim7.holds Tryz.pinned (.plain (OpenSpec.ofChange accessChecksSpec)) accessChecksCard

/-- THE TIED CARD OF 'dasdlaw34.AccessErrors'. -/
def accessErrorsCard : Claim7 := { stood := { row := accessErrorsRow, standIns := [], harness := (true, "1e2f23852c3f1cb3a11c8d2e22bd7f46e656adc807645de9e9f618c067270f59"), looks := false }, kinds := [], alts := [], laidByText := true, laidKinds := [.data, .data, .data, .data, .pinned], laidTests := true, laidLooks := .later }
def AccessErrorsCardSaid : Prop := Claim7.holds Tryz.pinned (.plain (OpenSpec.ofChange accessErrorsSpec)) accessErrorsCard

/-- THE TIED CARD OF 'dasdlaw37.RebuildNotes'. -/
def rebuildNotesCard : Claim7 := { stood := { row := rebuildNotesRow, standIns := [], harness := (true, "1e2f23852c3f1cb3a11c8d2e22bd7f46e656adc807645de9e9f618c067270f59"), looks := false }, kinds := [], alts := [], laidByText := true, laidKinds := [.data, .data, .data, .data, .pinned], laidTests := true, laidLooks := .later }
def RebuildNotesCardSaid : Prop := Claim7.holds Tryz.pinned (.plain (OpenSpec.ofChange rebuildNotesSpec)) rebuildNotesCard

/-- THE TIED CARD OF 'dasdlaw37.RebuildReturns'. -/
def rebuildReturnsCard : Claim7 := { stood := { row := rebuildReturnsRow, standIns := [], harness := (true, "1e2f23852c3f1cb3a11c8d2e22bd7f46e656adc807645de9e9f618c067270f59"), looks := false }, kinds := [], alts := [], laidByText := true, laidKinds := [.data, .data, .data, .data, .pinned], laidTests := true, laidLooks := .later }
def RebuildReturnsCardSaid : Prop := Claim7.holds Tryz.pinned (.plain (OpenSpec.ofChange rebuildReturnsSpec)) rebuildReturnsCard

/-- THE SECOND FORM's CARD OF 'dasdlaw33.EntryForms'. -/
def entryFormsUptoCard : Claim7 := { stood := { row := entryFormsUptoRow, standIns := [], harness := (true, "1e2f23852c3f1cb3a11c8d2e22bd7f46e656adc807645de9e9f618c067270f59"), looks := false }, kinds := [], alts := [], laidByText := true, laidKinds := [.data, .data, .data, .data, .pinned], laidTests := true, laidLooks := .later }
def EntryFormsUptoCardSaid : Prop := Claim7.holds Tryz.pinned (.plain (OpenSpec.upto entryFormsSpec)) entryFormsUptoCard

/-- THE SECOND FORM's CARD OF 'dasdlaw33.EntryDecodes'. -/
def entryDecodesUptoCard : Claim7 := { stood := { row := entryDecodesUptoRow, standIns := [], harness := (true, "1e2f23852c3f1cb3a11c8d2e22bd7f46e656adc807645de9e9f618c067270f59"), looks := false }, kinds := [], alts := [], laidByText := true, laidKinds := [.data, .data, .data, .data, .pinned], laidTests := true, laidLooks := .later }
def EntryDecodesUptoCardSaid : Prop := Claim7.holds Tryz.pinned (.plain (OpenSpec.upto entryDecodesSpec)) entryDecodesUptoCard

/-- THE SECOND FORM's CARD OF 'dasdlaw35.CatalogAdds'. -/
def catalogAddsUptoCard : Claim7 := { stood := { row := catalogAddsUptoRow, standIns := [], harness := (true, "1e2f23852c3f1cb3a11c8d2e22bd7f46e656adc807645de9e9f618c067270f59"), looks := false }, kinds := [], alts := [], laidByText := true, laidKinds := [.data, .data, .data, .data, .pinned], laidTests := true, laidLooks := .later }
def CatalogAddsUptoCardSaid : Prop := Claim7.holds Tryz.pinned (.plain (OpenSpec.upto catalogAddsSpec)) catalogAddsUptoCard

/-- THE SECOND FORM's CARD OF 'dasdlaw35.CatalogThere'. -/
def catalogThereUptoCard : Claim7 := { stood := { row := catalogThereUptoRow, standIns := [], harness := (true, "1e2f23852c3f1cb3a11c8d2e22bd7f46e656adc807645de9e9f618c067270f59"), looks := false }, kinds := [], alts := [], laidByText := true, laidKinds := [.data, .data, .data, .data, .pinned], laidTests := true, laidLooks := .later }
def CatalogThereUptoCardSaid : Prop := Claim7.holds Tryz.pinned (.plain (OpenSpec.upto catalogThereSpec)) catalogThereUptoCard

/-- THE SECOND FORM's CARD OF 'dasdlaw34.AccessChecks'. -/
def accessChecksUptoCard : Claim7 := { stood := { row := accessChecksUptoRow, standIns := [], harness := (true, "1e2f23852c3f1cb3a11c8d2e22bd7f46e656adc807645de9e9f618c067270f59"), looks := false }, kinds := [], alts := [], laidByText := true, laidKinds := [.data, .data, .data, .data, .pinned], laidTests := true, laidLooks := .later }
def AccessChecksUptoCardSaid : Prop := Claim7.holds Tryz.pinned (.plain (OpenSpec.upto accessChecksSpec)) accessChecksUptoCard

/-- THE SECOND FORM's CARD OF 'dasdlaw34.AccessErrors'. -/
def accessErrorsUptoCard : Claim7 := { stood := { row := accessErrorsUptoRow, standIns := [], harness := (true, "1e2f23852c3f1cb3a11c8d2e22bd7f46e656adc807645de9e9f618c067270f59"), looks := false }, kinds := [], alts := [], laidByText := true, laidKinds := [.data, .data, .data, .data, .pinned], laidTests := true, laidLooks := .later }
def AccessErrorsUptoCardSaid : Prop := Claim7.holds Tryz.pinned (.plain (OpenSpec.upto accessErrorsSpec)) accessErrorsUptoCard

/-- THE SECOND FORM's CARD OF 'dasdlaw37.RebuildNotes'. -/
def rebuildNotesUptoCard : Claim7 := { stood := { row := rebuildNotesUptoRow, standIns := [], harness := (true, "1e2f23852c3f1cb3a11c8d2e22bd7f46e656adc807645de9e9f618c067270f59"), looks := false }, kinds := [], alts := [], laidByText := true, laidKinds := [.data, .data, .data, .data, .pinned], laidTests := true, laidLooks := .later }
def RebuildNotesUptoCardSaid : Prop := Claim7.holds Tryz.pinned (.plain (OpenSpec.upto rebuildNotesSpec)) rebuildNotesUptoCard

/-- THE SECOND FORM's CARD OF 'dasdlaw37.RebuildReturns'. -/
def rebuildReturnsUptoCard : Claim7 := { stood := { row := rebuildReturnsUptoRow, standIns := [], harness := (true, "1e2f23852c3f1cb3a11c8d2e22bd7f46e656adc807645de9e9f618c067270f59"), looks := false }, kinds := [], alts := [], laidByText := true, laidKinds := [.data, .data, .data, .data, .pinned], laidTests := true, laidLooks := .later }
def RebuildReturnsUptoCardSaid : Prop := Claim7.holds Tryz.pinned (.plain (OpenSpec.upto rebuildReturnsSpec)) rebuildReturnsUptoCard
end Rows
end Go.Proofs.YtkmhegogiadjfaaGreatDoor
