/-
  DERIVED. GIVEN WITH THE SEED: THE CARDS: each row of YtdfdjfnfmibpjaaGreatDoorRows.lean that lists a variable, with what it lists TIED to the program's text (the seventh form; the later family's looks); each row that meets fmt, with fmt's text TOLD by the authors' own Lean function (tested against real Go, not proved from fmt's source: count such statements apart). THE CARD IS WHAT COUNTS. Prove the row's statement (the work); the ties are given (YtdfdjfnfmibpjaaGreatDoorTie.lean); close each card by the builder's one call (the guide's Derived/Test/ToyasCard.lean, 'card_holds'). Laid BY PROGRAM, IN A SANDBOX (cutbox-door.mjs). By AI agents, Wed Nov 11 2026. No macro, syntax, notation, axiom, sorry.
-/
import Derived.Test.YtdfdjfnfmibpjaaGreatDoorRows
import GoSem.ClaimSeven
namespace Go.Proofs.YtdfdjfnfmibpjaaGreatDoor
namespace Rows

/-- THE TIED CARD OF 'dasdlaw33.EntryForms'. -/
def entryFormsCard : Claim7 := { stood := { row := entryFormsRow, standIns := [], harness := (true, "aa21bfa1a52c63310ea4e9e1b0b1dc76723821c4527a7c711300eafcd8169b06"), looks := false }, kinds := [], alts := [], laidByText := true, laidKinds := [.data, .data, .data, .data, .pinned], laidTests := true, laidLooks := .later }
def EntryFormsCardSaid : Prop := Claim7.holds Tryz.pinned (.plain (OpenSpec.ofChange entryFormsSpec)) entryFormsCard

/-- THE TIED CARD OF 'dasdlaw35.CatalogAdds'. -/
def catalogAddsCard : Claim7 := { stood := { row := catalogAddsRow, standIns := [], harness := (true, "aa21bfa1a52c63310ea4e9e1b0b1dc76723821c4527a7c711300eafcd8169b06"), looks := false }, kinds := [], alts := [], laidByText := true, laidKinds := [.data, .data, .data, .data, .pinned], laidTests := true, laidLooks := .later }
def CatalogAddsCardSaid : Prop := Claim7.holds Tryz.pinned (.plain (OpenSpec.ofChange catalogAddsSpec)) catalogAddsCard

/-- THE TIED CARD OF 'dasdlaw35.CatalogThere'. -/
def catalogThereCard : Claim7 := { stood := { row := catalogThereRow, standIns := [], harness := (true, "aa21bfa1a52c63310ea4e9e1b0b1dc76723821c4527a7c711300eafcd8169b06"), looks := false }, kinds := [], alts := [], laidByText := true, laidKinds := [.data, .data, .data, .data, .pinned], laidTests := true, laidLooks := .later }
def CatalogThereCardSaid : Prop := Claim7.holds Tryz.pinned (.plain (OpenSpec.ofChange catalogThereSpec)) catalogThereCard

/-- THE TIED CARD OF 'dasdlaw35.CatalogErrors'. -/
def catalogErrorsCard : Claim7 := { stood := { row := catalogErrorsRow, standIns := [], harness := (true, "aa21bfa1a52c63310ea4e9e1b0b1dc76723821c4527a7c711300eafcd8169b06"), looks := false }, kinds := [], alts := [], laidByText := true, laidKinds := [.data, .data, .data, .data, .pinned], laidTests := true, laidLooks := .later }
def CatalogErrorsCardSaid : Prop := Claim7.holds Tryz.pinned (.plain (OpenSpec.ofChange catalogErrorsSpec)) catalogErrorsCard

/-- THE TIED CARD OF 'dasdlaw37.RebuildReads'. -/
def rebuildReadsCard : Claim7 := { stood := { row := rebuildReadsRow, standIns := [], harness := (true, "aa21bfa1a52c63310ea4e9e1b0b1dc76723821c4527a7c711300eafcd8169b06"), looks := false }, kinds := [], alts := [], laidByText := true, laidKinds := [.data, .data, .data, .data, .pinned], laidTests := true, laidLooks := .later }
def RebuildReadsCardSaid : Prop := Claim7.holds Tryz.pinned (.plain (OpenSpec.ofChange rebuildReadsSpec)) rebuildReadsCard

/-- THE SECOND FORM's CARD OF 'dasdlaw33.EntryForms'. -/
def entryFormsUptoCard : Claim7 := { stood := { row := entryFormsUptoRow, standIns := [], harness := (true, "aa21bfa1a52c63310ea4e9e1b0b1dc76723821c4527a7c711300eafcd8169b06"), looks := false }, kinds := [], alts := [], laidByText := true, laidKinds := [.data, .data, .data, .data, .pinned], laidTests := true, laidLooks := .later }
def EntryFormsUptoCardSaid : Prop := Claim7.holds Tryz.pinned (.plain (OpenSpec.upto entryFormsSpec)) entryFormsUptoCard

/-- THE SECOND FORM's CARD OF 'dasdlaw35.CatalogAdds'. -/
def catalogAddsUptoCard : Claim7 := { stood := { row := catalogAddsUptoRow, standIns := [], harness := (true, "aa21bfa1a52c63310ea4e9e1b0b1dc76723821c4527a7c711300eafcd8169b06"), looks := false }, kinds := [], alts := [], laidByText := true, laidKinds := [.data, .data, .data, .data, .pinned], laidTests := true, laidLooks := .later }
def CatalogAddsUptoCardSaid : Prop := Claim7.holds Tryz.pinned (.plain (OpenSpec.upto catalogAddsSpec)) catalogAddsUptoCard

/-- THE SECOND FORM's CARD OF 'dasdlaw35.CatalogThere'. -/
def catalogThereUptoCard : Claim7 := { stood := { row := catalogThereUptoRow, standIns := [], harness := (true, "aa21bfa1a52c63310ea4e9e1b0b1dc76723821c4527a7c711300eafcd8169b06"), looks := false }, kinds := [], alts := [], laidByText := true, laidKinds := [.data, .data, .data, .data, .pinned], laidTests := true, laidLooks := .later }
def CatalogThereUptoCardSaid : Prop := Claim7.holds Tryz.pinned (.plain (OpenSpec.upto catalogThereSpec)) catalogThereUptoCard

/-- THE SECOND FORM's CARD OF 'dasdlaw35.CatalogErrors'. -/
def catalogErrorsUptoCard : Claim7 := { stood := { row := catalogErrorsUptoRow, standIns := [], harness := (true, "aa21bfa1a52c63310ea4e9e1b0b1dc76723821c4527a7c711300eafcd8169b06"), looks := false }, kinds := [], alts := [], laidByText := true, laidKinds := [.data, .data, .data, .data, .pinned], laidTests := true, laidLooks := .later }
def CatalogErrorsUptoCardSaid : Prop := Claim7.holds Tryz.pinned (.plain (OpenSpec.upto catalogErrorsSpec)) catalogErrorsUptoCard

/-- THE SECOND FORM's CARD OF 'dasdlaw37.RebuildReads'. -/
def rebuildReadsUptoCard : Claim7 := { stood := { row := rebuildReadsUptoRow, standIns := [], harness := (true, "aa21bfa1a52c63310ea4e9e1b0b1dc76723821c4527a7c711300eafcd8169b06"), looks := false }, kinds := [], alts := [], laidByText := true, laidKinds := [.data, .data, .data, .data, .pinned], laidTests := true, laidLooks := .later }
def RebuildReadsUptoCardSaid : Prop := Claim7.holds Tryz.pinned (.plain (OpenSpec.upto rebuildReadsSpec)) rebuildReadsUptoCard
end Rows
end Go.Proofs.YtdfdjfnfmibpjaaGreatDoor
