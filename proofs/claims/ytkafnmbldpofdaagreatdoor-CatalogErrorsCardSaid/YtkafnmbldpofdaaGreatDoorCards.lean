/-
  DERIVED. GIVEN WITH THE SEED: THE CARDS: each row of YtkafnmbldpofdaaGreatDoorRows.lean that lists a variable, with what it lists TIED to the program's text (the seventh form; the later family's looks); each row that meets fmt, with fmt's text TOLD by the authors' own Lean function (tested against real Go, not proved from fmt's source: count such statements apart). THE CARD IS WHAT COUNTS. Prove the row's statement (the work); the ties are given (YtkafnmbldpofdaaGreatDoorTie.lean); close each card by the builder's one call (the guide's Derived/Test/ToyasCard.lean, 'card_holds'). Laid BY PROGRAM, IN A SANDBOX (cutbox-door.mjs). By AI agents, Wed Nov 11 2026. No macro, syntax, notation, axiom, sorry.
-/
import Derived.Test.YtkafnmbldpofdaaGreatDoorRows
import GoSem.ClaimSeven
namespace Go.Proofs.YtkafnmbldpofdaaGreatDoor
namespace Rows

/-- THE TIED CARD OF 'dasdlaw35.CatalogThere'. -/
def catalogThereCard : Claim7 := { stood := { row := catalogThereRow, standIns := [], harness := (true, "c0b6516d41426aa11be3f09fa67a70e0163fa6ef922f1a276caf5da03406329d"), looks := false }, kinds := [], alts := [], laidByText := true, laidKinds := [.data, .data, .data, .data, .pinned], laidTests := true, laidLooks := .later }
def CatalogThereCardSaid : Prop := Claim7.holds Tryz.pinned (.plain (OpenSpec.ofChange catalogThereSpec)) catalogThereCard

/-- THE TIED CARD OF 'dasdlaw36.MasterChanges'. -/
def masterChangesCard : Claim7 := { stood := { row := masterChangesRow, standIns := [], harness := (true, "c0b6516d41426aa11be3f09fa67a70e0163fa6ef922f1a276caf5da03406329d"), looks := false }, kinds := [], alts := [], laidByText := true, laidKinds := [.data, .data, .data, .data, .pinned], laidTests := true, laidLooks := .later }
def MasterChangesCardSaid : Prop := Claim7.holds Tryz.pinned (.plain (OpenSpec.ofChange masterChangesSpec)) masterChangesCard

/-- THE TIED CARD OF 'dasdlaw35.CatalogErrors'. -/
def catalogErrorsCard : Claim7 := { stood := { row := catalogErrorsRow, standIns := [], harness := (true, "c0b6516d41426aa11be3f09fa67a70e0163fa6ef922f1a276caf5da03406329d"), looks := false }, kinds := [], alts := [], laidByText := true, laidKinds := [.data, .data, .data, .data, .pinned], laidTests := true, laidLooks := .later }
def CatalogErrorsCardSaid : Prop := Claim7.holds Tryz.pinned (.plain (OpenSpec.ofChange catalogErrorsSpec)) catalogErrorsCard

/-- THE TIED CARD OF 'dasdlaw37.RebuildChanges'. -/
def rebuildChangesCard : Claim7 := { stood := { row := rebuildChangesRow, standIns := [], harness := (true, "c0b6516d41426aa11be3f09fa67a70e0163fa6ef922f1a276caf5da03406329d"), looks := false }, kinds := [], alts := [], laidByText := true, laidKinds := [.data, .data, .data, .data, .pinned], laidTests := true, laidLooks := .later }
def RebuildChangesCardSaid : Prop := Claim7.holds Tryz.pinned (.plain (OpenSpec.ofChange rebuildChangesSpec)) rebuildChangesCard

/-- THE TIED CARD OF 'dasdlaw37.RebuildCompares'. -/
def rebuildComparesCard : Claim7 := { stood := { row := rebuildComparesRow, standIns := [], harness := (true, "c0b6516d41426aa11be3f09fa67a70e0163fa6ef922f1a276caf5da03406329d"), looks := false }, kinds := [], alts := [], laidByText := true, laidKinds := [.data, .data, .data, .data, .pinned], laidTests := true, laidLooks := .later }
def RebuildComparesCardSaid : Prop := Claim7.holds Tryz.pinned (.plain (OpenSpec.ofChange rebuildComparesSpec)) rebuildComparesCard

/-- THE SECOND FORM's CARD OF 'dasdlaw35.CatalogThere'. -/
def catalogThereUptoCard : Claim7 := { stood := { row := catalogThereUptoRow, standIns := [], harness := (true, "c0b6516d41426aa11be3f09fa67a70e0163fa6ef922f1a276caf5da03406329d"), looks := false }, kinds := [], alts := [], laidByText := true, laidKinds := [.data, .data, .data, .data, .pinned], laidTests := true, laidLooks := .later }
def CatalogThereUptoCardSaid : Prop := Claim7.holds Tryz.pinned (.plain (OpenSpec.upto catalogThereSpec)) catalogThereUptoCard

/-- THE SECOND FORM's CARD OF 'dasdlaw36.MasterChanges'. -/
def masterChangesUptoCard : Claim7 := { stood := { row := masterChangesUptoRow, standIns := [], harness := (true, "c0b6516d41426aa11be3f09fa67a70e0163fa6ef922f1a276caf5da03406329d"), looks := false }, kinds := [], alts := [], laidByText := true, laidKinds := [.data, .data, .data, .data, .pinned], laidTests := true, laidLooks := .later }
def MasterChangesUptoCardSaid : Prop := Claim7.holds Tryz.pinned (.plain (OpenSpec.upto masterChangesSpec)) masterChangesUptoCard

/-- THE SECOND FORM's CARD OF 'dasdlaw35.CatalogErrors'. -/
def catalogErrorsUptoCard : Claim7 := { stood := { row := catalogErrorsUptoRow, standIns := [], harness := (true, "c0b6516d41426aa11be3f09fa67a70e0163fa6ef922f1a276caf5da03406329d"), looks := false }, kinds := [], alts := [], laidByText := true, laidKinds := [.data, .data, .data, .data, .pinned], laidTests := true, laidLooks := .later }
def CatalogErrorsUptoCardSaid : Prop := Claim7.holds Tryz.pinned (.plain (OpenSpec.upto catalogErrorsSpec)) catalogErrorsUptoCard

/-- THE SECOND FORM's CARD OF 'dasdlaw37.RebuildChanges'. -/
def rebuildChangesUptoCard : Claim7 := { stood := { row := rebuildChangesUptoRow, standIns := [], harness := (true, "c0b6516d41426aa11be3f09fa67a70e0163fa6ef922f1a276caf5da03406329d"), looks := false }, kinds := [], alts := [], laidByText := true, laidKinds := [.data, .data, .data, .data, .pinned], laidTests := true, laidLooks := .later }
def RebuildChangesUptoCardSaid : Prop := Claim7.holds Tryz.pinned (.plain (OpenSpec.upto rebuildChangesSpec)) rebuildChangesUptoCard

/-- THE SECOND FORM's CARD OF 'dasdlaw37.RebuildCompares'. -/
def rebuildComparesUptoCard : Claim7 := { stood := { row := rebuildComparesUptoRow, standIns := [], harness := (true, "c0b6516d41426aa11be3f09fa67a70e0163fa6ef922f1a276caf5da03406329d"), looks := false }, kinds := [], alts := [], laidByText := true, laidKinds := [.data, .data, .data, .data, .pinned], laidTests := true, laidLooks := .later }
def RebuildComparesUptoCardSaid : Prop := Claim7.holds Tryz.pinned (.plain (OpenSpec.upto rebuildComparesSpec)) rebuildComparesUptoCard
end Rows
end Go.Proofs.YtkafnmbldpofdaaGreatDoor
