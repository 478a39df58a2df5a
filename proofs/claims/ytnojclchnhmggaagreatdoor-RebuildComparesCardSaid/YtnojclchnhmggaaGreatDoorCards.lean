/-
  DERIVED. GIVEN WITH THE SEED: THE CARDS: each row of YtnojclchnhmggaaGreatDoorRows.lean that lists a variable, with what it lists TIED to the program's text (the seventh form; the later family's looks); each row that meets fmt, with fmt's text TOLD by the authors' own Lean function (tested against real Go, not proved from fmt's source: count such statements apart). THE CARD IS WHAT COUNTS. Prove the row's statement (the work); the ties are given (YtnojclchnhmggaaGreatDoorTie.lean); close each card by the builder's one call (the guide's Derived/Test/ToyasCard.lean, 'card_holds'). Laid BY PROGRAM, IN A SANDBOX (cutbox-door.mjs). By AI agents, Wed Nov 11 2026. No macro, syntax, notation, axiom, sorry.
-/
import Derived.Test.YtnojclchnhmggaaGreatDoorRows
import GoSem.ClaimSeven
namespace Go.Proofs.YtnojclchnhmggaaGreatDoor
namespace Rows

/-- THE TIED CARD OF 'dasdlaw36.MasterChanges'. -/
def masterChangesCard : Claim7 := { stood := { row := masterChangesRow, standIns := [], harness := (true, "f80b880db2ae2d8efbede4dc7f5af537e4dd85b8ea846f753c142d21ccb0e501"), looks := false }, kinds := [], alts := [], laidByText := true, laidKinds := [.data, .data, .data, .data, .pinned], laidTests := true, laidLooks := .later }
def MasterChangesCardSaid : Prop := Claim7.holds Tryz.pinned (.plain (OpenSpec.ofChange masterChangesSpec)) masterChangesCard

/-- THE TIED CARD OF 'dasdlaw37.RebuildChanges'. -/
def rebuildChangesCard : Claim7 := { stood := { row := rebuildChangesRow, standIns := [], harness := (true, "f80b880db2ae2d8efbede4dc7f5af537e4dd85b8ea846f753c142d21ccb0e501"), looks := false }, kinds := [], alts := [], laidByText := true, laidKinds := [.data, .data, .data, .data, .pinned], laidTests := true, laidLooks := .later }
def RebuildChangesCardSaid : Prop := Claim7.holds Tryz.pinned (.plain (OpenSpec.ofChange rebuildChangesSpec)) rebuildChangesCard

/-- THE TIED CARD OF 'dasdlaw37.RebuildCompares'. -/
def rebuildComparesCard : Claim7 := { stood := { row := rebuildComparesRow, standIns := [], harness := (true, "f80b880db2ae2d8efbede4dc7f5af537e4dd85b8ea846f753c142d21ccb0e501"), looks := false }, kinds := [], alts := [], laidByText := true, laidKinds := [.data, .data, .data, .data, .pinned], laidTests := true, laidLooks := .later }
def RebuildComparesCardSaid : Prop := Claim7.holds Tryz.pinned (.plain (OpenSpec.ofChange rebuildComparesSpec)) rebuildComparesCard

/-- THE SECOND FORM's CARD OF 'dasdlaw36.MasterChanges'. -/
def masterChangesUptoCard : Claim7 := { stood := { row := masterChangesUptoRow, standIns := [], harness := (true, "f80b880db2ae2d8efbede4dc7f5af537e4dd85b8ea846f753c142d21ccb0e501"), looks := false }, kinds := [], alts := [], laidByText := true, laidKinds := [.data, .data, .data, .data, .pinned], laidTests := true, laidLooks := .later }
def MasterChangesUptoCardSaid : Prop := Claim7.holds Tryz.pinned (.plain (OpenSpec.upto masterChangesSpec)) masterChangesUptoCard

/-- THE SECOND FORM's CARD OF 'dasdlaw37.RebuildChanges'. -/
def rebuildChangesUptoCard : Claim7 := { stood := { row := rebuildChangesUptoRow, standIns := [], harness := (true, "f80b880db2ae2d8efbede4dc7f5af537e4dd85b8ea846f753c142d21ccb0e501"), looks := false }, kinds := [], alts := [], laidByText := true, laidKinds := [.data, .data, .data, .data, .pinned], laidTests := true, laidLooks := .later }
def RebuildChangesUptoCardSaid : Prop := Claim7.holds Tryz.pinned (.plain (OpenSpec.upto rebuildChangesSpec)) rebuildChangesUptoCard

/-- THE SECOND FORM's CARD OF 'dasdlaw37.RebuildCompares'. -/
def rebuildComparesUptoCard : Claim7 := { stood := { row := rebuildComparesUptoRow, standIns := [], harness := (true, "f80b880db2ae2d8efbede4dc7f5af537e4dd85b8ea846f753c142d21ccb0e501"), looks := false }, kinds := [], alts := [], laidByText := true, laidKinds := [.data, .data, .data, .data, .pinned], laidTests := true, laidLooks := .later }
def RebuildComparesUptoCardSaid : Prop := Claim7.holds Tryz.pinned (.plain (OpenSpec.upto rebuildComparesSpec)) rebuildComparesUptoCard
end Rows
end Go.Proofs.YtnojclchnhmggaaGreatDoor
