/-
  DERIVED. GIVEN WITH THE SEED: THE CARDS: each row of YtefcmdmfgdcpmaaGreatDoorRows.lean that lists a variable, with what it lists TIED to the program's text (the seventh form; the later family's looks); each row that meets fmt, with fmt's text TOLD by the authors' own Lean function (tested against real Go, not proved from fmt's source: count such statements apart). THE CARD IS WHAT COUNTS. Prove the row's statement (the work); the ties are given (YtefcmdmfgdcpmaaGreatDoorTie.lean); close each card by the builder's one call (the guide's Derived/Test/ToyasCard.lean, 'card_holds'). Laid BY PROGRAM, IN A SANDBOX (cutbox-door.mjs). By AI agents, Wed Nov 11 2026. No macro, syntax, notation, axiom, sorry.
-/
import Derived.Test.YtefcmdmfgdcpmaaGreatDoorRows
import GoSem.ClaimSeven
namespace Go.Proofs.YtefcmdmfgdcpmaaGreatDoor
namespace Rows

/-- THE TIED CARD OF 'dasdlaw36.MasterOwns'. -/
def masterOwnsCard : Claim7 := { stood := { row := masterOwnsRow, standIns := [], harness := (true, "f075a8f096a752c4ac2bc07a67e75e5bec3fcf73c237f46193a8c63a3370e0c4"), looks := false }, kinds := [], alts := [], laidByText := true, laidKinds := [.data, .data, .data, .data, .pinned], laidTests := true, laidLooks := .later }
def MasterOwnsCardSaid : Prop := Claim7.holds Tryz.pinned (.plain (OpenSpec.ofChange masterOwnsSpec)) masterOwnsCard

/-- THE TIED CARD OF 'dasdlaw36.MasterIds'. -/
def masterIdsCard : Claim7 := { stood := { row := masterIdsRow, standIns := [], harness := (true, "f075a8f096a752c4ac2bc07a67e75e5bec3fcf73c237f46193a8c63a3370e0c4"), looks := false }, kinds := [], alts := [], laidByText := true, laidKinds := [.data, .data, .data, .data, .pinned], laidTests := true, laidLooks := .later }
def MasterIdsCardSaid : Prop := Claim7.holds Tryz.pinned (.plain (OpenSpec.ofChange masterIdsSpec)) masterIdsCard

/-- THE TIED CARD OF 'dasdlaw36.MasterLists'. -/
def masterListsCard : Claim7 := { stood := { row := masterListsRow, standIns := [], harness := (true, "f075a8f096a752c4ac2bc07a67e75e5bec3fcf73c237f46193a8c63a3370e0c4"), looks := false }, kinds := [], alts := [], laidByText := true, laidKinds := [.data, .data, .data, .data, .pinned], laidTests := true, laidLooks := .later }
def MasterListsCardSaid : Prop := Claim7.holds Tryz.pinned (.plain (OpenSpec.ofChange masterListsSpec)) masterListsCard

/-- THE TIED CARD OF 'dasdlaw36.MasterErrors'. -/
def masterErrorsCard : Claim7 := { stood := { row := masterErrorsRow, standIns := [], harness := (true, "f075a8f096a752c4ac2bc07a67e75e5bec3fcf73c237f46193a8c63a3370e0c4"), looks := false }, kinds := [], alts := [], laidByText := true, laidKinds := [.data, .data, .data, .data, .pinned], laidTests := true, laidLooks := .later }
def MasterErrorsCardSaid : Prop := Claim7.holds Tryz.pinned (.plain (OpenSpec.ofChange masterErrorsSpec)) masterErrorsCard

/-- THE SECOND FORM's CARD OF 'dasdlaw36.MasterOwns'. -/
def masterOwnsUptoCard : Claim7 := { stood := { row := masterOwnsUptoRow, standIns := [], harness := (true, "f075a8f096a752c4ac2bc07a67e75e5bec3fcf73c237f46193a8c63a3370e0c4"), looks := false }, kinds := [], alts := [], laidByText := true, laidKinds := [.data, .data, .data, .data, .pinned], laidTests := true, laidLooks := .later }
def MasterOwnsUptoCardSaid : Prop := Claim7.holds Tryz.pinned (.plain (OpenSpec.upto masterOwnsSpec)) masterOwnsUptoCard

/-- THE SECOND FORM's CARD OF 'dasdlaw36.MasterIds'. -/
def masterIdsUptoCard : Claim7 := { stood := { row := masterIdsUptoRow, standIns := [], harness := (true, "f075a8f096a752c4ac2bc07a67e75e5bec3fcf73c237f46193a8c63a3370e0c4"), looks := false }, kinds := [], alts := [], laidByText := true, laidKinds := [.data, .data, .data, .data, .pinned], laidTests := true, laidLooks := .later }
def MasterIdsUptoCardSaid : Prop := Claim7.holds Tryz.pinned (.plain (OpenSpec.upto masterIdsSpec)) masterIdsUptoCard

/-- THE SECOND FORM's CARD OF 'dasdlaw36.MasterLists'. -/
def masterListsUptoCard : Claim7 := { stood := { row := masterListsUptoRow, standIns := [], harness := (true, "f075a8f096a752c4ac2bc07a67e75e5bec3fcf73c237f46193a8c63a3370e0c4"), looks := false }, kinds := [], alts := [], laidByText := true, laidKinds := [.data, .data, .data, .data, .pinned], laidTests := true, laidLooks := .later }
def MasterListsUptoCardSaid : Prop := Claim7.holds Tryz.pinned (.plain (OpenSpec.upto masterListsSpec)) masterListsUptoCard

/-- THE SECOND FORM's CARD OF 'dasdlaw36.MasterErrors'. -/
def masterErrorsUptoCard : Claim7 := { stood := { row := masterErrorsUptoRow, standIns := [], harness := (true, "f075a8f096a752c4ac2bc07a67e75e5bec3fcf73c237f46193a8c63a3370e0c4"), looks := false }, kinds := [], alts := [], laidByText := true, laidKinds := [.data, .data, .data, .data, .pinned], laidTests := true, laidLooks := .later }
def MasterErrorsUptoCardSaid : Prop := Claim7.holds Tryz.pinned (.plain (OpenSpec.upto masterErrorsSpec)) masterErrorsUptoCard
end Rows
end Go.Proofs.YtefcmdmfgdcpmaaGreatDoor
