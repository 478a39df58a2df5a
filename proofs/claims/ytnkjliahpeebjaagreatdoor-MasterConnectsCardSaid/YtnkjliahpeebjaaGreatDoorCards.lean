/-
  DERIVED. GIVEN WITH THE SEED: THE CARDS: each row of YtnkjliahpeebjaaGreatDoorRows.lean that lists a variable, with what it lists TIED to the program's text (the seventh form; the later family's looks); each row that meets fmt, with fmt's text TOLD by the authors' own Lean function (tested against real Go, not proved from fmt's source: count such statements apart). THE CARD IS WHAT COUNTS. Prove the row's statement (the work); the ties are given (YtnkjliahpeebjaaGreatDoorTie.lean); close each card by the builder's one call (the guide's Derived/Test/ToyasCard.lean, 'card_holds'). Laid BY PROGRAM, IN A SANDBOX (cutbox-door.mjs). By AI agents, Wed Nov 11 2026. No macro, syntax, notation, axiom, sorry.
-/
import Derived.Test.YtnkjliahpeebjaaGreatDoorRows
import GoSem.ClaimSeven
namespace Go.Proofs.YtnkjliahpeebjaaGreatDoor
namespace Rows

/-- THE TIED CARD OF 'dasdlaw37.RebuildFinds'. -/
def rebuildFindsCard : Claim7 := { stood := { row := rebuildFindsRow, standIns := [], harness := (true, "81d05906a68f183940acee784f0ec3316c6b3a4c3ecd03aec33d124f24bcbe57"), looks := false }, kinds := [], alts := [], laidByText := true, laidKinds := [.data, .data, .data, .data, .pinned], laidTests := true, laidLooks := .later }
def RebuildFindsCardSaid : Prop := Claim7.holds Tryz.pinned (.plain (OpenSpec.ofChange rebuildFindsSpec)) rebuildFindsCard

/-- THE TIED CARD OF 'dasdlaw36.MasterChanges'. -/
def masterChangesCard : Claim7 := { stood := { row := masterChangesRow, standIns := [], harness := (true, "81d05906a68f183940acee784f0ec3316c6b3a4c3ecd03aec33d124f24bcbe57"), looks := false }, kinds := [], alts := [], laidByText := true, laidKinds := [.data, .data, .data, .data, .pinned], laidTests := true, laidLooks := .later }
def MasterChangesCardSaid : Prop := Claim7.holds Tryz.pinned (.plain (OpenSpec.ofChange masterChangesSpec)) masterChangesCard

/-- THE TIED CARD OF 'dasdlaw37.RebuildChanges'. -/
def rebuildChangesCard : Claim7 := { stood := { row := rebuildChangesRow, standIns := [], harness := (true, "81d05906a68f183940acee784f0ec3316c6b3a4c3ecd03aec33d124f24bcbe57"), looks := false }, kinds := [], alts := [], laidByText := true, laidKinds := [.data, .data, .data, .data, .pinned], laidTests := true, laidLooks := .later }
def RebuildChangesCardSaid : Prop := Claim7.holds Tryz.pinned (.plain (OpenSpec.ofChange rebuildChangesSpec)) rebuildChangesCard

/-- THE TIED CARD OF 'dasdlaw36.MasterConnects'. -/
def masterConnectsCard : Claim7 := { stood := { row := masterConnectsRow, standIns := [], harness := (true, "81d05906a68f183940acee784f0ec3316c6b3a4c3ecd03aec33d124f24bcbe57"), looks := false }, kinds := [], alts := [], laidByText := true, laidKinds := [.data, .data, .data, .data, .pinned], laidTests := true, laidLooks := .later }
def MasterConnectsCardSaid : Prop := Claim7.holds Tryz.pinned (.plain (OpenSpec.ofChange masterConnectsSpec)) masterConnectsCard

/-- THE TIED CARD OF 'dasdlaw37.RebuildWhole'. -/
def rebuildWholeCard : Claim7 := { stood := { row := rebuildWholeRow, standIns := [], harness := (true, "81d05906a68f183940acee784f0ec3316c6b3a4c3ecd03aec33d124f24bcbe57"), looks := false }, kinds := [], alts := [], laidByText := true, laidKinds := [.data, .data, .data, .data, .pinned], laidTests := true, laidLooks := .later }
def RebuildWholeCardSaid : Prop := Claim7.holds Tryz.pinned (.plain (OpenSpec.ofChange rebuildWholeSpec)) rebuildWholeCard

/-- THE TIED CARD OF 'dasdlaw36.MasterOwns'. -/
def masterOwnsCard : Claim7 := { stood := { row := masterOwnsRow, standIns := [], harness := (true, "81d05906a68f183940acee784f0ec3316c6b3a4c3ecd03aec33d124f24bcbe57"), looks := false }, kinds := [], alts := [], laidByText := true, laidKinds := [.data, .data, .data, .data, .pinned], laidTests := true, laidLooks := .later }
def MasterOwnsCardSaid : Prop := Claim7.holds Tryz.pinned (.plain (OpenSpec.ofChange masterOwnsSpec)) masterOwnsCard

/-- THE TIED CARD OF 'dasdlaw36.MasterIds'. -/
def masterIdsCard : Claim7 := { stood := { row := masterIdsRow, standIns := [], harness := (true, "81d05906a68f183940acee784f0ec3316c6b3a4c3ecd03aec33d124f24bcbe57"), looks := false }, kinds := [], alts := [], laidByText := true, laidKinds := [.data, .data, .data, .data, .pinned], laidTests := true, laidLooks := .later }
def MasterIdsCardSaid : Prop := Claim7.holds Tryz.pinned (.plain (OpenSpec.ofChange masterIdsSpec)) masterIdsCard

/-- THE SECOND FORM's CARD OF 'dasdlaw37.RebuildFinds'. -/
def rebuildFindsUptoCard : Claim7 := { stood := { row := rebuildFindsUptoRow, standIns := [], harness := (true, "81d05906a68f183940acee784f0ec3316c6b3a4c3ecd03aec33d124f24bcbe57"), looks := false }, kinds := [], alts := [], laidByText := true, laidKinds := [.data, .data, .data, .data, .pinned], laidTests := true, laidLooks := .later }
def RebuildFindsUptoCardSaid : Prop := Claim7.holds Tryz.pinned (.plain (OpenSpec.upto rebuildFindsSpec)) rebuildFindsUptoCard

/-- THE SECOND FORM's CARD OF 'dasdlaw36.MasterChanges'. -/
def masterChangesUptoCard : Claim7 := { stood := { row := masterChangesUptoRow, standIns := [], harness := (true, "81d05906a68f183940acee784f0ec3316c6b3a4c3ecd03aec33d124f24bcbe57"), looks := false }, kinds := [], alts := [], laidByText := true, laidKinds := [.data, .data, .data, .data, .pinned], laidTests := true, laidLooks := .later }
def MasterChangesUptoCardSaid : Prop := Claim7.holds Tryz.pinned (.plain (OpenSpec.upto masterChangesSpec)) masterChangesUptoCard

/-- THE SECOND FORM's CARD OF 'dasdlaw37.RebuildChanges'. -/
def rebuildChangesUptoCard : Claim7 := { stood := { row := rebuildChangesUptoRow, standIns := [], harness := (true, "81d05906a68f183940acee784f0ec3316c6b3a4c3ecd03aec33d124f24bcbe57"), looks := false }, kinds := [], alts := [], laidByText := true, laidKinds := [.data, .data, .data, .data, .pinned], laidTests := true, laidLooks := .later }
def RebuildChangesUptoCardSaid : Prop := Claim7.holds Tryz.pinned (.plain (OpenSpec.upto rebuildChangesSpec)) rebuildChangesUptoCard

/-- THE SECOND FORM's CARD OF 'dasdlaw36.MasterConnects'. -/
def masterConnectsUptoCard : Claim7 := { stood := { row := masterConnectsUptoRow, standIns := [], harness := (true, "81d05906a68f183940acee784f0ec3316c6b3a4c3ecd03aec33d124f24bcbe57"), looks := false }, kinds := [], alts := [], laidByText := true, laidKinds := [.data, .data, .data, .data, .pinned], laidTests := true, laidLooks := .later }
def MasterConnectsUptoCardSaid : Prop := Claim7.holds Tryz.pinned (.plain (OpenSpec.upto masterConnectsSpec)) masterConnectsUptoCard

/-- THE SECOND FORM's CARD OF 'dasdlaw37.RebuildWhole'. -/
def rebuildWholeUptoCard : Claim7 := { stood := { row := rebuildWholeUptoRow, standIns := [], harness := (true, "81d05906a68f183940acee784f0ec3316c6b3a4c3ecd03aec33d124f24bcbe57"), looks := false }, kinds := [], alts := [], laidByText := true, laidKinds := [.data, .data, .data, .data, .pinned], laidTests := true, laidLooks := .later }
def RebuildWholeUptoCardSaid : Prop := Claim7.holds Tryz.pinned (.plain (OpenSpec.upto rebuildWholeSpec)) rebuildWholeUptoCard

/-- THE SECOND FORM's CARD OF 'dasdlaw36.MasterOwns'. -/
def masterOwnsUptoCard : Claim7 := { stood := { row := masterOwnsUptoRow, standIns := [], harness := (true, "81d05906a68f183940acee784f0ec3316c6b3a4c3ecd03aec33d124f24bcbe57"), looks := false }, kinds := [], alts := [], laidByText := true, laidKinds := [.data, .data, .data, .data, .pinned], laidTests := true, laidLooks := .later }
def MasterOwnsUptoCardSaid : Prop := Claim7.holds Tryz.pinned (.plain (OpenSpec.upto masterOwnsSpec)) masterOwnsUptoCard

/-- THE SECOND FORM's CARD OF 'dasdlaw36.MasterIds'. -/
def masterIdsUptoCard : Claim7 := { stood := { row := masterIdsUptoRow, standIns := [], harness := (true, "81d05906a68f183940acee784f0ec3316c6b3a4c3ecd03aec33d124f24bcbe57"), looks := false }, kinds := [], alts := [], laidByText := true, laidKinds := [.data, .data, .data, .data, .pinned], laidTests := true, laidLooks := .later }
def MasterIdsUptoCardSaid : Prop := Claim7.holds Tryz.pinned (.plain (OpenSpec.upto masterIdsSpec)) masterIdsUptoCard
end Rows
end Go.Proofs.YtnkjliahpeebjaaGreatDoor
