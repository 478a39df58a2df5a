/-
  DERIVED. GIVEN WITH THE SEED: THE CARDS: each row of YtlmgolkgodfmpaaGreatDoorRows.lean that lists a variable, with what it lists TIED to the program's text (the seventh form; the later family's looks); each row that meets fmt, with fmt's text TOLD by the authors' own Lean function (tested against real Go, not proved from fmt's source: count such statements apart). THE CARD IS WHAT COUNTS. Prove the row's statement (the work); the ties are given (YtlmgolkgodfmpaaGreatDoorTie.lean); close each card by the builder's one call (the guide's Derived/Test/ToyasCard.lean, 'card_holds'). Laid BY PROGRAM, IN A SANDBOX (cutbox-door.mjs). By AI agents, Wed Nov 11 2026. No macro, syntax, notation, axiom, sorry.
-/
import Derived.Test.YtlmgolkgodfmpaaGreatDoorRows
import GoSem.ClaimSeven
namespace Go.Proofs.YtlmgolkgodfmpaaGreatDoor
namespace Rows

/-- THE TIED CARD OF 'dasdlaw33.EntryForms'. -/
def entryFormsCard : Claim7 := { stood := { row := entryFormsRow, standIns := [], harness := (true, "cb220ec9bb8a029ee745c9f92894fbba7ece3f893a33f8352ce25bd8a6ce8ef7"), looks := false }, kinds := [], alts := [], laidByText := true, laidKinds := [.data, .data, .data, .data, .pinned], laidTests := true, laidLooks := .later }
def EntryFormsCardSaid : Prop := Claim7.holds Tryz.pinned (.plain (OpenSpec.ofChange entryFormsSpec)) entryFormsCard

/-- THE TIED CARD OF 'dasdlaw35.CatalogAdds'. -/
def catalogAddsCard : Claim7 := { stood := { row := catalogAddsRow, standIns := [], harness := (true, "cb220ec9bb8a029ee745c9f92894fbba7ece3f893a33f8352ce25bd8a6ce8ef7"), looks := false }, kinds := [], alts := [], laidByText := true, laidKinds := [.data, .data, .data, .data, .pinned], laidTests := true, laidLooks := .later }
def CatalogAddsCardSaid : Prop := Claim7.holds Tryz.pinned (.plain (OpenSpec.ofChange catalogAddsSpec)) catalogAddsCard

/-- THE TIED CARD OF 'dasdlaw35.CatalogThere'. -/
def catalogThereCard : Claim7 := { stood := { row := catalogThereRow, standIns := [], harness := (true, "cb220ec9bb8a029ee745c9f92894fbba7ece3f893a33f8352ce25bd8a6ce8ef7"), looks := false }, kinds := [], alts := [], laidByText := true, laidKinds := [.data, .data, .data, .data, .pinned], laidTests := true, laidLooks := .later }
def CatalogThereCardSaid : Prop := Claim7.holds Tryz.pinned (.plain (OpenSpec.ofChange catalogThereSpec)) catalogThereCard

/-- THE TIED CARD OF 'dasdlaw34.AccessChecks'. -/
def accessChecksCard : Claim7 := { stood := { row := accessChecksRow, standIns := [], harness := (true, "cb220ec9bb8a029ee745c9f92894fbba7ece3f893a33f8352ce25bd8a6ce8ef7"), looks := false }, kinds := [], alts := [], laidByText := true, laidKinds := [.data, .data, .data, .data, .pinned], laidTests := true, laidLooks := .later }
def AccessChecksCardSaid : Prop := Claim7.holds Tryz.pinned (.plain (OpenSpec.ofChange accessChecksSpec)) accessChecksCard

/-- THE TIED CARD OF 'dasdlaw34.AccessErrors'. -/
def accessErrorsCard : Claim7 := { stood := { row := accessErrorsRow, standIns := [], harness := (true, "cb220ec9bb8a029ee745c9f92894fbba7ece3f893a33f8352ce25bd8a6ce8ef7"), looks := false }, kinds := [], alts := [], laidByText := true, laidKinds := [.data, .data, .data, .data, .pinned], laidTests := true, laidLooks := .later }
def AccessErrorsCardSaid : Prop := Claim7.holds Tryz.pinned (.plain (OpenSpec.ofChange accessErrorsSpec)) accessErrorsCard

/-- THE SECOND FORM's CARD OF 'dasdlaw33.EntryForms'. -/
def entryFormsUptoCard : Claim7 := { stood := { row := entryFormsUptoRow, standIns := [], harness := (true, "cb220ec9bb8a029ee745c9f92894fbba7ece3f893a33f8352ce25bd8a6ce8ef7"), looks := false }, kinds := [], alts := [], laidByText := true, laidKinds := [.data, .data, .data, .data, .pinned], laidTests := true, laidLooks := .later }
def EntryFormsUptoCardSaid : Prop := Claim7.holds Tryz.pinned (.plain (OpenSpec.upto entryFormsSpec)) entryFormsUptoCard

/-- THE SECOND FORM's CARD OF 'dasdlaw35.CatalogAdds'. -/
def catalogAddsUptoCard : Claim7 := { stood := { row := catalogAddsUptoRow, standIns := [], harness := (true, "cb220ec9bb8a029ee745c9f92894fbba7ece3f893a33f8352ce25bd8a6ce8ef7"), looks := false }, kinds := [], alts := [], laidByText := true, laidKinds := [.data, .data, .data, .data, .pinned], laidTests := true, laidLooks := .later }
def CatalogAddsUptoCardSaid : Prop := Claim7.holds Tryz.pinned (.plain (OpenSpec.upto catalogAddsSpec)) catalogAddsUptoCard

/-- THE SECOND FORM's CARD OF 'dasdlaw35.CatalogThere'. -/
def catalogThereUptoCard : Claim7 := { stood := { row := catalogThereUptoRow, standIns := [], harness := (true, "cb220ec9bb8a029ee745c9f92894fbba7ece3f893a33f8352ce25bd8a6ce8ef7"), looks := false }, kinds := [], alts := [], laidByText := true, laidKinds := [.data, .data, .data, .data, .pinned], laidTests := true, laidLooks := .later }
def CatalogThereUptoCardSaid : Prop := Claim7.holds Tryz.pinned (.plain (OpenSpec.upto catalogThereSpec)) catalogThereUptoCard

/-- THE SECOND FORM's CARD OF 'dasdlaw34.AccessChecks'. -/
def accessChecksUptoCard : Claim7 := { stood := { row := accessChecksUptoRow, standIns := [], harness := (true, "cb220ec9bb8a029ee745c9f92894fbba7ece3f893a33f8352ce25bd8a6ce8ef7"), looks := false }, kinds := [], alts := [], laidByText := true, laidKinds := [.data, .data, .data, .data, .pinned], laidTests := true, laidLooks := .later }
def AccessChecksUptoCardSaid : Prop := Claim7.holds Tryz.pinned (.plain (OpenSpec.upto accessChecksSpec)) accessChecksUptoCard

/-- THE SECOND FORM's CARD OF 'dasdlaw34.AccessErrors'. -/
def accessErrorsUptoCard : Claim7 := { stood := { row := accessErrorsUptoRow, standIns := [], harness := (true, "cb220ec9bb8a029ee745c9f92894fbba7ece3f893a33f8352ce25bd8a6ce8ef7"), looks := false }, kinds := [], alts := [], laidByText := true, laidKinds := [.data, .data, .data, .data, .pinned], laidTests := true, laidLooks := .later }
def AccessErrorsUptoCardSaid : Prop := Claim7.holds Tryz.pinned (.plain (OpenSpec.upto accessErrorsSpec)) accessErrorsUptoCard
end Rows
end Go.Proofs.YtlmgolkgodfmpaaGreatDoor
