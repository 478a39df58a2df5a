/-
  DERIVED. GIVEN WITH THE SEED: THE CARDS: each row of YtdboejjognfmfaaDoorRows.lean that lists a variable, with what it lists TIED to the program's text (the seventh form; the later family's looks); each row that meets fmt, with fmt's text TOLD by the authors' own Lean function (tested against real Go, not proved from fmt's source: count such statements apart). THE CARD IS WHAT COUNTS. Prove the row's statement (the work); the ties are given (YtdboejjognfmfaaDoorTie.lean); close each card by the builder's one call (the guide's Derived/Test/ToyasCard.lean, 'card_holds'). Laid BY PROGRAM, IN A SANDBOX (cutbox-door.mjs). By AI agents, Wed Nov 11 2026. No macro, syntax, notation, axiom, sorry.
-/
import Derived.Test.YtdboejjognfmfaaDoorRows
import GoSem.ClaimSeven
namespace Go.Proofs.YtdboejjognfmfaaDoor
namespace Rows

/-- THE TIED CARD OF 'dasdlaw31.DsnameMatches'. -/
def dsnameMatchesCard : Claim7 := { stood := { row := dsnameMatchesRow, standIns := [], harness := (true, "01dd8cc6cd7861beefcc2cfe2235723eb049b79308b10a9e694ae610116acd17"), looks := false }, kinds := [], alts := [], laidByText := true, laidKinds := [.data, .data, .data, .data, .pinned], laidTests := true, laidLooks := .later }
def DsnameMatchesCardSaid : Prop := Claim7.holds Tryd.pinned (.plain (OpenSpec.ofChange dsnameMatchesSpec)) dsnameMatchesCard

/-- THE TIED CARD OF 'dasdlaw31.DsnameStars'. -/
def dsnameStarsCard : Claim7 := { stood := { row := dsnameStarsRow, standIns := [], harness := (true, "01dd8cc6cd7861beefcc2cfe2235723eb049b79308b10a9e694ae610116acd17"), looks := false }, kinds := [], alts := [], laidByText := true, laidKinds := [.data, .data, .data, .data, .pinned], laidTests := true, laidLooks := .later }
def DsnameStarsCardSaid : Prop := Claim7.holds Tryd.pinned (.plain (OpenSpec.ofChange dsnameStarsSpec)) dsnameStarsCard

/-- THE TIED CARD OF 'dasdlaw31.DsnameOrders'. -/
def dsnameOrdersCard : Claim7 := { stood := { row := dsnameOrdersRow, standIns := [], harness := (true, "01dd8cc6cd7861beefcc2cfe2235723eb049b79308b10a9e694ae610116acd17"), looks := false }, kinds := [], alts := [], laidByText := true, laidKinds := [.data, .data, .data, .data, .pinned], laidTests := true, laidLooks := .later }
def DsnameOrdersCardSaid : Prop := Claim7.holds Tryd.pinned (.plain (OpenSpec.ofChange dsnameOrdersSpec)) dsnameOrdersCard

/-- THE TIED CARD OF 'dasdlaw31.DsnameGenerations'. -/
def dsnameGenerationsCard : Claim7 := { stood := { row := dsnameGenerationsRow, standIns := [], harness := (true, "01dd8cc6cd7861beefcc2cfe2235723eb049b79308b10a9e694ae610116acd17"), looks := false }, kinds := [], alts := [], laidByText := true, laidKinds := [.data, .data, .data, .data, .pinned], laidTests := true, laidLooks := .later }
def DsnameGenerationsCardSaid : Prop := Claim7.holds Tryd.pinned (.plain (OpenSpec.ofChange dsnameGenerationsSpec)) dsnameGenerationsCard

/-- THE TIED CARD OF 'dasdlaw31.DsnameForms'. -/
def dsnameFormsCard : Claim7 := { stood := { row := dsnameFormsRow, standIns := [], harness := (true, "01dd8cc6cd7861beefcc2cfe2235723eb049b79308b10a9e694ae610116acd17"), looks := false }, kinds := [], alts := [], laidByText := true, laidKinds := [.data, .data, .data, .data, .pinned], laidTests := true, laidLooks := .later }
def DsnameFormsCardSaid : Prop := Claim7.holds Tryd.pinned (.plain (OpenSpec.ofChange dsnameFormsSpec)) dsnameFormsCard

/-- THE TIED CARD OF 'dasdlaw31.DsnameBelow'. -/
def dsnameBelowCard : Claim7 := { stood := { row := dsnameBelowRow, standIns := [], harness := (true, "01dd8cc6cd7861beefcc2cfe2235723eb049b79308b10a9e694ae610116acd17"), looks := false }, kinds := [], alts := [], laidByText := true, laidKinds := [.data, .data, .data, .data, .pinned], laidTests := true, laidLooks := .later }
def DsnameBelowCardSaid : Prop := Claim7.holds Tryd.pinned (.plain (OpenSpec.ofChange dsnameBelowSpec)) dsnameBelowCard

/-- THE TIED CARD OF 'dasdlaw31.DsnameParts'. -/
def dsnamePartsCard : Claim7 := { stood := { row := dsnamePartsRow, standIns := [], harness := (true, "01dd8cc6cd7861beefcc2cfe2235723eb049b79308b10a9e694ae610116acd17"), looks := false }, kinds := [], alts := [], laidByText := true, laidKinds := [.data, .data, .data, .data, .pinned, .pinned], laidTests := true, laidLooks := .later }
def DsnamePartsCardSaid : Prop := Claim7.holds Tryd.pinned (.plain (OpenSpec.ofChange dsnamePartsSpec)) dsnamePartsCard

/-- THE SECOND FORM's CARD OF 'dasdlaw31.DsnameMatches'. -/
def dsnameMatchesUptoCard : Claim7 := { stood := { row := dsnameMatchesUptoRow, standIns := [], harness := (true, "01dd8cc6cd7861beefcc2cfe2235723eb049b79308b10a9e694ae610116acd17"), looks := false }, kinds := [], alts := [], laidByText := true, laidKinds := [.data, .data, .data, .data, .pinned], laidTests := true, laidLooks := .later }
def DsnameMatchesUptoCardSaid : Prop := Claim7.holds Tryd.pinned (.plain (OpenSpec.upto dsnameMatchesSpec)) dsnameMatchesUptoCard

/-- THE SECOND FORM's CARD OF 'dasdlaw31.DsnameStars'. -/
def dsnameStarsUptoCard : Claim7 := { stood := { row := dsnameStarsUptoRow, standIns := [], harness := (true, "01dd8cc6cd7861beefcc2cfe2235723eb049b79308b10a9e694ae610116acd17"), looks := false }, kinds := [], alts := [], laidByText := true, laidKinds := [.data, .data, .data, .data, .pinned], laidTests := true, laidLooks := .later }
def DsnameStarsUptoCardSaid : Prop := Claim7.holds Tryd.pinned (.plain (OpenSpec.upto dsnameStarsSpec)) dsnameStarsUptoCard

/-- THE SECOND FORM's CARD OF 'dasdlaw31.DsnameOrders'. -/
def dsnameOrdersUptoCard : Claim7 := { stood := { row := dsnameOrdersUptoRow, standIns := [], harness := (true, "01dd8cc6cd7861beefcc2cfe2235723eb049b79308b10a9e694ae610116acd17"), looks := false }, kinds := [], alts := [], laidByText := true, laidKinds := [.data, .data, .data, .data, .pinned], laidTests := true, laidLooks := .later }
def DsnameOrdersUptoCardSaid : Prop := Claim7.holds Tryd.pinned (.plain (OpenSpec.upto dsnameOrdersSpec)) dsnameOrdersUptoCard

/-- THE SECOND FORM's CARD OF 'dasdlaw31.DsnameGenerations'. -/
def dsnameGenerationsUptoCard : Claim7 := { stood := { row := dsnameGenerationsUptoRow, standIns := [], harness := (true, "01dd8cc6cd7861beefcc2cfe2235723eb049b79308b10a9e694ae610116acd17"), looks := false }, kinds := [], alts := [], laidByText := true, laidKinds := [.data, .data, .data, .data, .pinned], laidTests := true, laidLooks := .later }
def DsnameGenerationsUptoCardSaid : Prop := Claim7.holds Tryd.pinned (.plain (OpenSpec.upto dsnameGenerationsSpec)) dsnameGenerationsUptoCard

/-- THE SECOND FORM's CARD OF 'dasdlaw31.DsnameForms'. -/
def dsnameFormsUptoCard : Claim7 := { stood := { row := dsnameFormsUptoRow, standIns := [], harness := (true, "01dd8cc6cd7861beefcc2cfe2235723eb049b79308b10a9e694ae610116acd17"), looks := false }, kinds := [], alts := [], laidByText := true, laidKinds := [.data, .data, .data, .data, .pinned], laidTests := true, laidLooks := .later }
def DsnameFormsUptoCardSaid : Prop := Claim7.holds Tryd.pinned (.plain (OpenSpec.upto dsnameFormsSpec)) dsnameFormsUptoCard

/-- THE SECOND FORM's CARD OF 'dasdlaw31.DsnameBelow'. -/
def dsnameBelowUptoCard : Claim7 := { stood := { row := dsnameBelowUptoRow, standIns := [], harness := (true, "01dd8cc6cd7861beefcc2cfe2235723eb049b79308b10a9e694ae610116acd17"), looks := false }, kinds := [], alts := [], laidByText := true, laidKinds := [.data, .data, .data, .data, .pinned], laidTests := true, laidLooks := .later }
def DsnameBelowUptoCardSaid : Prop := Claim7.holds Tryd.pinned (.plain (OpenSpec.upto dsnameBelowSpec)) dsnameBelowUptoCard

/-- THE SECOND FORM's CARD OF 'dasdlaw31.DsnameParts'. -/
def dsnamePartsUptoCard : Claim7 := { stood := { row := dsnamePartsUptoRow, standIns := [], harness := (true, "01dd8cc6cd7861beefcc2cfe2235723eb049b79308b10a9e694ae610116acd17"), looks := false }, kinds := [], alts := [], laidByText := true, laidKinds := [.data, .data, .data, .data, .pinned, .pinned], laidTests := true, laidLooks := .later }
def DsnamePartsUptoCardSaid : Prop := Claim7.holds Tryd.pinned (.plain (OpenSpec.upto dsnamePartsSpec)) dsnamePartsUptoCard
end Rows
end Go.Proofs.YtdboejjognfmfaaDoor
