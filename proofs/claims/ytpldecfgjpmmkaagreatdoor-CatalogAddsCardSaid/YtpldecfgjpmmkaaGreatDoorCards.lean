/-
  DERIVED. GIVEN WITH THE SEED: THE CARDS: each row of YtpldecfgjpmmkaaGreatDoorRows.lean that lists a variable, with what it lists TIED to the program's text (the seventh form; the later family's looks); each row that meets fmt, with fmt's text TOLD by the authors' own Lean function (tested against real Go, not proved from fmt's source: count such statements apart). THE CARD IS WHAT COUNTS. Prove the row's statement (the work); the ties are given (YtpldecfgjpmmkaaGreatDoorTie.lean); close each card by the builder's one call (the guide's Derived/Test/ToyasCard.lean, 'card_holds'). Laid BY PROGRAM, IN A SANDBOX (cutbox-door.mjs). By AI agents, Wed Nov 11 2026. No macro, syntax, notation, axiom, sorry.
-/
import Derived.Test.YtpldecfgjpmmkaaGreatDoorRows
import GoSem.ClaimSeven
namespace Go.Proofs.YtpldecfgjpmmkaaGreatDoor
namespace Rows

/-- THE TIED CARD OF 'dasdlaw35.CatalogAdds'. -/
def catalogAddsCard : Claim7 := { stood := { row := catalogAddsRow, standIns := [], harness := (true, "ae9376a30e5896453a741e3d0d57faa839f797bbee59ca5a9e3d26d709ab394b"), looks := false }, kinds := [], alts := [], laidByText := true, laidKinds := [.data, .data, .data, .data, .pinned], laidTests := true, laidLooks := .later }
def CatalogAddsCardSaid : Prop := Claim7.holds Tryz.pinned (.plain (OpenSpec.ofChange catalogAddsSpec)) catalogAddsCard

/-- THE TIED CARD OF 'dasdlaw35.CatalogThere'. -/
def catalogThereCard : Claim7 := { stood := { row := catalogThereRow, standIns := [], harness := (true, "ae9376a30e5896453a741e3d0d57faa839f797bbee59ca5a9e3d26d709ab394b"), looks := false }, kinds := [], alts := [], laidByText := true, laidKinds := [.data, .data, .data, .data, .pinned], laidTests := true, laidLooks := .later }
def CatalogThereCardSaid : Prop := Claim7.holds Tryz.pinned (.plain (OpenSpec.ofChange catalogThereSpec)) catalogThereCard

/-- THE TIED CARD OF 'dasdlaw35.CatalogErrors'. -/
def catalogErrorsCard : Claim7 := { stood := { row := catalogErrorsRow, standIns := [], harness := (true, "ae9376a30e5896453a741e3d0d57faa839f797bbee59ca5a9e3d26d709ab394b"), looks := false }, kinds := [], alts := [], laidByText := true, laidKinds := [.data, .data, .data, .data, .pinned], laidTests := true, laidLooks := .later }
def CatalogErrorsCardSaid : Prop := Claim7.holds Tryz.pinned (.plain (OpenSpec.ofChange catalogErrorsSpec)) catalogErrorsCard

/-- THE SECOND FORM's CARD OF 'dasdlaw35.CatalogAdds'. -/
def catalogAddsUptoCard : Claim7 := { stood := { row := catalogAddsUptoRow, standIns := [], harness := (true, "ae9376a30e5896453a741e3d0d57faa839f797bbee59ca5a9e3d26d709ab394b"), looks := false }, kinds := [], alts := [], laidByText := true, laidKinds := [.data, .data, .data, .data, .pinned], laidTests := true, laidLooks := .later }
def CatalogAddsUptoCardSaid : Prop := Claim7.holds Tryz.pinned (.plain (OpenSpec.upto catalogAddsSpec)) catalogAddsUptoCard

/-- THE SECOND FORM's CARD OF 'dasdlaw35.CatalogThere'. -/
def catalogThereUptoCard : Claim7 := { stood := { row := catalogThereUptoRow, standIns := [], harness := (true, "ae9376a30e5896453a741e3d0d57faa839f797bbee59ca5a9e3d26d709ab394b"), looks := false }, kinds := [], alts := [], laidByText := true, laidKinds := [.data, .data, .data, .data, .pinned], laidTests := true, laidLooks := .later }
def CatalogThereUptoCardSaid : Prop := Claim7.holds Tryz.pinned (.plain (OpenSpec.upto catalogThereSpec)) catalogThereUptoCard

/-- THE SECOND FORM's CARD OF 'dasdlaw35.CatalogErrors'. -/
def catalogErrorsUptoCard : Claim7 := { stood := { row := catalogErrorsUptoRow, standIns := [], harness := (true, "ae9376a30e5896453a741e3d0d57faa839f797bbee59ca5a9e3d26d709ab394b"), looks := false }, kinds := [], alts := [], laidByText := true, laidKinds := [.data, .data, .data, .data, .pinned], laidTests := true, laidLooks := .later }
def CatalogErrorsUptoCardSaid : Prop := Claim7.holds Tryz.pinned (.plain (OpenSpec.upto catalogErrorsSpec)) catalogErrorsUptoCard
end Rows
end Go.Proofs.YtpldecfgjpmmkaaGreatDoor
