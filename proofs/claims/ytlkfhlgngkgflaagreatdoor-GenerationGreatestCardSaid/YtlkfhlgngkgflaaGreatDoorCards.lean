/-
  DERIVED. GIVEN WITH THE SEED: THE CARDS: each row of YtlkfhlgngkgflaaGreatDoorRows.lean that lists a variable, with what it lists TIED to the program's text (the seventh form; the later family's looks); each row that meets fmt, with fmt's text TOLD by the authors' own Lean function (tested against real Go, not proved from fmt's source: count such statements apart). THE CARD IS WHAT COUNTS. Prove the row's statement (the work); the ties are given (YtlkfhlgngkgflaaGreatDoorTie.lean); close each card by the builder's one call (the guide's Derived/Test/ToyasCard.lean, 'card_holds'). Laid BY PROGRAM, IN A SANDBOX (cutbox-door.mjs). By AI agents, Wed Nov 11 2026. No macro, syntax, notation, axiom, sorry.
-/
import Derived.Test.YtlkfhlgngkgflaaGreatDoorRows
import GoSem.ClaimSeven
namespace Go.Proofs.YtlkfhlgngkgflaaGreatDoor
namespace Rows

/-- THE TIED CARD OF 'dasdlaw38.GenerationNumbers'. -/
def generationNumbersCard : Claim7 := { stood := { row := generationNumbersRow, standIns := [], harness := (true, "0ceed16a35e0f0ff9cb4403c60d5197c0dc7baa0c1737210e057b3bc09381dfe"), looks := false }, kinds := [], alts := [], laidByText := true, laidKinds := [.data, .data, .data, .data, .pinned], laidTests := true, laidLooks := .later }
def GenerationNumbersCardSaid : Prop := Claim7.holds Tryz.pinned (.plain (OpenSpec.ofChange generationNumbersSpec)) generationNumbersCard

/-- THE TIED CARD OF 'dasdlaw38.GenerationSeveral'. -/
def generationSeveralCard : Claim7 := { stood := { row := generationSeveralRow, standIns := [], harness := (true, "0ceed16a35e0f0ff9cb4403c60d5197c0dc7baa0c1737210e057b3bc09381dfe"), looks := false }, kinds := [], alts := [], laidByText := true, laidKinds := [.data, .data, .data, .data, .pinned], laidTests := true, laidLooks := .later }
def GenerationSeveralCardSaid : Prop := Claim7.holds Tryz.pinned (.plain (OpenSpec.ofChange generationSeveralSpec)) generationSeveralCard

/-- THE TIED CARD OF 'dasdlaw38.GenerationKeeps'. -/
def generationKeepsCard : Claim7 := { stood := { row := generationKeepsRow, standIns := [], harness := (true, "0ceed16a35e0f0ff9cb4403c60d5197c0dc7baa0c1737210e057b3bc09381dfe"), looks := false }, kinds := [], alts := [], laidByText := true, laidKinds := [.data, .data, .data, .data, .pinned], laidTests := true, laidLooks := .later }
def GenerationKeepsCardSaid : Prop := Claim7.holds Tryz.pinned (.plain (OpenSpec.ofChange generationKeepsSpec)) generationKeepsCard

/-- THE TIED CARD OF 'dasdlaw38.GenerationGreatest'. -/
def generationGreatestCard : Claim7 := { stood := { row := generationGreatestRow, standIns := [], harness := (true, "0ceed16a35e0f0ff9cb4403c60d5197c0dc7baa0c1737210e057b3bc09381dfe"), looks := false }, kinds := [], alts := [], laidByText := true, laidKinds := [.data, .data, .data, .data, .pinned], laidTests := true, laidLooks := .later }
def GenerationGreatestCardSaid : Prop := Claim7.holds Tryz.pinned (.plain (OpenSpec.ofChange generationGreatestSpec)) generationGreatestCard

/-- THE TIED CARD OF 'dasdlaw38.GenerationRelative'. -/
def generationRelativeCard : Claim7 := { stood := { row := generationRelativeRow, standIns := [], harness := (true, "0ceed16a35e0f0ff9cb4403c60d5197c0dc7baa0c1737210e057b3bc09381dfe"), looks := false }, kinds := [], alts := [], laidByText := true, laidKinds := [.data, .data, .data, .data, .pinned], laidTests := true, laidLooks := .later }
def GenerationRelativeCardSaid : Prop := Claim7.holds Tryz.pinned (.plain (OpenSpec.ofChange generationRelativeSpec)) generationRelativeCard

/-- THE TIED CARD OF 'dasdlaw38.GenerationRolls'. -/
def generationRollsCard : Claim7 := { stood := { row := generationRollsRow, standIns := [], harness := (true, "0ceed16a35e0f0ff9cb4403c60d5197c0dc7baa0c1737210e057b3bc09381dfe"), looks := false }, kinds := [], alts := [], laidByText := true, laidKinds := [.data, .data, .data, .data, .pinned], laidTests := true, laidLooks := .later }
def GenerationRollsCardSaid : Prop := Claim7.holds Tryz.pinned (.plain (OpenSpec.ofChange generationRollsSpec)) generationRollsCard

/-- THE TIED CARD OF 'dasdlaw38.GenerationLimits'. -/
def generationLimitsCard : Claim7 := { stood := { row := generationLimitsRow, standIns := [], harness := (true, "0ceed16a35e0f0ff9cb4403c60d5197c0dc7baa0c1737210e057b3bc09381dfe"), looks := false }, kinds := [], alts := [], laidByText := true, laidKinds := [.data, .data, .data, .data, .pinned], laidTests := true, laidLooks := .later }
def GenerationLimitsCardSaid : Prop := Claim7.holds Tryz.pinned (.plain (OpenSpec.ofChange generationLimitsSpec)) generationLimitsCard

/-- THE SECOND FORM's CARD OF 'dasdlaw38.GenerationNumbers'. -/
def generationNumbersUptoCard : Claim7 := { stood := { row := generationNumbersUptoRow, standIns := [], harness := (true, "0ceed16a35e0f0ff9cb4403c60d5197c0dc7baa0c1737210e057b3bc09381dfe"), looks := false }, kinds := [], alts := [], laidByText := true, laidKinds := [.data, .data, .data, .data, .pinned], laidTests := true, laidLooks := .later }
def GenerationNumbersUptoCardSaid : Prop := Claim7.holds Tryz.pinned (.plain (OpenSpec.upto generationNumbersSpec)) generationNumbersUptoCard

/-- THE SECOND FORM's CARD OF 'dasdlaw38.GenerationSeveral'. -/
def generationSeveralUptoCard : Claim7 := { stood := { row := generationSeveralUptoRow, standIns := [], harness := (true, "0ceed16a35e0f0ff9cb4403c60d5197c0dc7baa0c1737210e057b3bc09381dfe"), looks := false }, kinds := [], alts := [], laidByText := true, laidKinds := [.data, .data, .data, .data, .pinned], laidTests := true, laidLooks := .later }
def GenerationSeveralUptoCardSaid : Prop := Claim7.holds Tryz.pinned (.plain (OpenSpec.upto generationSeveralSpec)) generationSeveralUptoCard

/-- THE SECOND FORM's CARD OF 'dasdlaw38.GenerationKeeps'. -/
def generationKeepsUptoCard : Claim7 := { stood := { row := generationKeepsUptoRow, standIns := [], harness := (true, "0ceed16a35e0f0ff9cb4403c60d5197c0dc7baa0c1737210e057b3bc09381dfe"), looks := false }, kinds := [], alts := [], laidByText := true, laidKinds := [.data, .data, .data, .data, .pinned], laidTests := true, laidLooks := .later }
def GenerationKeepsUptoCardSaid : Prop := Claim7.holds Tryz.pinned (.plain (OpenSpec.upto generationKeepsSpec)) generationKeepsUptoCard

/-- THE SECOND FORM's CARD OF 'dasdlaw38.GenerationGreatest'. -/
def generationGreatestUptoCard : Claim7 := { stood := { row := generationGreatestUptoRow, standIns := [], harness := (true, "0ceed16a35e0f0ff9cb4403c60d5197c0dc7baa0c1737210e057b3bc09381dfe"), looks := false }, kinds := [], alts := [], laidByText := true, laidKinds := [.data, .data, .data, .data, .pinned], laidTests := true, laidLooks := .later }
def GenerationGreatestUptoCardSaid : Prop := Claim7.holds Tryz.pinned (.plain (OpenSpec.upto generationGreatestSpec)) generationGreatestUptoCard

/-- THE SECOND FORM's CARD OF 'dasdlaw38.GenerationRelative'. -/
def generationRelativeUptoCard : Claim7 := { stood := { row := generationRelativeUptoRow, standIns := [], harness := (true, "0ceed16a35e0f0ff9cb4403c60d5197c0dc7baa0c1737210e057b3bc09381dfe"), looks := false }, kinds := [], alts := [], laidByText := true, laidKinds := [.data, .data, .data, .data, .pinned], laidTests := true, laidLooks := .later }
def GenerationRelativeUptoCardSaid : Prop := Claim7.holds Tryz.pinned (.plain (OpenSpec.upto generationRelativeSpec)) generationRelativeUptoCard

/-- THE SECOND FORM's CARD OF 'dasdlaw38.GenerationRolls'. -/
def generationRollsUptoCard : Claim7 := { stood := { row := generationRollsUptoRow, standIns := [], harness := (true, "0ceed16a35e0f0ff9cb4403c60d5197c0dc7baa0c1737210e057b3bc09381dfe"), looks := false }, kinds := [], alts := [], laidByText := true, laidKinds := [.data, .data, .data, .data, .pinned], laidTests := true, laidLooks := .later }
def GenerationRollsUptoCardSaid : Prop := Claim7.holds Tryz.pinned (.plain (OpenSpec.upto generationRollsSpec)) generationRollsUptoCard

/-- THE SECOND FORM's CARD OF 'dasdlaw38.GenerationLimits'. -/
def generationLimitsUptoCard : Claim7 := { stood := { row := generationLimitsUptoRow, standIns := [], harness := (true, "0ceed16a35e0f0ff9cb4403c60d5197c0dc7baa0c1737210e057b3bc09381dfe"), looks := false }, kinds := [], alts := [], laidByText := true, laidKinds := [.data, .data, .data, .data, .pinned], laidTests := true, laidLooks := .later }
def GenerationLimitsUptoCardSaid : Prop := Claim7.holds Tryz.pinned (.plain (OpenSpec.upto generationLimitsSpec)) generationLimitsUptoCard
end Rows
end Go.Proofs.YtlkfhlgngkgflaaGreatDoor
