/-
  DERIVED. GIVEN WITH THE SEED: THE CARDS: each row of YtdbigfdffphdgaaDoorRows.lean that lists a variable, with what it lists TIED to the program's text (the seventh form; the later family's looks); each row that meets fmt, with fmt's text TOLD by the authors' own Lean function (tested against real Go, not proved from fmt's source: count such statements apart). THE CARD IS WHAT COUNTS. Prove the row's statement (the work); the ties are given (YtdbigfdffphdgaaDoorTie.lean); close each card by the builder's one call (the guide's Derived/Test/ToyasCard.lean, 'card_holds'). Laid BY PROGRAM, IN A SANDBOX (cutbox-door.mjs). By AI agents, Wed Nov 11 2026. No macro, syntax, notation, axiom, sorry.
-/
import Derived.Test.YtdbigfdffphdgaaDoorRows
import GoSem.ClaimSeven
namespace Go.Proofs.YtdbigfdffphdgaaDoor
namespace Rows

/-- THE TIED CARD OF 'dasdlaw32.CalendarDates'. -/
def calendarDatesCard : Claim7 := { stood := { row := calendarDatesRow, standIns := [], harness := (true, "997628dea448c7e450db0b1b00973570fad53d4414b4d079823d7e489c2fbe89"), looks := false }, kinds := [], alts := [], laidByText := true, laidKinds := [.data, .data, .data], laidTests := true, laidLooks := .later }
def CalendarDatesCardSaid : Prop := Claim7.holds Tryd.pinned (.plain (OpenSpec.ofChange calendarDatesSpec)) calendarDatesCard

/-- THE TIED CARD OF 'dasdlaw32.CalendarSteps'. -/
def calendarStepsCard : Claim7 := { stood := { row := calendarStepsRow, standIns := [], harness := (true, "997628dea448c7e450db0b1b00973570fad53d4414b4d079823d7e489c2fbe89"), looks := false }, kinds := [], alts := [], laidByText := true, laidKinds := [.data, .data, .data], laidTests := true, laidLooks := .later }
def CalendarStepsCardSaid : Prop := Claim7.holds Tryd.pinned (.plain (OpenSpec.ofChange calendarStepsSpec)) calendarStepsCard

/-- THE TIED CARD OF 'dasdlaw32.CalendarMonths'. -/
def calendarMonthsCard : Claim7 := { stood := { row := calendarMonthsRow, standIns := [], harness := (true, "997628dea448c7e450db0b1b00973570fad53d4414b4d079823d7e489c2fbe89"), looks := false }, kinds := [], alts := [], laidByText := true, laidKinds := [.data, .data, .data], laidTests := true, laidLooks := .later }
def CalendarMonthsCardSaid : Prop := Claim7.holds Tryd.pinned (.plain (OpenSpec.ofChange calendarMonthsSpec)) calendarMonthsCard

/-- THE TIED CARD OF 'dasdlaw32.CalendarBack'. -/
def calendarBackCard : Claim7 := { stood := { row := calendarBackRow, standIns := [], harness := (true, "997628dea448c7e450db0b1b00973570fad53d4414b4d079823d7e489c2fbe89"), looks := false }, kinds := [], alts := [], laidByText := true, laidKinds := [.data, .data, .data], laidTests := true, laidLooks := .later }
def CalendarBackCardSaid : Prop := Claim7.holds Tryd.pinned (.plain (OpenSpec.ofChange calendarBackSpec)) calendarBackCard

/-- THE TIED CARD OF 'dasdlaw32.CalendarDecides'. -/
def calendarDecidesCard : Claim7 := { stood := { row := calendarDecidesRow, standIns := [], harness := (true, "997628dea448c7e450db0b1b00973570fad53d4414b4d079823d7e489c2fbe89"), looks := false }, kinds := [], alts := [], laidByText := true, laidKinds := [.data, .data, .data], laidTests := true, laidLooks := .later }
def CalendarDecidesCardSaid : Prop := Claim7.holds Tryd.pinned (.plain (OpenSpec.ofChange calendarDecidesSpec)) calendarDecidesCard

/-- THE TIED CARD OF 'dasdlaw32.CalendarNext'. -/
def calendarNextCard : Claim7 := { stood := { row := calendarNextRow, standIns := [], harness := (true, "997628dea448c7e450db0b1b00973570fad53d4414b4d079823d7e489c2fbe89"), looks := false }, kinds := [], alts := [], laidByText := true, laidKinds := [.data, .data, .data], laidTests := true, laidLooks := .later }
def CalendarNextCardSaid : Prop := Claim7.holds Tryd.pinned (.plain (OpenSpec.ofChange calendarNextSpec)) calendarNextCard

/-- THE TIED CARD OF 'dasdlaw32.CalendarStricter'. -/
def calendarStricterCard : Claim7 := { stood := { row := calendarStricterRow, standIns := [], harness := (true, "997628dea448c7e450db0b1b00973570fad53d4414b4d079823d7e489c2fbe89"), looks := false }, kinds := [], alts := [], laidByText := true, laidKinds := [.data, .data, .data], laidTests := true, laidLooks := .later }
def CalendarStricterCardSaid : Prop := Claim7.holds Tryd.pinned (.plain (OpenSpec.ofChange calendarStricterSpec)) calendarStricterCard

/-- THE SECOND FORM's CARD OF 'dasdlaw32.CalendarDates'. -/
def calendarDatesUptoCard : Claim7 := { stood := { row := calendarDatesUptoRow, standIns := [], harness := (true, "997628dea448c7e450db0b1b00973570fad53d4414b4d079823d7e489c2fbe89"), looks := false }, kinds := [], alts := [], laidByText := true, laidKinds := [.data, .data, .data], laidTests := true, laidLooks := .later }
def CalendarDatesUptoCardSaid : Prop := Claim7.holds Tryd.pinned (.plain (OpenSpec.upto calendarDatesSpec)) calendarDatesUptoCard

/-- THE SECOND FORM's CARD OF 'dasdlaw32.CalendarSteps'. -/
def calendarStepsUptoCard : Claim7 := { stood := { row := calendarStepsUptoRow, standIns := [], harness := (true, "997628dea448c7e450db0b1b00973570fad53d4414b4d079823d7e489c2fbe89"), looks := false }, kinds := [], alts := [], laidByText := true, laidKinds := [.data, .data, .data], laidTests := true, laidLooks := .later }
def CalendarStepsUptoCardSaid : Prop := Claim7.holds Tryd.pinned (.plain (OpenSpec.upto calendarStepsSpec)) calendarStepsUptoCard

/-- THE SECOND FORM's CARD OF 'dasdlaw32.CalendarMonths'. -/
def calendarMonthsUptoCard : Claim7 := { stood := { row := calendarMonthsUptoRow, standIns := [], harness := (true, "997628dea448c7e450db0b1b00973570fad53d4414b4d079823d7e489c2fbe89"), looks := false }, kinds := [], alts := [], laidByText := true, laidKinds := [.data, .data, .data], laidTests := true, laidLooks := .later }
def CalendarMonthsUptoCardSaid : Prop := Claim7.holds Tryd.pinned (.plain (OpenSpec.upto calendarMonthsSpec)) calendarMonthsUptoCard

/-- THE SECOND FORM's CARD OF 'dasdlaw32.CalendarBack'. -/
def calendarBackUptoCard : Claim7 := { stood := { row := calendarBackUptoRow, standIns := [], harness := (true, "997628dea448c7e450db0b1b00973570fad53d4414b4d079823d7e489c2fbe89"), looks := false }, kinds := [], alts := [], laidByText := true, laidKinds := [.data, .data, .data], laidTests := true, laidLooks := .later }
def CalendarBackUptoCardSaid : Prop := Claim7.holds Tryd.pinned (.plain (OpenSpec.upto calendarBackSpec)) calendarBackUptoCard

/-- THE SECOND FORM's CARD OF 'dasdlaw32.CalendarDecides'. -/
def calendarDecidesUptoCard : Claim7 := { stood := { row := calendarDecidesUptoRow, standIns := [], harness := (true, "997628dea448c7e450db0b1b00973570fad53d4414b4d079823d7e489c2fbe89"), looks := false }, kinds := [], alts := [], laidByText := true, laidKinds := [.data, .data, .data], laidTests := true, laidLooks := .later }
def CalendarDecidesUptoCardSaid : Prop := Claim7.holds Tryd.pinned (.plain (OpenSpec.upto calendarDecidesSpec)) calendarDecidesUptoCard

/-- THE SECOND FORM's CARD OF 'dasdlaw32.CalendarNext'. -/
def calendarNextUptoCard : Claim7 := { stood := { row := calendarNextUptoRow, standIns := [], harness := (true, "997628dea448c7e450db0b1b00973570fad53d4414b4d079823d7e489c2fbe89"), looks := false }, kinds := [], alts := [], laidByText := true, laidKinds := [.data, .data, .data], laidTests := true, laidLooks := .later }
def CalendarNextUptoCardSaid : Prop := Claim7.holds Tryd.pinned (.plain (OpenSpec.upto calendarNextSpec)) calendarNextUptoCard

/-- THE SECOND FORM's CARD OF 'dasdlaw32.CalendarStricter'. -/
def calendarStricterUptoCard : Claim7 := { stood := { row := calendarStricterUptoRow, standIns := [], harness := (true, "997628dea448c7e450db0b1b00973570fad53d4414b4d079823d7e489c2fbe89"), looks := false }, kinds := [], alts := [], laidByText := true, laidKinds := [.data, .data, .data], laidTests := true, laidLooks := .later }
def CalendarStricterUptoCardSaid : Prop := Claim7.holds Tryd.pinned (.plain (OpenSpec.upto calendarStricterSpec)) calendarStricterUptoCard
end Rows
end Go.Proofs.YtdbigfdffphdgaaDoor
