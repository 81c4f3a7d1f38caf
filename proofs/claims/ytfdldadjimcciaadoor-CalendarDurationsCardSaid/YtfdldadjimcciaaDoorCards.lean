/-
  DERIVED. GIVEN WITH THE SEED: THE CARDS: each row of YtfdldadjimcciaaDoorRows.lean that lists a variable, with what it lists TIED to the program's text (the seventh form; the later family's looks); each row that meets fmt, with fmt's text TOLD by the authors' own Lean function (tested against real Go, not proved from fmt's source: count such statements apart). THE CARD IS WHAT COUNTS. Prove the row's statement (the work); the ties are given (YtfdldadjimcciaaDoorTie.lean); close each card by the builder's one call (the guide's Derived/Test/ToyasCard.lean, 'card_holds'). Laid BY PROGRAM, IN A SANDBOX (cutbox-door.mjs). By AI agents, Wed Nov 11 2026. No macro, syntax, notation, axiom, sorry.
-/
import Derived.Test.YtfdldadjimcciaaDoorRows
import GoSem.ClaimSeven
namespace Go.Proofs.YtfdldadjimcciaaDoor
namespace Rows

/-- THE TIED CARD OF 'pairinglaw6.CalendarDates'. -/
def calendarDatesCard : Claim7 := { stood := { row := calendarDatesRow, standIns := [], harness := (true, "f1eb2cd872b80c9e1c003a488e3e1853ca4fb88e7ccdfd11417b564e325665ac"), looks := false }, kinds := [], alts := [], laidByText := true, laidKinds := [.data, .data, .data], laidTests := true, laidLooks := .later }
def CalendarDatesCardSaid : Prop := Claim7.holds Tryd.pinned (.plain (OpenSpec.ofChange calendarDatesSpec)) calendarDatesCard

/-- THE TIED CARD OF 'pairinglaw6.CalendarInstants'. -/
def calendarInstantsCard : Claim7 := { stood := { row := calendarInstantsRow, standIns := [], harness := (true, "f1eb2cd872b80c9e1c003a488e3e1853ca4fb88e7ccdfd11417b564e325665ac"), looks := false }, kinds := [], alts := [], laidByText := true, laidKinds := [.data, .data, .data], laidTests := true, laidLooks := .later }
def CalendarInstantsCardSaid : Prop := Claim7.holds Tryd.pinned (.plain (OpenSpec.ofChange calendarInstantsSpec)) calendarInstantsCard

/-- THE TIED CARD OF 'pairinglaw6.CalendarDurations'. -/
def calendarDurationsCard : Claim7 := { stood := { row := calendarDurationsRow, standIns := [], harness := (true, "f1eb2cd872b80c9e1c003a488e3e1853ca4fb88e7ccdfd11417b564e325665ac"), looks := false }, kinds := [], alts := [], laidByText := true, laidKinds := [.data, .data, .data], laidTests := true, laidLooks := .later }
def CalendarDurationsCardSaid : Prop := Claim7.holds Tryd.pinned (.plain (OpenSpec.ofChange calendarDurationsSpec)) calendarDurationsCard

/-- THE SECOND FORM's CARD OF 'pairinglaw6.CalendarDates'. -/
def calendarDatesUptoCard : Claim7 := { stood := { row := calendarDatesUptoRow, standIns := [], harness := (true, "f1eb2cd872b80c9e1c003a488e3e1853ca4fb88e7ccdfd11417b564e325665ac"), looks := false }, kinds := [], alts := [], laidByText := true, laidKinds := [.data, .data, .data], laidTests := true, laidLooks := .later }
def CalendarDatesUptoCardSaid : Prop := Claim7.holds Tryd.pinned (.plain (OpenSpec.upto calendarDatesSpec)) calendarDatesUptoCard

/-- THE SECOND FORM's CARD OF 'pairinglaw6.CalendarInstants'. -/
def calendarInstantsUptoCard : Claim7 := { stood := { row := calendarInstantsUptoRow, standIns := [], harness := (true, "f1eb2cd872b80c9e1c003a488e3e1853ca4fb88e7ccdfd11417b564e325665ac"), looks := false }, kinds := [], alts := [], laidByText := true, laidKinds := [.data, .data, .data], laidTests := true, laidLooks := .later }
def CalendarInstantsUptoCardSaid : Prop := Claim7.holds Tryd.pinned (.plain (OpenSpec.upto calendarInstantsSpec)) calendarInstantsUptoCard

/-- THE SECOND FORM's CARD OF 'pairinglaw6.CalendarDurations'. -/
def calendarDurationsUptoCard : Claim7 := { stood := { row := calendarDurationsUptoRow, standIns := [], harness := (true, "f1eb2cd872b80c9e1c003a488e3e1853ca4fb88e7ccdfd11417b564e325665ac"), looks := false }, kinds := [], alts := [], laidByText := true, laidKinds := [.data, .data, .data], laidTests := true, laidLooks := .later }
def CalendarDurationsUptoCardSaid : Prop := Claim7.holds Tryd.pinned (.plain (OpenSpec.upto calendarDurationsSpec)) calendarDurationsUptoCard
end Rows
end Go.Proofs.YtfdldadjimcciaaDoor
