/-
  DERIVED. GIVEN WITH THE SEED: THE CARDS: each row of YtlhijbfphpkndaaDoorRows.lean that lists a variable, with what it lists TIED to the program's text (the seventh form; the later family's looks); each row that meets fmt, with fmt's text TOLD by the authors' own Lean function (tested against real Go, not proved from fmt's source: count such statements apart). THE CARD IS WHAT COUNTS. Prove the row's statement (the work); the ties are given (YtlhijbfphpkndaaDoorTie.lean); close each card by the builder's one call (the guide's Derived/Test/ToyasCard.lean, 'card_holds'). Laid BY PROGRAM, IN A SANDBOX (cutbox-door.mjs). By AI agents, Wed Nov 11 2026. No macro, syntax, notation, axiom, sorry.
-/
import Derived.Test.YtlhijbfphpkndaaDoorRows
import GoSem.ClaimSeven
namespace Go.Proofs.YtlhijbfphpkndaaDoor
namespace Rows

/-- THE TIED CARD OF 'pairinglaw11.TokensNumbers'. -/
def tokensNumbersCard : Claim7 := { stood := { row := tokensNumbersRow, standIns := [], harness := (true, "fff6cbd9c20a9831fe0b3b2951d6c13144727dad63ba707834b58a84831160e1"), looks := false }, kinds := [], alts := [], laidByText := true, laidKinds := [.data, .data, .data], laidTests := true, laidLooks := .later }
def TokensNumbersCardSaid : Prop := Claim7.holds Tryd.pinned (.plain (OpenSpec.ofChange tokensNumbersSpec)) tokensNumbersCard

/-- THE TIED CARD OF 'pairinglaw11.TokensValid'. -/
def tokensValidCard : Claim7 := { stood := { row := tokensValidRow, standIns := [], harness := (true, "fff6cbd9c20a9831fe0b3b2951d6c13144727dad63ba707834b58a84831160e1"), looks := false }, kinds := [], alts := [], laidByText := true, laidKinds := [.data, .data, .data], laidTests := true, laidLooks := .later }
def TokensValidCardSaid : Prop := Claim7.holds Tryd.pinned (.plain (OpenSpec.ofChange tokensValidSpec)) tokensValidCard

/-- THE TIED CARD OF 'pairinglaw11.TokensBack'. -/
def tokensBackCard : Claim7 := { stood := { row := tokensBackRow, standIns := [], harness := (true, "fff6cbd9c20a9831fe0b3b2951d6c13144727dad63ba707834b58a84831160e1"), looks := false }, kinds := [], alts := [], laidByText := true, laidKinds := [.data, .data, .data], laidTests := true, laidLooks := .later }
def TokensBackCardSaid : Prop := Claim7.holds Tryd.pinned (.plain (OpenSpec.ofChange tokensBackSpec)) tokensBackCard

/-- THE SECOND FORM's CARD OF 'pairinglaw11.TokensNumbers'. -/
def tokensNumbersUptoCard : Claim7 := { stood := { row := tokensNumbersUptoRow, standIns := [], harness := (true, "fff6cbd9c20a9831fe0b3b2951d6c13144727dad63ba707834b58a84831160e1"), looks := false }, kinds := [], alts := [], laidByText := true, laidKinds := [.data, .data, .data], laidTests := true, laidLooks := .later }
def TokensNumbersUptoCardSaid : Prop := Claim7.holds Tryd.pinned (.plain (OpenSpec.upto tokensNumbersSpec)) tokensNumbersUptoCard

/-- THE SECOND FORM's CARD OF 'pairinglaw11.TokensValid'. -/
def tokensValidUptoCard : Claim7 := { stood := { row := tokensValidUptoRow, standIns := [], harness := (true, "fff6cbd9c20a9831fe0b3b2951d6c13144727dad63ba707834b58a84831160e1"), looks := false }, kinds := [], alts := [], laidByText := true, laidKinds := [.data, .data, .data], laidTests := true, laidLooks := .later }
def TokensValidUptoCardSaid : Prop := Claim7.holds Tryd.pinned (.plain (OpenSpec.upto tokensValidSpec)) tokensValidUptoCard

/-- THE SECOND FORM's CARD OF 'pairinglaw11.TokensBack'. -/
def tokensBackUptoCard : Claim7 := { stood := { row := tokensBackUptoRow, standIns := [], harness := (true, "fff6cbd9c20a9831fe0b3b2951d6c13144727dad63ba707834b58a84831160e1"), looks := false }, kinds := [], alts := [], laidByText := true, laidKinds := [.data, .data, .data], laidTests := true, laidLooks := .later }
def TokensBackUptoCardSaid : Prop := Claim7.holds Tryd.pinned (.plain (OpenSpec.upto tokensBackSpec)) tokensBackUptoCard
end Rows
end Go.Proofs.YtlhijbfphpkndaaDoor
