/-
  DERIVED. GIVEN WITH THE SEED: THE CARDS: each row of YtjdjbjblblmdjaaDoorRows.lean that lists a variable, with what it lists TIED to the program's text (the seventh form; the later family's looks); each row that meets fmt, with fmt's text TOLD by the authors' own Lean function (tested against real Go, not proved from fmt's source: count such statements apart). THE CARD IS WHAT COUNTS. Prove the row's statement (the work); the ties are given (YtjdjbjblblmdjaaDoorTie.lean); close each card by the builder's one call (the guide's Derived/Test/ToyasCard.lean, 'card_holds'). Laid BY PROGRAM, IN A SANDBOX (cutbox-door.mjs). By AI agents, Wed Nov 11 2026. No macro, syntax, notation, axiom, sorry.
-/
import Derived.Test.YtjdjbjblblmdjaaDoorRows
import GoSem.ClaimSeven
namespace Go.Proofs.YtjdjbjblblmdjaaDoor
namespace Rows

/-- THE TIED CARD OF 'pairinglaw13.TypesChain'. -/
def typesChainCard : Claim7 := { stood := { row := typesChainRow, standIns := [], harness := (true, "6f515a313013aebfddb5a058027c343760a891005d1b7e0969e4f94c8e1f30d9"), looks := false }, kinds := [], alts := [], laidByText := true, laidKinds := [.data, .data, .data], laidTests := true, laidLooks := .later }
def TypesChainCardSaid : Prop := Claim7.holds Tryd.pinned (.plain (OpenSpec.ofChange typesChainSpec)) typesChainCard

/-- THE SECOND FORM's CARD OF 'pairinglaw13.TypesChain'. -/
def typesChainUptoCard : Claim7 := { stood := { row := typesChainUptoRow, standIns := [], harness := (true, "6f515a313013aebfddb5a058027c343760a891005d1b7e0969e4f94c8e1f30d9"), looks := false }, kinds := [], alts := [], laidByText := true, laidKinds := [.data, .data, .data], laidTests := true, laidLooks := .later }
def TypesChainUptoCardSaid : Prop := Claim7.holds Tryd.pinned (.plain (OpenSpec.upto typesChainSpec)) typesChainUptoCard
end Rows
end Go.Proofs.YtjdjbjblblmdjaaDoor
