/-
  DERIVED. GIVEN WITH THE SEED: THE CARDS: each row of YtcejjdmnlejbaaaGreatDoorRows.lean that lists a variable, with what it lists TIED to the program's text (the seventh form; the later family's looks); each row that meets fmt, with fmt's text TOLD by the authors' own Lean function (tested against real Go, not proved from fmt's source: count such statements apart). THE CARD IS WHAT COUNTS. Prove the row's statement (the work); the ties are given (YtcejjdmnlejbaaaGreatDoorTie.lean); close each card by the builder's one call (the guide's Derived/Test/ToyasCard.lean, 'card_holds'). Laid BY PROGRAM, IN A SANDBOX (cutbox-door.mjs). By AI agents, Wed Nov 11 2026. No macro, syntax, notation, axiom, sorry.
-/
import Derived.Test.YtcejjdmnlejbaaaGreatDoorRows
import GoSem.ClaimSeven
namespace Go.Proofs.YtcejjdmnlejbaaaGreatDoor
namespace Rows

/-- THE TIED CARD OF 'pairinglaw12.GrammarFormats'. -/
def grammarFormatsCard : Claim7 := { stood := { row := grammarFormatsRow, standIns := [], harness := (true, "d0f85701ed5ca69b601d07ed7369c431b9690ed49042aa5ce00339f23ef6b077"), looks := false }, kinds := [], alts := [], laidByText := true, laidKinds := [.data, .data, .data], laidTests := true, laidLooks := .later }
def GrammarFormatsCardSaid : Prop := Claim7.holds Tryz.pinned (.plain (OpenSpec.ofChange grammarFormatsSpec)) grammarFormatsCard

/-- THE TIED CARD OF 'pairinglaw12.GrammarBuilt'. -/
def grammarBuiltCard : Claim7 := { stood := { row := grammarBuiltRow, standIns := [], harness := (true, "d0f85701ed5ca69b601d07ed7369c431b9690ed49042aa5ce00339f23ef6b077"), looks := false }, kinds := [], alts := [], laidByText := true, laidKinds := [.data, .data, .data], laidTests := true, laidLooks := .later }
def GrammarBuiltCardSaid : Prop := Claim7.holds Tryz.pinned (.plain (OpenSpec.ofChange grammarBuiltSpec)) grammarBuiltCard

/-- THE TIED CARD OF 'pairinglaw12.GrammarContracts'. -/
def grammarContractsCard : Claim7 := { stood := { row := grammarContractsRow, standIns := [], harness := (true, "d0f85701ed5ca69b601d07ed7369c431b9690ed49042aa5ce00339f23ef6b077"), looks := false }, kinds := [], alts := [], laidByText := true, laidKinds := [.data, .pinned], laidTests := true, laidLooks := .later }
def GrammarContractsCardSaid : Prop := Claim7.holds Tryz.pinned (.plain (OpenSpec.ofChange grammarContractsSpec)) grammarContractsCard

/-- THE TIED CARD OF 'pairinglaw12.GrammarEdited'. -/
def grammarEditedCard : Claim7 := { stood := { row := grammarEditedRow, standIns := [], harness := (true, "d0f85701ed5ca69b601d07ed7369c431b9690ed49042aa5ce00339f23ef6b077"), looks := false }, kinds := [], alts := [], laidByText := true, laidKinds := [.data, .pinned], laidTests := true, laidLooks := .later }
def GrammarEditedCardSaid : Prop := Claim7.holds Tryz.pinned (.plain (OpenSpec.ofChange grammarEditedSpec)) grammarEditedCard

/-- THE TIED CARD OF 'pairinglaw12.GrammarWritten'. -/
def grammarWrittenCard : Claim7 := { stood := { row := grammarWrittenRow, standIns := [], harness := (true, "d0f85701ed5ca69b601d07ed7369c431b9690ed49042aa5ce00339f23ef6b077"), looks := false }, kinds := [], alts := [], laidByText := true, laidKinds := [.data, .data, .data, .data, .pinned], laidTests := true, laidLooks := .later }
def GrammarWrittenCardSaid : Prop := Claim7.holds Tryz.pinned (.plain (OpenSpec.ofChange grammarWrittenSpec)) grammarWrittenCard

/-- THE SECOND FORM's CARD OF 'pairinglaw12.GrammarFormats'. -/
def grammarFormatsUptoCard : Claim7 := { stood := { row := grammarFormatsUptoRow, standIns := [], harness := (true, "d0f85701ed5ca69b601d07ed7369c431b9690ed49042aa5ce00339f23ef6b077"), looks := false }, kinds := [], alts := [], laidByText := true, laidKinds := [.data, .data, .data], laidTests := true, laidLooks := .later }
def GrammarFormatsUptoCardSaid : Prop := Claim7.holds Tryz.pinned (.plain (OpenSpec.upto grammarFormatsSpec)) grammarFormatsUptoCard

/-- THE SECOND FORM's CARD OF 'pairinglaw12.GrammarBuilt'. -/
def grammarBuiltUptoCard : Claim7 := { stood := { row := grammarBuiltUptoRow, standIns := [], harness := (true, "d0f85701ed5ca69b601d07ed7369c431b9690ed49042aa5ce00339f23ef6b077"), looks := false }, kinds := [], alts := [], laidByText := true, laidKinds := [.data, .data, .data], laidTests := true, laidLooks := .later }
def GrammarBuiltUptoCardSaid : Prop := Claim7.holds Tryz.pinned (.plain (OpenSpec.upto grammarBuiltSpec)) grammarBuiltUptoCard

/-- THE SECOND FORM's CARD OF 'pairinglaw12.GrammarContracts'. -/
def grammarContractsUptoCard : Claim7 := { stood := { row := grammarContractsUptoRow, standIns := [], harness := (true, "d0f85701ed5ca69b601d07ed7369c431b9690ed49042aa5ce00339f23ef6b077"), looks := false }, kinds := [], alts := [], laidByText := true, laidKinds := [.data, .pinned], laidTests := true, laidLooks := .later }
def GrammarContractsUptoCardSaid : Prop := Claim7.holds Tryz.pinned (.plain (OpenSpec.upto grammarContractsSpec)) grammarContractsUptoCard

/-- THE SECOND FORM's CARD OF 'pairinglaw12.GrammarEdited'. -/
def grammarEditedUptoCard : Claim7 := { stood := { row := grammarEditedUptoRow, standIns := [], harness := (true, "d0f85701ed5ca69b601d07ed7369c431b9690ed49042aa5ce00339f23ef6b077"), looks := false }, kinds := [], alts := [], laidByText := true, laidKinds := [.data, .pinned], laidTests := true, laidLooks := .later }
def GrammarEditedUptoCardSaid : Prop := Claim7.holds Tryz.pinned (.plain (OpenSpec.upto grammarEditedSpec)) grammarEditedUptoCard

/-- THE SECOND FORM's CARD OF 'pairinglaw12.GrammarWritten'. -/
def grammarWrittenUptoCard : Claim7 := { stood := { row := grammarWrittenUptoRow, standIns := [], harness := (true, "d0f85701ed5ca69b601d07ed7369c431b9690ed49042aa5ce00339f23ef6b077"), looks := false }, kinds := [], alts := [], laidByText := true, laidKinds := [.data, .data, .data, .data, .pinned], laidTests := true, laidLooks := .later }
def GrammarWrittenUptoCardSaid : Prop := Claim7.holds Tryz.pinned (.plain (OpenSpec.upto grammarWrittenSpec)) grammarWrittenUptoCard
end Rows
end Go.Proofs.YtcejjdmnlejbaaaGreatDoor
