/-
  No cell of these rows narrows 'for every input' (looked for: loops, veiled, ifaces, maps, wideKeys, modest, calm, conditions, laid).
  DERIVED. THE GIVEN ROWS OF THIS SEAT. 3 by the template 'for every input the law returns true; each argument reads behind the call as it read before'; 0 by the template 'total and deterministic' (their statements: YtgcjkfkfdehpcaaGreatTotals.lean).
  GIVEN WITH THE SEED: the statements are not yours to turn. If you find one false, say at which input.
  Laid BY PROGRAM, IN A SANDBOX (cutbox-rows.mjs): the forced cells as the released guide's own fill.sh prints them over the translation 3a3d2291ef3bbea1… (all of the seat's roots in one cut). By AI agents, Wed Nov 11 2026. No macro, syntax, notation, axiom, sorry.
-/
import Derived.Test.YtgcjkfkfdehpcaaGreatChecked
import GoSem.Claim
import GoSem.ClaimJoined
import GoSem.ClaimMapViews
import Derived.JoinedTies
import Derived.KernelRfl
namespace Go.Proofs.YtgcjkfkfdehpcaaGreat
/- THE CELL 'sum', in the pinned program and in every row, IS THE sha256 OF THE DUMP (.gsa) THAT YtgcjkfkfdehpcaaGreatProg.lean LOADS. Nothing in Lean hashes anything: it is a label: what it is worth is what the hold of that sum in a sandbox is worth. -/
noncomputable def Tryz.pinned : Pinned := { name := "ytgcjkfkfdehpcaagreat", sum := "3a3d2291ef3bbea1da3f81875e36229c3c9d708787a2f8288788aae09da39f43", checked := Tryz.checked }
namespace Rows
def none {H : Type} : Left H := { results := [], args := [] }

/-- 'pairinglaw12.GrammarParses': WHATEVER THE INPUT: true; the input reads as it did. -/
def grammarParsesSpec : ChangeSpec := { name := "grammarParses", fn := fun _ => fun
  | [d] => { results := [.lit (.bool true)], args := [d] }
  | _ => none }
def grammarParsesRow : OpenClaim := { program := "ytgcjkfkfdehpcaagreat", sum := "3a3d2291ef3bbea1da3f81875e36229c3c9d708787a2f8288788aae09da39f43", func := "pairing/pairinglaw12.GrammarParses", spec := "grammarParses", inPlace := ["internal/bytealg.IndexByteString", "internal/bytealg.IndexString", "internal/abi.NoEscape", "internal/bytealg.MakeNoZero"], recurses := true, named := ["internal/bytealg.MaxLen"], apart := false }
def GrammarParsesSaid : Prop := grammarParsesRow.holds Tryz.pinned (OpenSpec.ofChange grammarParsesSpec)

/-- ITS FALSE NEIGHBOUR: 'it returns false'. Refute it at one input. -/
def grammarParsesWrong : ChangeSpec := { name := "grammarParses", fn := fun _ => fun
  | [d] => { results := [.lit (.bool false)], args := [d] }
  | _ => none }
def GrammarParsesWrongFalsely : Prop := grammarParsesRow.holds Tryz.pinned (OpenSpec.ofChange grammarParsesWrong)

/-- 'pairinglaw12.GrammarPieces': WHATEVER THE INPUT: true; the input reads as it did. -/
def grammarPiecesSpec : ChangeSpec := { name := "grammarPieces", fn := fun _ => fun
  | [d] => { results := [.lit (.bool true)], args := [d] }
  | _ => none }
def grammarPiecesRow : OpenClaim := { program := "ytgcjkfkfdehpcaagreat", sum := "3a3d2291ef3bbea1da3f81875e36229c3c9d708787a2f8288788aae09da39f43", func := "pairing/pairinglaw12.GrammarPieces", spec := "grammarPieces", inPlace := ["internal/bytealg.IndexByteString", "internal/bytealg.IndexString", "internal/abi.NoEscape", "internal/bytealg.MakeNoZero"], recurses := true, named := ["internal/bytealg.MaxLen"], apart := false }
def GrammarPiecesSaid : Prop := grammarPiecesRow.holds Tryz.pinned (OpenSpec.ofChange grammarPiecesSpec)

/-- ITS FALSE NEIGHBOUR: 'it returns false'. Refute it at one input. -/
def grammarPiecesWrong : ChangeSpec := { name := "grammarPieces", fn := fun _ => fun
  | [d] => { results := [.lit (.bool false)], args := [d] }
  | _ => none }
def GrammarPiecesWrongFalsely : Prop := grammarPiecesRow.holds Tryz.pinned (OpenSpec.ofChange grammarPiecesWrong)

/-- 'pairinglaw12.GrammarDeep': WHATEVER THE INPUT: true; the input reads as it did. -/
def grammarDeepSpec : ChangeSpec := { name := "grammarDeep", fn := fun _ => fun
  | [d] => { results := [.lit (.bool true)], args := [d] }
  | _ => none }
def grammarDeepRow : OpenClaim := { program := "ytgcjkfkfdehpcaagreat", sum := "3a3d2291ef3bbea1da3f81875e36229c3c9d708787a2f8288788aae09da39f43", func := "pairing/pairinglaw12.GrammarDeep", spec := "grammarDeep", inPlace := ["internal/bytealg.IndexByteString", "internal/bytealg.IndexString", "internal/abi.NoEscape", "internal/bytealg.MakeNoZero"], recurses := true, named := ["internal/bytealg.MaxLen"], apart := false }
def GrammarDeepSaid : Prop := grammarDeepRow.holds Tryz.pinned (OpenSpec.ofChange grammarDeepSpec)

/-- ITS FALSE NEIGHBOUR: 'it returns false'. Refute it at one input. -/
def grammarDeepWrong : ChangeSpec := { name := "grammarDeep", fn := fun _ => fun
  | [d] => { results := [.lit (.bool false)], args := [d] }
  | _ => none }
def GrammarDeepWrongFalsely : Prop := grammarDeepRow.holds Tryz.pinned (OpenSpec.ofChange grammarDeepWrong)

/- THE SECOND FORM. 'bulk': how many values and letters a reading holds, each counted each time it is reached (what is shared counts as often as it is met; a slice's spare places count too). A statement '..UptoSaid' is the law's where the arguments, and the package variables that the reading takes, are together of bulk at most 1048576: NARROWER than '..Said'. Prove '..Said' where nothing that the law and all that it calls make is longer than what came in: it says more and counts as full. Else prove '..UptoSaid'. A law counts once. -/
mutual
def uptoBulk {H : Type} : DataW H → Nat
  | .lit (.string bytes) => bytes.length + 1
  | .lit _ => 1
  | .nil => 1
  | .ptr d => uptoBulk d + 1
  | .slice elems spare => uptoBulkAll elems + uptoBulkAll spare + 1
  | .agg parts => uptoBulkAll parts + 1
  | .iface _ d => uptoBulk d + 1
  | .map entries => uptoBulkEntries entries + 1
  | .held _ => 1
def uptoBulkAll {H : Type} : List (DataW H) → Nat
  | [] => 0
  | d :: r => uptoBulk d + uptoBulkAll r
def uptoBulkEntries {H : Type} : List (Lit × DataW H) → Nat
  | [] => 0
  | x :: r => uptoBulkEntry x + uptoBulkEntries r
def uptoBulkEntry {H : Type} : Lit × DataW H → Nat
  | (.string bytes, d) => bytes.length + uptoBulk d + 1
  | (_, d) => uptoBulk d + 1
 end
def uptoSmall : (H : Type) → List (DataW H) → Bool := fun _ ds => decide (uptoBulkAll ds ≤ 1048576)
def OpenSpec.upto (s : _root_.Go.ChangeSpec) : _root_.Go.OpenSpec := { _root_.Go.OpenSpec.ofChange s with cond := some uptoSmall }

/-- 'pairinglaw12.GrammarParses', WHERE WHAT IT READS IS OF BULK AT MOST 1048576: true; the input reads as it did. -/
def grammarParsesUptoRow : OpenClaim := { program := "ytgcjkfkfdehpcaagreat", sum := "3a3d2291ef3bbea1da3f81875e36229c3c9d708787a2f8288788aae09da39f43", func := "pairing/pairinglaw12.GrammarParses", spec := "grammarParses", inPlace := ["internal/bytealg.IndexByteString", "internal/bytealg.IndexString", "internal/abi.NoEscape", "internal/bytealg.MakeNoZero"], recurses := true, named := ["internal/bytealg.MaxLen"], apart := false, narrowed := true }
def GrammarParsesUptoSaid : Prop := grammarParsesUptoRow.holds Tryz.pinned (OpenSpec.upto grammarParsesSpec)

/-- 'pairinglaw12.GrammarPieces', WHERE WHAT IT READS IS OF BULK AT MOST 1048576: true; the input reads as it did. -/
def grammarPiecesUptoRow : OpenClaim := { program := "ytgcjkfkfdehpcaagreat", sum := "3a3d2291ef3bbea1da3f81875e36229c3c9d708787a2f8288788aae09da39f43", func := "pairing/pairinglaw12.GrammarPieces", spec := "grammarPieces", inPlace := ["internal/bytealg.IndexByteString", "internal/bytealg.IndexString", "internal/abi.NoEscape", "internal/bytealg.MakeNoZero"], recurses := true, named := ["internal/bytealg.MaxLen"], apart := false, narrowed := true }
def GrammarPiecesUptoSaid : Prop := grammarPiecesUptoRow.holds Tryz.pinned (OpenSpec.upto grammarPiecesSpec)

/-- 'pairinglaw12.GrammarDeep', WHERE WHAT IT READS IS OF BULK AT MOST 1048576: true; the input reads as it did. -/
def grammarDeepUptoRow : OpenClaim := { program := "ytgcjkfkfdehpcaagreat", sum := "3a3d2291ef3bbea1da3f81875e36229c3c9d708787a2f8288788aae09da39f43", func := "pairing/pairinglaw12.GrammarDeep", spec := "grammarDeep", inPlace := ["internal/bytealg.IndexByteString", "internal/bytealg.IndexString", "internal/abi.NoEscape", "internal/bytealg.MakeNoZero"], recurses := true, named := ["internal/bytealg.MaxLen"], apart := false, narrowed := true }
def GrammarDeepUptoSaid : Prop := grammarDeepUptoRow.holds Tryz.pinned (OpenSpec.upto grammarDeepSpec)

end Rows
end Go.Proofs.YtgcjkfkfdehpcaaGreat
