/-
  No cell of these rows narrows 'for every input' (looked for: loops, veiled, ifaces, maps, wideKeys, modest, calm, conditions, laid).
  DERIVED. THE GIVEN ROWS OF THIS SEAT. 2 by the template 'for every input the law returns true; each argument reads behind the call as it read before'; 0 by the template 'total and deterministic' (their statements: YtlhijbfphpkndaaTotals.lean).
  GIVEN WITH THE SEED: the statements are not yours to turn. If you find one false, say at which input.
  Laid BY PROGRAM, IN A SANDBOX (cutbox-rows.mjs): the forced cells as the released guide's own fill.sh prints them over the translation a46d5c8166b17c5d… (all of the seat's roots in one cut). By AI agents, Wed Nov 11 2026. No macro, syntax, notation, axiom, sorry.
-/
import Derived.Test.YtlhijbfphpkndaaChecked
import GoSem.Claim
import GoSem.ClaimJoined
import GoSem.ClaimMapViews
import Derived.JoinedTies
import Derived.KernelRfl
namespace Go.Proofs.Ytlhijbfphpkndaa
/- THE CELL 'sum', in the pinned program and in every row, IS THE sha256 OF THE DUMP (.gsa) THAT YtlhijbfphpkndaaProg.lean LOADS. Nothing in Lean hashes anything: it is a label: what it is worth is what the hold of that sum in a sandbox is worth. -/
noncomputable def Try.pinned : Pinned := { name := "ytlhijbfphpkndaa", sum := "a46d5c8166b17c5d4d4d3f7ccb226cbdf4f93415f00a7da9b19591dcebe6e2b7", checked := Try.checked }
namespace Rows
def none {H : Type} : Left H := { results := [], args := [] }

/-- 'pairinglaw11.TokensScan': WHATEVER THE INPUT: true; the input reads as it did. -/
def tokensScanSpec : ChangeSpec := { name := "tokensScan", fn := fun _ => fun
  | [d] => { results := [.lit (.bool true)], args := [d] }
  | _ => none }
def tokensScanRow : OpenClaim := { program := "ytlhijbfphpkndaa", sum := "a46d5c8166b17c5d4d4d3f7ccb226cbdf4f93415f00a7da9b19591dcebe6e2b7", func := "pairing/pairinglaw11.TokensScan", spec := "tokensScan", inPlace := ["internal/bytealg.IndexByteString", "internal/bytealg.IndexString", "internal/abi.NoEscape", "internal/bytealg.MakeNoZero"], named := ["internal/bytealg.MaxLen"], apart := false }
def TokensScanSaid : Prop := tokensScanRow.holds Try.pinned (OpenSpec.ofChange tokensScanSpec)

/-- ITS FALSE NEIGHBOUR: 'it returns false'. Refute it at one input. -/
def tokensScanWrong : ChangeSpec := { name := "tokensScan", fn := fun _ => fun
  | [d] => { results := [.lit (.bool false)], args := [d] }
  | _ => none }
def TokensScanWrongFalsely : Prop := tokensScanRow.holds Try.pinned (OpenSpec.ofChange tokensScanWrong)

/-- 'pairinglaw11.TokensLimit': WHATEVER THE INPUT: true; the input reads as it did. -/
def tokensLimitSpec : ChangeSpec := { name := "tokensLimit", fn := fun _ => fun
  | [d] => { results := [.lit (.bool true)], args := [d] }
  | _ => none }
def tokensLimitRow : OpenClaim := { program := "ytlhijbfphpkndaa", sum := "a46d5c8166b17c5d4d4d3f7ccb226cbdf4f93415f00a7da9b19591dcebe6e2b7", func := "pairing/pairinglaw11.TokensLimit", spec := "tokensLimit", inPlace := ["internal/bytealg.IndexByteString", "internal/bytealg.IndexString", "internal/abi.NoEscape", "internal/bytealg.MakeNoZero"], named := ["internal/bytealg.MaxLen"], apart := false }
def TokensLimitSaid : Prop := tokensLimitRow.holds Try.pinned (OpenSpec.ofChange tokensLimitSpec)

/-- ITS FALSE NEIGHBOUR: 'it returns false'. Refute it at one input. -/
def tokensLimitWrong : ChangeSpec := { name := "tokensLimit", fn := fun _ => fun
  | [d] => { results := [.lit (.bool false)], args := [d] }
  | _ => none }
def TokensLimitWrongFalsely : Prop := tokensLimitRow.holds Try.pinned (OpenSpec.ofChange tokensLimitWrong)

/- THE SECOND FORM. 'bulk': how many values and letters a reading holds, each counted each time it is reached (what is shared counts as often as it is met; a slice's spare places count too). A statement '..UptoSaid' is the law's where the arguments, and the package variables that the reading takes, are together of bulk at most 1048576: NARROWER than '..Said'. Prove '..Said' where nothing that the law and all that it calls make is longer than what came in: it says more and counts as full. Else prove '..UptoSaid'. A law counts once. -/
mutual
def uptoBulk {H : Type} : DataW H → Nat
  | .lit (.string bytes) => bytes.length + 1
  | .lit _ => 1
  | .nil => 1
  | .ptr d => uptoBulk d + 1
  | .slice elems spare => uptoBulkAll elems + uptoBulkAll spare + 1
  | .agg parts => uptoBulkAll parts + 1
  | .iface _ d => uptoBulk d + 1
  | .map entries => uptoBulkEntries entries + 1
  | .held _ => 1
def uptoBulkAll {H : Type} : List (DataW H) → Nat
  | [] => 0
  | d :: r => uptoBulk d + uptoBulkAll r
def uptoBulkEntries {H : Type} : List (Lit × DataW H) → Nat
  | [] => 0
  | x :: r => uptoBulkEntry x + uptoBulkEntries r
def uptoBulkEntry {H : Type} : Lit × DataW H → Nat
  | (.string bytes, d) => bytes.length + uptoBulk d + 1
  | (_, d) => uptoBulk d + 1
 end
def uptoSmall : (H : Type) → List (DataW H) → Bool := fun _ ds => decide (uptoBulkAll ds ≤ 1048576)
def OpenSpec.upto (s : _root_.Go.ChangeSpec) : _root_.Go.OpenSpec := { _root_.Go.OpenSpec.ofChange s with cond := some uptoSmall }

/-- 'pairinglaw11.TokensScan', WHERE WHAT IT READS IS OF BULK AT MOST 1048576: true; the input reads as it did. -/
def tokensScanUptoRow : OpenClaim := { program := "ytlhijbfphpkndaa", sum := "a46d5c8166b17c5d4d4d3f7ccb226cbdf4f93415f00a7da9b19591dcebe6e2b7", func := "pairing/pairinglaw11.TokensScan", spec := "tokensScan", inPlace := ["internal/bytealg.IndexByteString", "internal/bytealg.IndexString", "internal/abi.NoEscape", "internal/bytealg.MakeNoZero"], named := ["internal/bytealg.MaxLen"], apart := false, narrowed := true }
def TokensScanUptoSaid : Prop := tokensScanUptoRow.holds Try.pinned (OpenSpec.upto tokensScanSpec)

/-- 'pairinglaw11.TokensLimit', WHERE WHAT IT READS IS OF BULK AT MOST 1048576: true; the input reads as it did. -/
def tokensLimitUptoRow : OpenClaim := { program := "ytlhijbfphpkndaa", sum := "a46d5c8166b17c5d4d4d3f7ccb226cbdf4f93415f00a7da9b19591dcebe6e2b7", func := "pairing/pairinglaw11.TokensLimit", spec := "tokensLimit", inPlace := ["internal/bytealg.IndexByteString", "internal/bytealg.IndexString", "internal/abi.NoEscape", "internal/bytealg.MakeNoZero"], named := ["internal/bytealg.MaxLen"], apart := false, narrowed := true }
def TokensLimitUptoSaid : Prop := tokensLimitUptoRow.holds Try.pinned (OpenSpec.upto tokensLimitSpec)

end Rows
end Go.Proofs.Ytlhijbfphpkndaa
