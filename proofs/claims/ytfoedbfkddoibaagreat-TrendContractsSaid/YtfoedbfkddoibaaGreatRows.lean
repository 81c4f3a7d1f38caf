/-
  NARROWER THAN 'FOR EVERY INPUT', by the rows' own cells (each row's printed sentence says how): TrendExact: loops · TrendContracts: loops.
  DERIVED. THE GIVEN ROWS OF THIS SEAT. 4 by the template 'for every input the law returns true; each argument reads behind the call as it read before'; 0 by the template 'total and deterministic' (their statements: YtfoedbfkddoibaaGreatTotals.lean).
  GIVEN WITH THE SEED: the statements are not yours to turn. If you find one false, say at which input.
  Laid BY PROGRAM, IN A SANDBOX (cutbox-rows.mjs): the forced cells as the released guide's own fill.sh prints them over the translation bd3d30d71ba7958b… (all of the seat's roots in one cut). By AI agents, Wed Nov 11 2026. No macro, syntax, notation, axiom, sorry.
-/
import Derived.Test.YtfoedbfkddoibaaGreatChecked
import GoSem.Claim
import GoSem.ClaimJoined
import GoSem.ClaimMapViews
import Derived.JoinedTies
import Derived.KernelRfl
namespace Go.Proofs.YtfoedbfkddoibaaGreat
/- THE CELL 'sum', in the pinned program and in every row, IS THE sha256 OF THE DUMP (.gsa) THAT YtfoedbfkddoibaaGreatProg.lean LOADS. Nothing in Lean hashes anything: it is a label: what it is worth is what the hold of that sum in a sandbox is worth. -/
noncomputable def Tryz.pinned : Pinned := { name := "ytfoedbfkddoibaagreat", sum := "bd3d30d71ba7958bc65ed4e2e4a3f6af29ac333bfcecf4262639aac2b86e758a", checked := Tryz.checked }
namespace Rows
def none {H : Type} : Left H := { results := [], args := [] }

/-- 'pairinglaw18.TrendExact': WHATEVER THE INPUT: true; the input reads as it did. -/
def trendExactSpec : ChangeSpec := { name := "trendExact", fn := fun _ => fun
  | [d1, d2, d3, d4] => { results := [.lit (.bool true)], args := [d1, d2, d3, d4] }
  | _ => none }
def trendExactRow : OpenClaim := { program := "ytfoedbfkddoibaagreat", sum := "bd3d30d71ba7958bc65ed4e2e4a3f6af29ac333bfcecf4262639aac2b86e758a", func := "pairing/pairinglaw18.TrendExact", spec := "trendExact", inPlace := ["internal/bytealg.IndexByteString", "internal/bytealg.IndexString"], unfollowed := true, recurses := true, named := ["internal/bytealg.MaxLen"], loops := true, plainKeys := false, apart := false }
def TrendExactSaid : Prop := trendExactRow.holds Tryz.pinned (OpenSpec.ofChange trendExactSpec)

/-- ITS FALSE NEIGHBOUR: 'it returns false'. Refute it at one input. -/
def trendExactWrong : ChangeSpec := { name := "trendExact", fn := fun _ => fun
  | [d1, d2, d3, d4] => { results := [.lit (.bool false)], args := [d1, d2, d3, d4] }
  | _ => none }
def TrendExactWrongFalsely : Prop := trendExactRow.holds Tryz.pinned (OpenSpec.ofChange trendExactWrong)

/-- 'pairinglaw18.TrendBuilt': WHATEVER THE INPUT: true; the input reads as it did. -/
def trendBuiltSpec : ChangeSpec := { name := "trendBuilt", fn := fun _ => fun
  | [d1, d2, d3] => { results := [.lit (.bool true)], args := [d1, d2, d3] }
  | _ => none }
def trendBuiltRow : OpenClaim := { program := "ytfoedbfkddoibaagreat", sum := "bd3d30d71ba7958bc65ed4e2e4a3f6af29ac333bfcecf4262639aac2b86e758a", func := "pairing/pairinglaw18.TrendBuilt", spec := "trendBuilt", inPlace := ["internal/bytealg.IndexByteString", "internal/bytealg.IndexString"], unfollowed := true, recurses := true, named := ["internal/bytealg.MaxLen"], plainKeys := false, apart := false }
def TrendBuiltSaid : Prop := trendBuiltRow.holds Tryz.pinned (OpenSpec.ofChange trendBuiltSpec)

/-- ITS FALSE NEIGHBOUR: 'it returns false'. Refute it at one input. -/
def trendBuiltWrong : ChangeSpec := { name := "trendBuilt", fn := fun _ => fun
  | [d1, d2, d3] => { results := [.lit (.bool false)], args := [d1, d2, d3] }
  | _ => none }
def TrendBuiltWrongFalsely : Prop := trendBuiltRow.holds Tryz.pinned (OpenSpec.ofChange trendBuiltWrong)

/-- 'pairinglaw18.TrendContracts': WHATEVER THE INPUT: true; the input reads as it did. -/
def trendContractsSpec : ChangeSpec := { name := "trendContracts", fn := fun _ => fun
  | [d1, d2] => { results := [.lit (.bool true)], args := [d1, d2] }
  | _ => none }
def trendContractsRow : OpenClaim := { program := "ytfoedbfkddoibaagreat", sum := "bd3d30d71ba7958bc65ed4e2e4a3f6af29ac333bfcecf4262639aac2b86e758a", func := "pairing/pairinglaw18.TrendContracts", spec := "trendContracts", inPlace := ["internal/bytealg.IndexByteString", "internal/bytealg.IndexString"], unfollowed := true, recurses := true, named := ["internal/bytealg.MaxLen"], loops := true, plainKeys := false, apart := false }
def TrendContractsSaid : Prop := trendContractsRow.holds Tryz.pinned (OpenSpec.ofChange trendContractsSpec)

/-- ITS FALSE NEIGHBOUR: 'it returns false'. Refute it at one input. -/
def trendContractsWrong : ChangeSpec := { name := "trendContracts", fn := fun _ => fun
  | [d1, d2] => { results := [.lit (.bool false)], args := [d1, d2] }
  | _ => none }
def TrendContractsWrongFalsely : Prop := trendContractsRow.holds Tryz.pinned (OpenSpec.ofChange trendContractsWrong)

/-- 'pairinglaw18.TrendCases': WHATEVER THE INPUT: true; the input reads as it did. -/
def trendCasesSpec : ChangeSpec := { name := "trendCases", fn := fun _ => fun
  | [d] => { results := [.lit (.bool true)], args := [d] }
  | _ => none }
def trendCasesRow : OpenClaim := { program := "ytfoedbfkddoibaagreat", sum := "bd3d30d71ba7958bc65ed4e2e4a3f6af29ac333bfcecf4262639aac2b86e758a", func := "pairing/pairinglaw18.TrendCases", spec := "trendCases", inPlace := ["internal/bytealg.IndexByteString", "internal/bytealg.IndexString"], unfollowed := true, recurses := true, named := ["internal/bytealg.MaxLen"], plainKeys := false, apart := false }
def TrendCasesSaid : Prop := trendCasesRow.holds Tryz.pinned (OpenSpec.ofChange trendCasesSpec)

/-- ITS FALSE NEIGHBOUR: 'it returns false'. Refute it at one input. -/
def trendCasesWrong : ChangeSpec := { name := "trendCases", fn := fun _ => fun
  | [d] => { results := [.lit (.bool false)], args := [d] }
  | _ => none }
def TrendCasesWrongFalsely : Prop := trendCasesRow.holds Tryz.pinned (OpenSpec.ofChange trendCasesWrong)

/- THE SECOND FORM. 'bulk': how many values and letters a reading holds, each counted each time it is reached (what is shared counts as often as it is met; a slice's spare places count too). A statement '..UptoSaid' is the law's where the arguments, and the package variables that the reading takes, are together of bulk at most 1048576: NARROWER than '..Said'. Prove '..Said' where nothing that the law and all that it calls make is longer than what came in: it says more and counts as full. Else prove '..UptoSaid'. A law counts once. -/
mutual
def uptoBulk {H : Type} : DataW H → Nat
  | .lit (.string bytes) => bytes.length + 1
  | .lit _ => 1
  | .nil => 1
  | .ptr d => uptoBulk d + 1
  | .slice elems spare => uptoBulkAll elems + uptoBulkAll spare + 1
  | .agg parts => uptoBulkAll parts + 1
  | .iface _ d => uptoBulk d + 1
  | .map entries => uptoBulkEntries entries + 1
  | .held _ => 1
def uptoBulkAll {H : Type} : List (DataW H) → Nat
  | [] => 0
  | d :: r => uptoBulk d + uptoBulkAll r
def uptoBulkEntries {H : Type} : List (Lit × DataW H) → Nat
  | [] => 0
  | x :: r => uptoBulkEntry x + uptoBulkEntries r
def uptoBulkEntry {H : Type} : Lit × DataW H → Nat
  | (.string bytes, d) => bytes.length + uptoBulk d + 1
  | (_, d) => uptoBulk d + 1
 end
def uptoSmall : (H : Type) → List (DataW H) → Bool := fun _ ds => decide (uptoBulkAll ds ≤ 1048576)
def OpenSpec.upto (s : _root_.Go.ChangeSpec) : _root_.Go.OpenSpec := { _root_.Go.OpenSpec.ofChange s with cond := some uptoSmall }

/-- 'pairinglaw18.TrendExact', WHERE WHAT IT READS IS OF BULK AT MOST 1048576: true; the input reads as it did. -/
def trendExactUptoRow : OpenClaim := { program := "ytfoedbfkddoibaagreat", sum := "bd3d30d71ba7958bc65ed4e2e4a3f6af29ac333bfcecf4262639aac2b86e758a", func := "pairing/pairinglaw18.TrendExact", spec := "trendExact", inPlace := ["internal/bytealg.IndexByteString", "internal/bytealg.IndexString"], unfollowed := true, recurses := true, named := ["internal/bytealg.MaxLen"], loops := true, plainKeys := false, apart := false, narrowed := true }
def TrendExactUptoSaid : Prop := trendExactUptoRow.holds Tryz.pinned (OpenSpec.upto trendExactSpec)

/-- 'pairinglaw18.TrendBuilt', WHERE WHAT IT READS IS OF BULK AT MOST 1048576: true; the input reads as it did. -/
def trendBuiltUptoRow : OpenClaim := { program := "ytfoedbfkddoibaagreat", sum := "bd3d30d71ba7958bc65ed4e2e4a3f6af29ac333bfcecf4262639aac2b86e758a", func := "pairing/pairinglaw18.TrendBuilt", spec := "trendBuilt", inPlace := ["internal/bytealg.IndexByteString", "internal/bytealg.IndexString"], unfollowed := true, recurses := true, named := ["internal/bytealg.MaxLen"], plainKeys := false, apart := false, narrowed := true }
def TrendBuiltUptoSaid : Prop := trendBuiltUptoRow.holds Tryz.pinned (OpenSpec.upto trendBuiltSpec)

/-- 'pairinglaw18.TrendContracts', WHERE WHAT IT READS IS OF BULK AT MOST 1048576: true; the input reads as it did. -/
def trendContractsUptoRow : OpenClaim := { program := "ytfoedbfkddoibaagreat", sum := "bd3d30d71ba7958bc65ed4e2e4a3f6af29ac333bfcecf4262639aac2b86e758a", func := "pairing/pairinglaw18.TrendContracts", spec := "trendContracts", inPlace := ["internal/bytealg.IndexByteString", "internal/bytealg.IndexString"], unfollowed := true, recurses := true, named := ["internal/bytealg.MaxLen"], loops := true, plainKeys := false, apart := false, narrowed := true }
def TrendContractsUptoSaid : Prop := trendContractsUptoRow.holds Tryz.pinned (OpenSpec.upto trendContractsSpec)

/-- 'pairinglaw18.TrendCases', WHERE WHAT IT READS IS OF BULK AT MOST 1048576: true; the input reads as it did. -/
def trendCasesUptoRow : OpenClaim := { program := "ytfoedbfkddoibaagreat", sum := "bd3d30d71ba7958bc65ed4e2e4a3f6af29ac333bfcecf4262639aac2b86e758a", func := "pairing/pairinglaw18.TrendCases", spec := "trendCases", inPlace := ["internal/bytealg.IndexByteString", "internal/bytealg.IndexString"], unfollowed := true, recurses := true, named := ["internal/bytealg.MaxLen"], plainKeys := false, apart := false, narrowed := true }
def TrendCasesUptoSaid : Prop := trendCasesUptoRow.holds Tryz.pinned (OpenSpec.upto trendCasesSpec)

end Rows
end Go.Proofs.YtfoedbfkddoibaaGreat
