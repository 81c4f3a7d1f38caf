/-
  NARROWER THAN 'FOR EVERY INPUT', by the rows' own cells (each row's printed sentence says how): TypesOf: loops · TypesContracts: loops.
  DERIVED. THE GIVEN ROWS OF THIS SEAT. 5 by the template 'for every input the law returns true; each argument reads behind the call as it read before'; 0 by the template 'total and deterministic' (their statements: YtijbjnbbglcacaaTotals.lean).
  GIVEN WITH THE SEED: the statements are not yours to turn. If you find one false, say at which input.
  Laid BY PROGRAM, IN A SANDBOX (cutbox-rows.mjs): the forced cells as the released guide's own fill.sh prints them over the translation 78bb3d2ea7eab192… (all of the seat's roots in one cut). By AI agents, Wed Nov 11 2026. No macro, syntax, notation, axiom, sorry.
-/
import Derived.Test.YtijbjnbbglcacaaChecked
import GoSem.Claim
import GoSem.ClaimJoined
import GoSem.ClaimMapViews
import Derived.JoinedTies
import Derived.KernelRfl
namespace Go.Proofs.Ytijbjnbbglcacaa
/- THE CELL 'sum', in the pinned program and in every row, IS THE sha256 OF THE DUMP (.gsa) THAT YtijbjnbbglcacaaProg.lean LOADS. Nothing in Lean hashes anything: it is a label: what it is worth is what the hold of that sum in a sandbox is worth. -/
noncomputable def Try.pinned : Pinned := { name := "ytijbjnbbglcacaa", sum := "78bb3d2ea7eab1922e846ec836557009f2f4413e17e4467cdba50e493e95a0a4", checked := Try.checked }
namespace Rows
def none {H : Type} : Left H := { results := [], args := [] }

/-- 'pairinglaw13.TypesOf': WHATEVER THE INPUT: true; the input reads as it did. -/
def typesOfSpec : ChangeSpec := { name := "typesOf", fn := fun _ => fun
  | [d1, d2, d3] => { results := [.lit (.bool true)], args := [d1, d2, d3] }
  | _ => none }
def typesOfRow : OpenClaim := { program := "ytijbjnbbglcacaa", sum := "78bb3d2ea7eab1922e846ec836557009f2f4413e17e4467cdba50e493e95a0a4", func := "pairing/pairinglaw13.TypesOf", spec := "typesOf", inPlace := ["internal/bytealg.IndexByteString", "internal/bytealg.IndexString"], recurses := true, named := ["internal/bytealg.MaxLen"], loops := true, plainKeys := false, apart := false }
def TypesOfSaid : Prop := typesOfRow.holds Try.pinned (OpenSpec.ofChange typesOfSpec)

/-- ITS FALSE NEIGHBOUR: 'it returns false'. Refute it at one input. -/
def typesOfWrong : ChangeSpec := { name := "typesOf", fn := fun _ => fun
  | [d1, d2, d3] => { results := [.lit (.bool false)], args := [d1, d2, d3] }
  | _ => none }
def TypesOfWrongFalsely : Prop := typesOfRow.holds Try.pinned (OpenSpec.ofChange typesOfWrong)

/-- 'pairinglaw13.TypesBuilt': WHATEVER THE INPUT: true; the input reads as it did. -/
def typesBuiltSpec : ChangeSpec := { name := "typesBuilt", fn := fun _ => fun
  | [d1, d2, d3] => { results := [.lit (.bool true)], args := [d1, d2, d3] }
  | _ => none }
def typesBuiltRow : OpenClaim := { program := "ytijbjnbbglcacaa", sum := "78bb3d2ea7eab1922e846ec836557009f2f4413e17e4467cdba50e493e95a0a4", func := "pairing/pairinglaw13.TypesBuilt", spec := "typesBuilt", inPlace := ["internal/bytealg.IndexByteString", "internal/bytealg.IndexString"], recurses := true, named := ["internal/bytealg.MaxLen"], plainKeys := false, apart := false }
def TypesBuiltSaid : Prop := typesBuiltRow.holds Try.pinned (OpenSpec.ofChange typesBuiltSpec)

/-- ITS FALSE NEIGHBOUR: 'it returns false'. Refute it at one input. -/
def typesBuiltWrong : ChangeSpec := { name := "typesBuilt", fn := fun _ => fun
  | [d1, d2, d3] => { results := [.lit (.bool false)], args := [d1, d2, d3] }
  | _ => none }
def TypesBuiltWrongFalsely : Prop := typesBuiltRow.holds Try.pinned (OpenSpec.ofChange typesBuiltWrong)

/-- 'pairinglaw13.TypesPairs': WHATEVER THE INPUT: true; the input reads as it did. -/
def typesPairsSpec : ChangeSpec := { name := "typesPairs", fn := fun _ => fun
  | [d1, d2, d3, d4] => { results := [.lit (.bool true)], args := [d1, d2, d3, d4] }
  | _ => none }
def typesPairsRow : OpenClaim := { program := "ytijbjnbbglcacaa", sum := "78bb3d2ea7eab1922e846ec836557009f2f4413e17e4467cdba50e493e95a0a4", func := "pairing/pairinglaw13.TypesPairs", spec := "typesPairs", inPlace := ["internal/bytealg.IndexByteString", "internal/bytealg.IndexString"], recurses := true, named := ["internal/bytealg.MaxLen"], plainKeys := false, apart := false }
def TypesPairsSaid : Prop := typesPairsRow.holds Try.pinned (OpenSpec.ofChange typesPairsSpec)

/-- ITS FALSE NEIGHBOUR: 'it returns false'. Refute it at one input. -/
def typesPairsWrong : ChangeSpec := { name := "typesPairs", fn := fun _ => fun
  | [d1, d2, d3, d4] => { results := [.lit (.bool false)], args := [d1, d2, d3, d4] }
  | _ => none }
def TypesPairsWrongFalsely : Prop := typesPairsRow.holds Try.pinned (OpenSpec.ofChange typesPairsWrong)

/-- 'pairinglaw13.TypesNames': WHATEVER THE INPUT: true; the input reads as it did. -/
def typesNamesSpec : ChangeSpec := { name := "typesNames", fn := fun _ => fun
  | [d1, d2] => { results := [.lit (.bool true)], args := [d1, d2] }
  | _ => none }
def typesNamesRow : OpenClaim := { program := "ytijbjnbbglcacaa", sum := "78bb3d2ea7eab1922e846ec836557009f2f4413e17e4467cdba50e493e95a0a4", func := "pairing/pairinglaw13.TypesNames", spec := "typesNames", inPlace := ["internal/bytealg.IndexByteString", "internal/bytealg.IndexString"], recurses := true, named := ["internal/bytealg.MaxLen"], plainKeys := false, apart := false }
def TypesNamesSaid : Prop := typesNamesRow.holds Try.pinned (OpenSpec.ofChange typesNamesSpec)

/-- ITS FALSE NEIGHBOUR: 'it returns false'. Refute it at one input. -/
def typesNamesWrong : ChangeSpec := { name := "typesNames", fn := fun _ => fun
  | [d1, d2] => { results := [.lit (.bool false)], args := [d1, d2] }
  | _ => none }
def TypesNamesWrongFalsely : Prop := typesNamesRow.holds Try.pinned (OpenSpec.ofChange typesNamesWrong)

/-- 'pairinglaw13.TypesContracts': WHATEVER THE INPUT: true; the input reads as it did. -/
def typesContractsSpec : ChangeSpec := { name := "typesContracts", fn := fun _ => fun
  | [d] => { results := [.lit (.bool true)], args := [d] }
  | _ => none }
def typesContractsRow : OpenClaim := { program := "ytijbjnbbglcacaa", sum := "78bb3d2ea7eab1922e846ec836557009f2f4413e17e4467cdba50e493e95a0a4", func := "pairing/pairinglaw13.TypesContracts", spec := "typesContracts", inPlace := ["internal/bytealg.IndexByteString", "internal/bytealg.IndexString"], recurses := true, named := ["internal/bytealg.MaxLen"], loops := true, plainKeys := false, apart := false }
def TypesContractsSaid : Prop := typesContractsRow.holds Try.pinned (OpenSpec.ofChange typesContractsSpec)

/-- ITS FALSE NEIGHBOUR: 'it returns false'. Refute it at one input. -/
def typesContractsWrong : ChangeSpec := { name := "typesContracts", fn := fun _ => fun
  | [d] => { results := [.lit (.bool false)], args := [d] }
  | _ => none }
def TypesContractsWrongFalsely : Prop := typesContractsRow.holds Try.pinned (OpenSpec.ofChange typesContractsWrong)

/- THE SECOND FORM. 'bulk': how many values and letters a reading holds, each counted each time it is reached (what is shared counts as often as it is met; a slice's spare places count too). A statement '..UptoSaid' is the law's where the arguments, and the package variables that the reading takes, are together of bulk at most 1048576: NARROWER than '..Said'. Prove '..Said' where nothing that the law and all that it calls make is longer than what came in: it says more and counts as full. Else prove '..UptoSaid'. A law counts once. -/
mutual
def uptoBulk {H : Type} : DataW H → Nat
  | .lit (.string bytes) => bytes.length + 1
  | .lit _ => 1
  | .nil => 1
  | .ptr d => uptoBulk d + 1
  | .slice elems spare => uptoBulkAll elems + uptoBulkAll spare + 1
  | .agg parts => uptoBulkAll parts + 1
  | .iface _ d => uptoBulk d + 1
  | .map entries => uptoBulkEntries entries + 1
  | .held _ => 1
def uptoBulkAll {H : Type} : List (DataW H) → Nat
  | [] => 0
  | d :: r => uptoBulk d + uptoBulkAll r
def uptoBulkEntries {H : Type} : List (Lit × DataW H) → Nat
  | [] => 0
  | x :: r => uptoBulkEntry x + uptoBulkEntries r
def uptoBulkEntry {H : Type} : Lit × DataW H → Nat
  | (.string bytes, d) => bytes.length + uptoBulk d + 1
  | (_, d) => uptoBulk d + 1
 end
def uptoSmall : (H : Type) → List (DataW H) → Bool := fun _ ds => decide (uptoBulkAll ds ≤ 1048576)
def OpenSpec.upto (s : _root_.Go.ChangeSpec) : _root_.Go.OpenSpec := { _root_.Go.OpenSpec.ofChange s with cond := some uptoSmall }

/-- 'pairinglaw13.TypesOf', WHERE WHAT IT READS IS OF BULK AT MOST 1048576: true; the input reads as it did. -/
def typesOfUptoRow : OpenClaim := { program := "ytijbjnbbglcacaa", sum := "78bb3d2ea7eab1922e846ec836557009f2f4413e17e4467cdba50e493e95a0a4", func := "pairing/pairinglaw13.TypesOf", spec := "typesOf", inPlace := ["internal/bytealg.IndexByteString", "internal/bytealg.IndexString"], recurses := true, named := ["internal/bytealg.MaxLen"], loops := true, plainKeys := false, apart := false, narrowed := true }
def TypesOfUptoSaid : Prop := typesOfUptoRow.holds Try.pinned (OpenSpec.upto typesOfSpec)

/-- 'pairinglaw13.TypesBuilt', WHERE WHAT IT READS IS OF BULK AT MOST 1048576: true; the input reads as it did. -/
def typesBuiltUptoRow : OpenClaim := { program := "ytijbjnbbglcacaa", sum := "78bb3d2ea7eab1922e846ec836557009f2f4413e17e4467cdba50e493e95a0a4", func := "pairing/pairinglaw13.TypesBuilt", spec := "typesBuilt", inPlace := ["internal/bytealg.IndexByteString", "internal/bytealg.IndexString"], recurses := true, named := ["internal/bytealg.MaxLen"], plainKeys := false, apart := false, narrowed := true }
def TypesBuiltUptoSaid : Prop := typesBuiltUptoRow.holds Try.pinned (OpenSpec.upto typesBuiltSpec)

/-- 'pairinglaw13.TypesPairs', WHERE WHAT IT READS IS OF BULK AT MOST 1048576: true; the input reads as it did. -/
def typesPairsUptoRow : OpenClaim := { program := "ytijbjnbbglcacaa", sum := "78bb3d2ea7eab1922e846ec836557009f2f4413e17e4467cdba50e493e95a0a4", func := "pairing/pairinglaw13.TypesPairs", spec := "typesPairs", inPlace := ["internal/bytealg.IndexByteString", "internal/bytealg.IndexString"], recurses := true, named := ["internal/bytealg.MaxLen"], plainKeys := false, apart := false, narrowed := true }
def TypesPairsUptoSaid : Prop := typesPairsUptoRow.holds Try.pinned (OpenSpec.upto typesPairsSpec)

/-- 'pairinglaw13.TypesNames', WHERE WHAT IT READS IS OF BULK AT MOST 1048576: true; the input reads as it did. -/
def typesNamesUptoRow : OpenClaim := { program := "ytijbjnbbglcacaa", sum := "78bb3d2ea7eab1922e846ec836557009f2f4413e17e4467cdba50e493e95a0a4", func := "pairing/pairinglaw13.TypesNames", spec := "typesNames", inPlace := ["internal/bytealg.IndexByteString", "internal/bytealg.IndexString"], recurses := true, named := ["internal/bytealg.MaxLen"], plainKeys := false, apart := false, narrowed := true }
def TypesNamesUptoSaid : Prop := typesNamesUptoRow.holds Try.pinned (OpenSpec.upto typesNamesSpec)

/-- 'pairinglaw13.TypesContracts', WHERE WHAT IT READS IS OF BULK AT MOST 1048576: true; the input reads as it did. -/
def typesContractsUptoRow : OpenClaim := { program := "ytijbjnbbglcacaa", sum := "78bb3d2ea7eab1922e846ec836557009f2f4413e17e4467cdba50e493e95a0a4", func := "pairing/pairinglaw13.TypesContracts", spec := "typesContracts", inPlace := ["internal/bytealg.IndexByteString", "internal/bytealg.IndexString"], recurses := true, named := ["internal/bytealg.MaxLen"], loops := true, plainKeys := false, apart := false, narrowed := true }
def TypesContractsUptoSaid : Prop := typesContractsUptoRow.holds Try.pinned (OpenSpec.upto typesContractsSpec)

end Rows
end Go.Proofs.Ytijbjnbbglcacaa
