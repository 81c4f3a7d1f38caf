/-
  NARROWER THAN 'FOR EVERY INPUT', by the rows' own cells (each row's printed sentence says how): EvalValues: loops.
  DERIVED. THE GIVEN ROWS OF THIS SEAT. 6 by the template 'for every input the law returns true; each argument reads behind the call as it read before'; 0 by the template 'total and deterministic' (their statements: YtinbkhchhlkjgaaTotals.lean).
  GIVEN WITH THE SEED: the statements are not yours to turn. If you find one false, say at which input.
  Laid BY PROGRAM, IN A SANDBOX (cutbox-rows.mjs): the forced cells as the released guide's own fill.sh prints them over the translation 582ec57af265487f… (all of the seat's roots in one cut). By AI agents, Wed Nov 11 2026. No macro, syntax, notation, axiom, sorry.
-/
import Derived.Test.YtinbkhchhlkjgaaChecked
import GoSem.Claim
import GoSem.ClaimJoined
import GoSem.ClaimMapViews
import Derived.JoinedTies
import Derived.KernelRfl
namespace Go.Proofs.Ytinbkhchhlkjgaa
/- THE CELL 'sum', in the pinned program and in every row, IS THE sha256 OF THE DUMP (.gsa) THAT YtinbkhchhlkjgaaProg.lean LOADS. Nothing in Lean hashes anything: it is a label: what it is worth is what the hold of that sum in a sandbox is worth. -/
noncomputable def Try.pinned : Pinned := { name := "ytinbkhchhlkjgaa", sum := "582ec57af265487f562d14645055991c2c40422376d93974cfb65e983686a514", checked := Try.checked }
namespace Rows
def none {H : Type} : Left H := { results := [], args := [] }

/-- 'pairinglaw14.EvalValues': WHATEVER THE INPUT: true; the input reads as it did. -/
def evalValuesSpec : ChangeSpec := { name := "evalValues", fn := fun _ => fun
  | [d1, d2, d3, d4] => { results := [.lit (.bool true)], args := [d1, d2, d3, d4] }
  | _ => none }
def evalValuesRow : OpenClaim := { program := "ytinbkhchhlkjgaa", sum := "582ec57af265487f562d14645055991c2c40422376d93974cfb65e983686a514", func := "pairing/pairinglaw14.EvalValues", spec := "evalValues", inPlace := ["internal/bytealg.IndexByteString", "internal/bytealg.IndexString"], recurses := true, named := ["internal/bytealg.MaxLen"], loops := true, apart := false }
def EvalValuesSaid : Prop := evalValuesRow.holds Try.pinned (OpenSpec.ofChange evalValuesSpec)

/-- ITS FALSE NEIGHBOUR: 'it returns false'. Refute it at one input. -/
def evalValuesWrong : ChangeSpec := { name := "evalValues", fn := fun _ => fun
  | [d1, d2, d3, d4] => { results := [.lit (.bool false)], args := [d1, d2, d3, d4] }
  | _ => none }
def EvalValuesWrongFalsely : Prop := evalValuesRow.holds Try.pinned (OpenSpec.ofChange evalValuesWrong)

/-- 'pairinglaw14.EvalLogic': WHATEVER THE INPUT: true; the input reads as it did. -/
def evalLogicSpec : ChangeSpec := { name := "evalLogic", fn := fun _ => fun
  | [d1, d2, d3, d4] => { results := [.lit (.bool true)], args := [d1, d2, d3, d4] }
  | _ => none }
def evalLogicRow : OpenClaim := { program := "ytinbkhchhlkjgaa", sum := "582ec57af265487f562d14645055991c2c40422376d93974cfb65e983686a514", func := "pairing/pairinglaw14.EvalLogic", spec := "evalLogic", inPlace := ["internal/bytealg.IndexByteString", "internal/bytealg.IndexString"], recurses := true, named := ["internal/bytealg.MaxLen"], apart := false }
def EvalLogicSaid : Prop := evalLogicRow.holds Try.pinned (OpenSpec.ofChange evalLogicSpec)

/-- ITS FALSE NEIGHBOUR: 'it returns false'. Refute it at one input. -/
def evalLogicWrong : ChangeSpec := { name := "evalLogic", fn := fun _ => fun
  | [d1, d2, d3, d4] => { results := [.lit (.bool false)], args := [d1, d2, d3, d4] }
  | _ => none }
def EvalLogicWrongFalsely : Prop := evalLogicRow.holds Try.pinned (OpenSpec.ofChange evalLogicWrong)

/-- 'pairinglaw14.EvalOrder': WHATEVER THE INPUT: true; the input reads as it did. -/
def evalOrderSpec : ChangeSpec := { name := "evalOrder", fn := fun _ => fun
  | [d1, d2, d3, d4] => { results := [.lit (.bool true)], args := [d1, d2, d3, d4] }
  | _ => none }
def evalOrderRow : OpenClaim := { program := "ytinbkhchhlkjgaa", sum := "582ec57af265487f562d14645055991c2c40422376d93974cfb65e983686a514", func := "pairing/pairinglaw14.EvalOrder", spec := "evalOrder", inPlace := ["internal/bytealg.IndexByteString", "internal/bytealg.IndexString"], recurses := true, named := ["internal/bytealg.MaxLen"], apart := false }
def EvalOrderSaid : Prop := evalOrderRow.holds Try.pinned (OpenSpec.ofChange evalOrderSpec)

/-- ITS FALSE NEIGHBOUR: 'it returns false'. Refute it at one input. -/
def evalOrderWrong : ChangeSpec := { name := "evalOrder", fn := fun _ => fun
  | [d1, d2, d3, d4] => { results := [.lit (.bool false)], args := [d1, d2, d3, d4] }
  | _ => none }
def EvalOrderWrongFalsely : Prop := evalOrderRow.holds Try.pinned (OpenSpec.ofChange evalOrderWrong)

/-- 'pairinglaw14.EvalChain': WHATEVER THE INPUT: true; the input reads as it did. -/
def evalChainSpec : ChangeSpec := { name := "evalChain", fn := fun _ => fun
  | [d] => { results := [.lit (.bool true)], args := [d] }
  | _ => none }
def evalChainRow : OpenClaim := { program := "ytinbkhchhlkjgaa", sum := "582ec57af265487f562d14645055991c2c40422376d93974cfb65e983686a514", func := "pairing/pairinglaw14.EvalChain", spec := "evalChain", inPlace := ["internal/bytealg.IndexByteString", "internal/bytealg.IndexString"], recurses := true, named := ["internal/bytealg.MaxLen"], apart := false }
def EvalChainSaid : Prop := evalChainRow.holds Try.pinned (OpenSpec.ofChange evalChainSpec)

/-- ITS FALSE NEIGHBOUR: 'it returns false'. Refute it at one input. -/
def evalChainWrong : ChangeSpec := { name := "evalChain", fn := fun _ => fun
  | [d] => { results := [.lit (.bool false)], args := [d] }
  | _ => none }
def EvalChainWrongFalsely : Prop := evalChainRow.holds Try.pinned (OpenSpec.ofChange evalChainWrong)

/-- 'pairinglaw14.EvalBands': WHATEVER THE INPUT: true; the input reads as it did. -/
def evalBandsSpec : ChangeSpec := { name := "evalBands", fn := fun _ => fun
  | [d1, d2, d3] => { results := [.lit (.bool true)], args := [d1, d2, d3] }
  | _ => none }
def evalBandsRow : OpenClaim := { program := "ytinbkhchhlkjgaa", sum := "582ec57af265487f562d14645055991c2c40422376d93974cfb65e983686a514", func := "pairing/pairinglaw14.EvalBands", spec := "evalBands", inPlace := ["internal/bytealg.IndexByteString", "internal/bytealg.IndexString"], recurses := true, named := ["internal/bytealg.MaxLen"], apart := false }
def EvalBandsSaid : Prop := evalBandsRow.holds Try.pinned (OpenSpec.ofChange evalBandsSpec)

/-- ITS FALSE NEIGHBOUR: 'it returns false'. Refute it at one input. -/
def evalBandsWrong : ChangeSpec := { name := "evalBands", fn := fun _ => fun
  | [d1, d2, d3] => { results := [.lit (.bool false)], args := [d1, d2, d3] }
  | _ => none }
def EvalBandsWrongFalsely : Prop := evalBandsRow.holds Try.pinned (OpenSpec.ofChange evalBandsWrong)

/-- 'pairinglaw14.EvalArithmetic': WHATEVER THE INPUT: true; the input reads as it did. -/
def evalArithmeticSpec : ChangeSpec := { name := "evalArithmetic", fn := fun _ => fun
  | [d1, d2] => { results := [.lit (.bool true)], args := [d1, d2] }
  | _ => none }
def evalArithmeticRow : OpenClaim := { program := "ytinbkhchhlkjgaa", sum := "582ec57af265487f562d14645055991c2c40422376d93974cfb65e983686a514", func := "pairing/pairinglaw14.EvalArithmetic", spec := "evalArithmetic", inPlace := ["internal/bytealg.IndexByteString", "internal/bytealg.IndexString"], recurses := true, named := ["internal/bytealg.MaxLen"], apart := false }
def EvalArithmeticSaid : Prop := evalArithmeticRow.holds Try.pinned (OpenSpec.ofChange evalArithmeticSpec)

/-- ITS FALSE NEIGHBOUR: 'it returns false'. Refute it at one input. -/
def evalArithmeticWrong : ChangeSpec := { name := "evalArithmetic", fn := fun _ => fun
  | [d1, d2] => { results := [.lit (.bool false)], args := [d1, d2] }
  | _ => none }
def EvalArithmeticWrongFalsely : Prop := evalArithmeticRow.holds Try.pinned (OpenSpec.ofChange evalArithmeticWrong)

/- THE SECOND FORM. 'bulk': how many values and letters a reading holds, each counted each time it is reached (what is shared counts as often as it is met; a slice's spare places count too). A statement '..UptoSaid' is the law's where the arguments, and the package variables that the reading takes, are together of bulk at most 1048576: NARROWER than '..Said'. Prove '..Said' where nothing that the law and all that it calls make is longer than what came in: it says more and counts as full. Else prove '..UptoSaid'. A law counts once. -/
mutual
def uptoBulk {H : Type} : DataW H → Nat
  | .lit (.string bytes) => bytes.length + 1
  | .lit _ => 1
  | .nil => 1
  | .ptr d => uptoBulk d + 1
  | .slice elems spare => uptoBulkAll elems + uptoBulkAll spare + 1
  | .agg parts => uptoBulkAll parts + 1
  | .iface _ d => uptoBulk d + 1
  | .map entries => uptoBulkEntries entries + 1
  | .held _ => 1
def uptoBulkAll {H : Type} : List (DataW H) → Nat
  | [] => 0
  | d :: r => uptoBulk d + uptoBulkAll r
def uptoBulkEntries {H : Type} : List (Lit × DataW H) → Nat
  | [] => 0
  | x :: r => uptoBulkEntry x + uptoBulkEntries r
def uptoBulkEntry {H : Type} : Lit × DataW H → Nat
  | (.string bytes, d) => bytes.length + uptoBulk d + 1
  | (_, d) => uptoBulk d + 1
 end
def uptoSmall : (H : Type) → List (DataW H) → Bool := fun _ ds => decide (uptoBulkAll ds ≤ 1048576)
def OpenSpec.upto (s : _root_.Go.ChangeSpec) : _root_.Go.OpenSpec := { _root_.Go.OpenSpec.ofChange s with cond := some uptoSmall }

/-- 'pairinglaw14.EvalValues', WHERE WHAT IT READS IS OF BULK AT MOST 1048576: true; the input reads as it did. -/
def evalValuesUptoRow : OpenClaim := { program := "ytinbkhchhlkjgaa", sum := "582ec57af265487f562d14645055991c2c40422376d93974cfb65e983686a514", func := "pairing/pairinglaw14.EvalValues", spec := "evalValues", inPlace := ["internal/bytealg.IndexByteString", "internal/bytealg.IndexString"], recurses := true, named := ["internal/bytealg.MaxLen"], loops := true, apart := false, narrowed := true }
def EvalValuesUptoSaid : Prop := evalValuesUptoRow.holds Try.pinned (OpenSpec.upto evalValuesSpec)

/-- 'pairinglaw14.EvalLogic', WHERE WHAT IT READS IS OF BULK AT MOST 1048576: true; the input reads as it did. -/
def evalLogicUptoRow : OpenClaim := { program := "ytinbkhchhlkjgaa", sum := "582ec57af265487f562d14645055991c2c40422376d93974cfb65e983686a514", func := "pairing/pairinglaw14.EvalLogic", spec := "evalLogic", inPlace := ["internal/bytealg.IndexByteString", "internal/bytealg.IndexString"], recurses := true, named := ["internal/bytealg.MaxLen"], apart := false, narrowed := true }
def EvalLogicUptoSaid : Prop := evalLogicUptoRow.holds Try.pinned (OpenSpec.upto evalLogicSpec)

/-- 'pairinglaw14.EvalOrder', WHERE WHAT IT READS IS OF BULK AT MOST 1048576: true; the input reads as it did. -/
def evalOrderUptoRow : OpenClaim := { program := "ytinbkhchhlkjgaa", sum := "582ec57af265487f562d14645055991c2c40422376d93974cfb65e983686a514", func := "pairing/pairinglaw14.EvalOrder", spec := "evalOrder", inPlace := ["internal/bytealg.IndexByteString", "internal/bytealg.IndexString"], recurses := true, named := ["internal/bytealg.MaxLen"], apart := false, narrowed := true }
def EvalOrderUptoSaid : Prop := evalOrderUptoRow.holds Try.pinned (OpenSpec.upto evalOrderSpec)

/-- 'pairinglaw14.EvalChain', WHERE WHAT IT READS IS OF BULK AT MOST 1048576: true; the input reads as it did. -/
def evalChainUptoRow : OpenClaim := { program := "ytinbkhchhlkjgaa", sum := "582ec57af265487f562d14645055991c2c40422376d93974cfb65e983686a514", func := "pairing/pairinglaw14.EvalChain", spec := "evalChain", inPlace := ["internal/bytealg.IndexByteString", "internal/bytealg.IndexString"], recurses := true, named := ["internal/bytealg.MaxLen"], apart := false, narrowed := true }
def EvalChainUptoSaid : Prop := evalChainUptoRow.holds Try.pinned (OpenSpec.upto evalChainSpec)

/-- 'pairinglaw14.EvalBands', WHERE WHAT IT READS IS OF BULK AT MOST 1048576: true; the input reads as it did. -/
def evalBandsUptoRow : OpenClaim := { program := "ytinbkhchhlkjgaa", sum := "582ec57af265487f562d14645055991c2c40422376d93974cfb65e983686a514", func := "pairing/pairinglaw14.EvalBands", spec := "evalBands", inPlace := ["internal/bytealg.IndexByteString", "internal/bytealg.IndexString"], recurses := true, named := ["internal/bytealg.MaxLen"], apart := false, narrowed := true }
def EvalBandsUptoSaid : Prop := evalBandsUptoRow.holds Try.pinned (OpenSpec.upto evalBandsSpec)

/-- 'pairinglaw14.EvalArithmetic', WHERE WHAT IT READS IS OF BULK AT MOST 1048576: true; the input reads as it did. -/
def evalArithmeticUptoRow : OpenClaim := { program := "ytinbkhchhlkjgaa", sum := "582ec57af265487f562d14645055991c2c40422376d93974cfb65e983686a514", func := "pairing/pairinglaw14.EvalArithmetic", spec := "evalArithmetic", inPlace := ["internal/bytealg.IndexByteString", "internal/bytealg.IndexString"], recurses := true, named := ["internal/bytealg.MaxLen"], apart := false, narrowed := true }
def EvalArithmeticUptoSaid : Prop := evalArithmeticUptoRow.holds Try.pinned (OpenSpec.upto evalArithmeticSpec)

end Rows
end Go.Proofs.Ytinbkhchhlkjgaa
