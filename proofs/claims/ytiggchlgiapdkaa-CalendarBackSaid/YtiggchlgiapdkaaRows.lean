/-
  No cell of these rows narrows 'for every input' (looked for: loops, veiled, ifaces, maps, wideKeys, modest, calm, conditions, laid).
  DERIVED. THE GIVEN ROWS OF THIS SEAT. 4 by the template 'for every input the law returns true; each argument reads behind the call as it read before'; 0 by the template 'total and deterministic' (their statements: YtiggchlgiapdkaaTotals.lean).
  GIVEN WITH THE SEED: the statements are not yours to turn. If you find one false, say at which input.
  Laid BY PROGRAM, IN A SANDBOX (cutbox-rows.mjs): the forced cells as the released guide's own fill.sh prints them over the translation 080f77f774275d9d… (all of the seat's roots in one cut). By AI agents, Wed Nov 11 2026. No macro, syntax, notation, axiom, sorry.
-/
import Derived.Test.YtiggchlgiapdkaaChecked
import GoSem.Claim
import GoSem.ClaimJoined
import GoSem.ClaimMapViews
import Derived.JoinedTies
import Derived.KernelRfl
namespace Go.Proofs.Ytiggchlgiapdkaa
/- THE CELL 'sum', in the pinned program and in every row, IS THE sha256 OF THE DUMP (.gsa) THAT YtiggchlgiapdkaaProg.lean LOADS. Nothing in Lean hashes anything: it is a label: what it is worth is what the hold of that sum in a sandbox is worth. -/
noncomputable def Try.pinned : Pinned := { name := "ytiggchlgiapdkaa", sum := "080f77f774275d9d7e7fef825f72b9b95b22115d401629b73e62c59297a0c5bc", checked := Try.checked }
namespace Rows
def none {H : Type} : Left H := { results := [], args := [] }

/-- 'pairinglaw6.CalendarMinutes': WHATEVER THE INPUT: true; the input reads as it did. -/
def calendarMinutesSpec : ChangeSpec := { name := "calendarMinutes", fn := fun _ => fun
  | [d] => { results := [.lit (.bool true)], args := [d] }
  | _ => none }
def calendarMinutesRow : OpenClaim := { program := "ytiggchlgiapdkaa", sum := "080f77f774275d9d7e7fef825f72b9b95b22115d401629b73e62c59297a0c5bc", func := "pairing/pairinglaw6.CalendarMinutes", spec := "calendarMinutes", apart := false }
def CalendarMinutesSaid : Prop := calendarMinutesRow.holds Try.pinned (OpenSpec.ofChange calendarMinutesSpec)

/-- ITS FALSE NEIGHBOUR: 'it returns false'. Refute it at one input. -/
def calendarMinutesWrong : ChangeSpec := { name := "calendarMinutes", fn := fun _ => fun
  | [d] => { results := [.lit (.bool false)], args := [d] }
  | _ => none }
def CalendarMinutesWrongFalsely : Prop := calendarMinutesRow.holds Try.pinned (OpenSpec.ofChange calendarMinutesWrong)

/-- 'pairinglaw6.CalendarDays': WHATEVER THE INPUT: true; the input reads as it did. -/
def calendarDaysSpec : ChangeSpec := { name := "calendarDays", fn := fun _ => fun
  | [d1, d2] => { results := [.lit (.bool true)], args := [d1, d2] }
  | _ => none }
def calendarDaysRow : OpenClaim := { program := "ytiggchlgiapdkaa", sum := "080f77f774275d9d7e7fef825f72b9b95b22115d401629b73e62c59297a0c5bc", func := "pairing/pairinglaw6.CalendarDays", spec := "calendarDays", apart := false }
def CalendarDaysSaid : Prop := calendarDaysRow.holds Try.pinned (OpenSpec.ofChange calendarDaysSpec)

/-- ITS FALSE NEIGHBOUR: 'it returns false'. Refute it at one input. -/
def calendarDaysWrong : ChangeSpec := { name := "calendarDays", fn := fun _ => fun
  | [d1, d2] => { results := [.lit (.bool false)], args := [d1, d2] }
  | _ => none }
def CalendarDaysWrongFalsely : Prop := calendarDaysRow.holds Try.pinned (OpenSpec.ofChange calendarDaysWrong)

/-- 'pairinglaw6.CalendarMonths': WHATEVER THE INPUT: true; the input reads as it did. -/
def calendarMonthsSpec : ChangeSpec := { name := "calendarMonths", fn := fun _ => fun
  | [d1, d2] => { results := [.lit (.bool true)], args := [d1, d2] }
  | _ => none }
def calendarMonthsRow : OpenClaim := { program := "ytiggchlgiapdkaa", sum := "080f77f774275d9d7e7fef825f72b9b95b22115d401629b73e62c59297a0c5bc", func := "pairing/pairinglaw6.CalendarMonths", spec := "calendarMonths", apart := false }
def CalendarMonthsSaid : Prop := calendarMonthsRow.holds Try.pinned (OpenSpec.ofChange calendarMonthsSpec)

/-- ITS FALSE NEIGHBOUR: 'it returns false'. Refute it at one input. -/
def calendarMonthsWrong : ChangeSpec := { name := "calendarMonths", fn := fun _ => fun
  | [d1, d2] => { results := [.lit (.bool false)], args := [d1, d2] }
  | _ => none }
def CalendarMonthsWrongFalsely : Prop := calendarMonthsRow.holds Try.pinned (OpenSpec.ofChange calendarMonthsWrong)

/-- 'pairinglaw6.CalendarBack': WHATEVER THE INPUT: true; the input reads as it did. -/
def calendarBackSpec : ChangeSpec := { name := "calendarBack", fn := fun _ => fun
  | [d] => { results := [.lit (.bool true)], args := [d] }
  | _ => none }
def calendarBackRow : OpenClaim := { program := "ytiggchlgiapdkaa", sum := "080f77f774275d9d7e7fef825f72b9b95b22115d401629b73e62c59297a0c5bc", func := "pairing/pairinglaw6.CalendarBack", spec := "calendarBack", apart := false }
def CalendarBackSaid : Prop := calendarBackRow.holds Try.pinned (OpenSpec.ofChange calendarBackSpec)

/-- ITS FALSE NEIGHBOUR: 'it returns false'. Refute it at one input. -/
def calendarBackWrong : ChangeSpec := { name := "calendarBack", fn := fun _ => fun
  | [d] => { results := [.lit (.bool false)], args := [d] }
  | _ => none }
def CalendarBackWrongFalsely : Prop := calendarBackRow.holds Try.pinned (OpenSpec.ofChange calendarBackWrong)

/- THE SECOND FORM. 'bulk': how many values and letters a reading holds, each counted each time it is reached (what is shared counts as often as it is met; a slice's spare places count too). A statement '..UptoSaid' is the law's where the arguments, and the package variables that the reading takes, are together of bulk at most 1048576: NARROWER than '..Said'. Prove '..Said' where nothing that the law and all that it calls make is longer than what came in: it says more and counts as full. Else prove '..UptoSaid'. A law counts once. -/
mutual
def uptoBulk {H : Type} : DataW H → Nat
  | .lit (.string bytes) => bytes.length + 1
  | .lit _ => 1
  | .nil => 1
  | .ptr d => uptoBulk d + 1
  | .slice elems spare => uptoBulkAll elems + uptoBulkAll spare + 1
  | .agg parts => uptoBulkAll parts + 1
  | .iface _ d => uptoBulk d + 1
  | .map entries => uptoBulkEntries entries + 1
  | .held _ => 1
def uptoBulkAll {H : Type} : List (DataW H) → Nat
  | [] => 0
  | d :: r => uptoBulk d + uptoBulkAll r
def uptoBulkEntries {H : Type} : List (Lit × DataW H) → Nat
  | [] => 0
  | x :: r => uptoBulkEntry x + uptoBulkEntries r
def uptoBulkEntry {H : Type} : Lit × DataW H → Nat
  | (.string bytes, d) => bytes.length + uptoBulk d + 1
  | (_, d) => uptoBulk d + 1
 end
def uptoSmall : (H : Type) → List (DataW H) → Bool := fun _ ds => decide (uptoBulkAll ds ≤ 1048576)
def OpenSpec.upto (s : _root_.Go.ChangeSpec) : _root_.Go.OpenSpec := { _root_.Go.OpenSpec.ofChange s with cond := some uptoSmall }

/-- 'pairinglaw6.CalendarMinutes', WHERE WHAT IT READS IS OF BULK AT MOST 1048576: true; the input reads as it did. -/
def calendarMinutesUptoRow : OpenClaim := { program := "ytiggchlgiapdkaa", sum := "080f77f774275d9d7e7fef825f72b9b95b22115d401629b73e62c59297a0c5bc", func := "pairing/pairinglaw6.CalendarMinutes", spec := "calendarMinutes", apart := false, narrowed := true }
def CalendarMinutesUptoSaid : Prop := calendarMinutesUptoRow.holds Try.pinned (OpenSpec.upto calendarMinutesSpec)

/-- 'pairinglaw6.CalendarDays', WHERE WHAT IT READS IS OF BULK AT MOST 1048576: true; the input reads as it did. -/
def calendarDaysUptoRow : OpenClaim := { program := "ytiggchlgiapdkaa", sum := "080f77f774275d9d7e7fef825f72b9b95b22115d401629b73e62c59297a0c5bc", func := "pairing/pairinglaw6.CalendarDays", spec := "calendarDays", apart := false, narrowed := true }
def CalendarDaysUptoSaid : Prop := calendarDaysUptoRow.holds Try.pinned (OpenSpec.upto calendarDaysSpec)

/-- 'pairinglaw6.CalendarMonths', WHERE WHAT IT READS IS OF BULK AT MOST 1048576: true; the input reads as it did. -/
def calendarMonthsUptoRow : OpenClaim := { program := "ytiggchlgiapdkaa", sum := "080f77f774275d9d7e7fef825f72b9b95b22115d401629b73e62c59297a0c5bc", func := "pairing/pairinglaw6.CalendarMonths", spec := "calendarMonths", apart := false, narrowed := true }
def CalendarMonthsUptoSaid : Prop := calendarMonthsUptoRow.holds Try.pinned (OpenSpec.upto calendarMonthsSpec)

/-- 'pairinglaw6.CalendarBack', WHERE WHAT IT READS IS OF BULK AT MOST 1048576: true; the input reads as it did. -/
def calendarBackUptoRow : OpenClaim := { program := "ytiggchlgiapdkaa", sum := "080f77f774275d9d7e7fef825f72b9b95b22115d401629b73e62c59297a0c5bc", func := "pairing/pairinglaw6.CalendarBack", spec := "calendarBack", apart := false, narrowed := true }
def CalendarBackUptoSaid : Prop := calendarBackUptoRow.holds Try.pinned (OpenSpec.upto calendarBackSpec)

end Rows
end Go.Proofs.Ytiggchlgiapdkaa
