/-
  The contracts of the reference's find and missing (pairingref14).
  The contract of the reference's Value (pairingref14).
  The first constants alone: their types and values are the same. What the reference's Value comes to. No program in sight.
  The contracts of the reference's Consts and Eval (pairingref14).
  The contract of the reference's Eval (pairingref14): what the program's Eval answers.
-/
import Derived.Test.YtfoedbfkddoibaaGm
import Derived.Test.YtfoedbfkddoibaaGg
import Derived.Test.YtfoedbfkddoibaaVok
import Derived.Test.YtfoedbfkddoibaaGi
import Derived.Test.YtfoedbfkddoibaaRtb
import Derived.Test.YtfoedbfkddoibaaEev
namespace Go.Proofs.Ytfoedbfkddoibaa
section
set_option linter.unusedVariables false
set_option linter.unusedSimpArgs false
open Go.ChangeShapes Go.WideShapes Go.ChangeAt Go.RowKit
open Go.Deep (BT)

theorem AvV.next {w w' : World} {L : List Av} {p : Option Addr} (h : AvV w L p) (hb : Below w.heap.size w w') : AvV w' L p := h.keep (Keeps.of_below hb)

end

section
set_option linter.unusedVariables false
set_option linter.unusedSimpArgs false
open Go.ChangeShapes Go.WideShapes Go.ChangeAt Go.RowKit
open Go.Deep (BT)

/-- A name that the reference can read. -/
def NQ (sc : Int) (L : List Av) (cs : List Cn) (V : List Int) (s : ByteArray) : Prop := (atE sc s = 0 → (firstAv s L).isSome = true) ∧ (atE sc s ≠ 0 → ∃ j, firstIx s cs = some j ∧ j < V.length)
end

section
set_option linter.unusedVariables false
set_option linter.unusedSimpArgs false
open Go.RowKit
open Go.Deep (BT)

theorem CsAt.take {w : World} {cs : List Cn} {B O : Nat} (h : CsAt w cs B O) (j : Nat) : CsAt w (cs.take j) B O := by
  induction cs generalizing O j with
  | nil => simp; trivial
  | cons c cs ih =>
    cases j with
    | zero => trivial
    | succ j => exact ⟨h.1, h.2.1, ih h.2.2 j⟩
theorem CsV.take {w : World} {cs : List Cn} {p : Option Addr} (h : CsV w cs p) (j : Nat) : CsV w (cs.take j) p := by
  obtain ⟨⟨B, O, h1, h2⟩, h3, h4⟩ := h
  refine ⟨⟨B, O, fun q => h1 (by rintro rfl; simp at q), h2.take j⟩, fun c hc => h3 c (List.mem_of_mem_take hc), ?_⟩
  rw [List.length_take]; omega

end

section
set_option linter.unusedVariables false
set_option linter.unusedSimpArgs false
open Go.ChangeShapes Go.WideShapes Go.ChangeAt Go.RowKit
open Go.Deep (BT)

end

section
set_option linter.unusedVariables false
set_option linter.unusedSimpArgs false
open Go.ChangeShapes Go.WideShapes Go.ChangeAt Go.RowKit
open Go.Deep (BT)

end

end Go.Proofs.Ytfoedbfkddoibaa
