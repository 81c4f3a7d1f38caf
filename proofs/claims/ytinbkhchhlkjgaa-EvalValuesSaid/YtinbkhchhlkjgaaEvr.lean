/-
  What eval.Eval answers, plain. No program in sight.
-/
import Derived.Test.YtinbkhchhlkjgaaCvp
namespace Go.Proofs.Ytinbkhchhlkjgaa
set_option linter.unusedVariables false
set_option linter.unusedSimpArgs false
open Go.RowKit
open Go.Deep (BT)

/-- The values of the scope's attributes. -/
def valsT (sc : Int) (L : List Av) : List Int := (Att.listL sc).map fun l => limV (atS sc ⟨l.toArray⟩) ((firstAv ⟨l.toArray⟩ L).getD 0)
/-- What Eval answers: type, number, error. -/
def evR (cs : List Cn) (sc : Int) (L : List Av) (a : Nd) (k : Fo) : Int × Int × Int :=
  if (typeOfT cs sc a k).2 ≠ 0 then (0, 0, (typeOfT cs sc a k).2) else if knT sc L a k = false then (0, 0, 6) else ((typeOfT cs sc a k).1, ev1 (nmT sc (valsT sc L) (cvT cs)) a (evF (nmT sc (valsT sc L) (cvT cs)) k), 0)
theorem limV_i64 (k n : Int) (h : i64B n) : i64B (limV k n) := by
  unfold limV
  (repeat' split)
  · unfold i64B; omega
  · exact flagI_i64 _
  · exact clampI_i64 _


end Go.Proofs.Ytinbkhchhlkjgaa
