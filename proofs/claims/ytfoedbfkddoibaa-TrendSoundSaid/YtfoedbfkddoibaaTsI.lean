/-
  The contract of pairingref17.Simplify.
-/
import Derived.Test.YtfoedbfkddoibaaTsD
import Derived.Test.YtfoedbfkddoibaaTt1
import Derived.Test.YtfoedbfkddoibaaTrG
import Derived.Test.YtfoedbfkddoibaaTs1
import Derived.Test.YtfoedbfkddoibaaRvz
namespace Go.Proofs.Ytfoedbfkddoibaa
set_option linter.unusedVariables false
set_option linter.unusedSimpArgs false
open Go.ChangeShapes Go.WideShapes Go.ChangeAt Go.RowKit
open Go.Deep (BT)

theorem FoAv.all {Av : Nat → Prop} (h : ∀ g, Av g) (T : Fo) (B : Nat) : FoAv Av T B := by
  induction T generalizing B with
  | nil => trivial
  | node b o a k r ihk ihr => exact ⟨h _, ihk _, ihr _⟩
theorem BX4.set4 {w : World} {g : Nat} {v0 v1 v2 v3 : Value} (h : BX4 w g v0 v1 v2 v3) (a b c d : Value) : BX4 ((((w.setCell ⟨g, 0, none⟩ a).setCell ⟨g, 1, none⟩ b).setCell ⟨g, 2, none⟩ c).setCell ⟨g, 3, none⟩ d) g a b c d := by
  obtain ⟨r0, r1, r2, r3, f0, f1, f2, f3, hl⟩ := h
  refine ⟨?_, ?_, ?_, ?_, ?_, ?_, ?_, ?_, by simp [World.setCell]; exact hl⟩ <;> simp [go_sem, r0, r1, r2, r3, f0, f1, f2, f3]
end Go.Proofs.Ytfoedbfkddoibaa
