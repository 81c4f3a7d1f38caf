/-
  The contract of the reference's tabulate.
-/
import Derived.Test.YtjdjbjblblmdjaaDoorChs
import Derived.Test.YtjdjbjblblmdjaaDoorGg
import Derived.Test.YtjdjbjblblmdjaaDoorGa
import Derived.Test.YtjdjbjblblmdjaaDoorGb
import Derived.Deep.AppendLies
import Derived.Deep.RegionLaw
import Derived.Deep.LoopGhost
namespace Go.Proofs.YtjdjbjblblmdjaaDoor
set_option linter.unusedVariables false
set_option linter.unusedSimpArgs false
open Go.ChangeShapes Go.WideShapes Go.ChangeAt Go.RowKit
open Go.Deep (BT)

theorem val_ok (a : Nd) (k : Fo) (h : valE a k = 0) : (wfB a (len k) && wfT k) = true ∧ sz k ≤ 200 := by
  unfold valE at h
  cases q : fitB 0 1 k
  · rw [q] at h; simp at h
  · rw [q] at h
    cases q2 : (wfB a (len k) && wfT k)
    · rw [q2] at h; simp at h
    · refine ⟨rfl, ?_⟩
      unfold fitB at q; rw [decide_eq_true_eq] at q; omega
end Go.Proofs.YtjdjbjblblmdjaaDoor
