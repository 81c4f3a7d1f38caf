/-
  The contract of the reference's tabulate.
-/
import Derived.Test.YtfoedbfkddoibaaChs
import Derived.Test.YtfoedbfkddoibaaGg
import Derived.Test.YtfoedbfkddoibaaGa
import Derived.Test.YtfoedbfkddoibaaGb
import Derived.Deep.AppendLies
import Derived.Deep.RegionLaw
import Derived.Deep.LoopGhost
namespace Go.Proofs.Ytfoedbfkddoibaa
set_option linter.unusedVariables false
set_option linter.unusedSimpArgs false
open Go.ChangeShapes Go.WideShapes Go.ChangeAt Go.RowKit
open Go.Deep (BT)

theorem gb_cell {w w' : World} {row : Option Nat} {p : Addr} (hg : w.grownBy w' row) (hlt : p.block < w.heap.size) (hne : some p.block ≠ row) : w'.cell? p = w.cell? p := World.cell?_of_block (hg.block p.block hlt hne)
theorem gb_frozen {w w' : World} {row : Option Nat} {p : Addr} (hg : w.grownBy w' row) (hlt : p.block < w.heap.size) (hne : some p.block ≠ row) : w'.frozen? p = w.frozen? p := World.frozen?_of_block (hg.block p.block hlt hne)
theorem own_setCell_ne {w : World} {base : Nat} {e : TypeId} {size : Nat} {v : Value} {n : Nat} {xs : List Value} (h : w.ownsRow base e size v n xs) {a : Addr} (ha : v.ownBlock ≠ some a.block) (u : Value) : (w.setCell a u).ownsRow base e size v n xs :=
  h.kept (row := some a.block) ⟨rfl, rfl, rfl, by simp [World.setCell], fun k hk hr => Below.heap_setCell _ _ _ _ (fun e => hr (by rw [e]))⟩ (.inr ha)
theorem val_ok (a : Nd) (k : Fo) (h : valE a k = 0) : (wfB a (len k) && wfT k) = true ∧ sz k ≤ 200 := by
  unfold valE at h
  cases q : fitB 0 1 k
  · rw [q] at h; simp at h
  · rw [q] at h
    cases q2 : (wfB a (len k) && wfT k)
    · rw [q2] at h; simp at h
    · refine ⟨rfl, ?_⟩
      unfold fitB at q; rw [decide_eq_true_eq] at q; omega
end Go.Proofs.Ytfoedbfkddoibaa
