/-
  Small facts for walks.
-/
import Derived.Test.YtjdjbjblblmdjaaDoorTxtMath
import Derived.Test.YtjdjbjblblmdjaaDoorShelf
import Derived.Lib.QuietBelow
import Derived.WalkSmall
import Derived.PlainAid
import Derived.StillTailTactics
import Derived.WalkKit
import Derived.ProofKit
import Derived.OpenShut
import Derived.WalkSpells
import Derived.WalkLawsBesides
import Derived.Outline
import Derived.LoopTactic
import Derived.Deep.QuietTactic
import Derived.BigQuiet
import Derived.Lib.Hide
import Derived.Deep.RegionHeld3
import Derived.Deep.RegionWith
import Derived.Deep.DeepCutAuto
import Derived.Deep.CutBlock
import Derived.Deep.DeepMust
import Derived.Deep.DeepFit
namespace Go.Proofs.YtjdjbjblblmdjaaDoor
set_option linter.unusedVariables false
set_option linter.unusedSimpArgs false
open Go.ChangeShapes Go.WideShapes Go.ChangeAt Go.RowKit

theorem ret_intT {k : IntKind} {a b : Int} (h : a = b) : Ending.returned (.int k a) = .returned (.int k b) := by rw [h]
theorem ret_boolT {a b : Bool} (h : a = b) : Ending.returned (.bool a) = .returned (.bool b) := by rw [h]
theorem box_cell {w w1 : World} {xs : Array Value} {T : TypeId} (hb : Below (w.alloc (.cells xs T)).heap.size (w.alloc (.cells xs T)) w1) (o : Nat) : w1.cell? ⟨w.heap.size, o, none⟩ = xs[o]? := by
  rw [hb.cell (p := ⟨w.heap.size, o, none⟩) (by simp)]; simp
theorem box_free {w w1 : World} {xs : Array Value} {T : TypeId} (hb : Below (w.alloc (.cells xs T)).heap.size (w.alloc (.cells xs T)) w1) (o : Nat) : w1.frozen? ⟨w.heap.size, o, none⟩ = false := by
  rw [hb.frozen (p := ⟨w.heap.size, o, none⟩) (by simp)]; simp
theorem box_size {w w1 : World} {o : Obj} (hb : Below (w.alloc o).heap.size (w.alloc o) w1) : w.heap.size < w1.heap.size := by have := hb.size; simp at this; omega
theorem below_drewNT {B : Nat} {w w1 : World} (h : Below B w w1) (n : Nat) : Below B w (w1.drewN n) := ⟨h.os, h.tape, h.output, h.size, h.block⟩
theorem below_grow (w : World) (q : Nat) (os : Array Obj) : Below w.heap.size w (Sort.grow (w.drewN q) os) :=
  ⟨rfl, rfl, rfl, by simp, fun k hk => Sort.heap_grow_old _ _ (by simpa using hk)⟩
theorem ba_app (a b : List UInt8) : (⟨a.toArray⟩ : ByteArray) ++ ⟨b.toArray⟩ = ⟨(a ++ b).toArray⟩ := by
  apply ByteArray.ext; simp
theorem ba_self (s : ByteArray) : (⟨s.data.toList.toArray⟩ : ByteArray) = s := by cases s; simp
theorem ret_str {a b : ByteArray} (h : a = b) : Ending.returned (.string a) = .returned (.string b) := by rw [h]

end Go.Proofs.YtjdjbjblblmdjaaDoor
