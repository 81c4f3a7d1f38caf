/-
  Two often used facts.
-/
import Derived.Below
namespace Go.Proofs.YtcejjdmnlejbaaaGreatDoor
open Go.RowKit
theorem ba1{w:World}{o:Obj}:Below w.heap.size w (w.alloc o):=(Below.refl _ _).alloc (Nat.le_refl _) _
theorem bt9{a b c:World}(h:Hid (Below a.heap.size a b))(k:Below b.heap.size b c):Below a.heap.size a c:=h.out.trans (k.mono h.out.size)
end Go.Proofs.YtcejjdmnlejbaaaGreatDoor
