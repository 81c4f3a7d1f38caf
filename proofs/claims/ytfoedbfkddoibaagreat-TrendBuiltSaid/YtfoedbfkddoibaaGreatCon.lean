/-
  The contract of the compiler's Constant.
-/
import Derived.Test.YtfoedbfkddoibaaGreatGm
import Derived.Test.YtfoedbfkddoibaaGreatFcm
namespace Go.Proofs.YtfoedbfkddoibaaGreat
set_option linter.unusedVariables false
set_option linter.unusedSimpArgs false
open Go.ChangeShapes Go.WideShapes Go.ChangeAt Go.RowKit
open Go.Maps (has size IsMap)
open Go.Deep (BT)

theorem CmpX.val {w w' : World} {kb ib vb : Nat} {pb : Nat → Nat} {cs : List Cn} {p : Option Addr} {cap : Nat} {f : Nat → Int} (h : CmpX w kb ib vb pb cs p cap f) (hv : VMap Tryz.prog w' f cs.length vb) (hg : w.grownBy w' (some vb)) : CmpX w' kb ib vb pb cs p cap f where
  s := {
    c0 := by rw [World.cell?_of_block (hg.block kb h.s.lt (fun e => h.s.n2 (Option.some.inj e)))]; exact h.s.c0
    c1 := by rw [World.cell?_of_block (hg.block kb h.s.lt (fun e => h.s.n2 (Option.some.inj e)))]; exact h.s.c1
    c2 := by rw [World.cell?_of_block (hg.block kb h.s.lt (fun e => h.s.n2 (Option.some.inj e)))]; exact h.s.c2
    ix := h.s.ix.kept hg (fun e => h.s.n3 (Option.some.inj e))
    vm := hv
    n1 := h.s.n1
    n2 := h.s.n2
    n3 := h.s.n3
    lt := Nat.lt_of_lt_of_le h.s.lt hg.size }
  l := h.l.grown hg (fun e => h.s.n2 (Option.some.inj e)) (fun i hi e => h.n i hi (Option.some.inj e))
  n := h.n

end Go.Proofs.YtfoedbfkddoibaaGreat
