/-
  The contract of tokens.Scan. Printed by wip/mktks.py.
-/
import Derived.Test.YtjdjbjblblmdjaaDoorTkV
import Derived.Deep.CutBlock
import Derived.Deep.DeepCutAuto
namespace Go.Proofs.YtjdjbjblblmdjaaDoor
set_option linter.unusedVariables false
set_option linter.unusedSimpArgs false
open Go.ChangeShapes Go.WideShapes Go.ChangeAt Go.RowKit

theorem own_next {w w' : World} {base : Nat} {e : TypeId} {size : Nat} {v : Value} {n : Nat} {xs : List Value} (h : w.ownsRow base e size v n xs) (hb : Below w.heap.size w w') : w'.ownsRow base e size v n xs :=
  h.kept (row := none) ⟨hb.os, hb.tape, hb.output, hb.size, fun k hk _ => hb.block k hk⟩ (by cases v.ownBlock <;> simp)
/-- What Scan returns. -/
def ScanP (s : ByteArray) (w : World) (e : Ending) (w' : World) : Prop := ∃ v, e = .returned (.tuple #[v, .int .i64 (Tk.scanT s).2.1, .int .i64 (Tk.scanT s).2.2]) ∧ TkAt w' (Tk.scanT s).1 v ∧ Below w.heap.size w w'
theorem tk_nil (w : World) : TkAt w [] (.slice none 0 0) := ⟨none, 0, rfl, Nat.zero_le _, Nat.zero_le _, fun q => absurd rfl q⟩
theorem scanP_of {s : ByteArray} {w w' : World} {D : List Tk.T4} {v : Value} {a c : Int} (h : Tk.scanT s = (D, a, c)) (ht : TkAt w' D v) (hb : Below w.heap.size w w') : ScanP s w (.returned (.tuple #[v, .int .i64 a, .int .i64 c])) w' := by
  refine ⟨v, ?_, ?_, hb⟩ <;> rw [h]
  exact ht
theorem ext_ext (s : ByteArray) (k g : Nat) (h : k + g ≤ s.size) : (s.extract k s.size).extract 0 g = s.extract k (k + g) := by
  apply ByteArray.ext
  apply Array.toList_inj.1
  show ((s.extract k s.size).extract 0 g).data.toList = (s.extract k (k + g)).data.toList
  rw [ext_list, ext_list, ext_list, List.drop_zero, List.take_of_length_le (l := s.data.toList) (by rw [len_atT]; exact Nat.le_refl _), List.drop_take, show k + g - k = g by omega]
theorem drop_list (s : ByteArray) (k : Nat) : (s.extract k s.size).data.toList = s.data.toList.drop k := by
  rw [ext_list, List.take_of_length_le (by rw [len_atT]; exact Nat.le_refl _)]
theorem getD_dropS (s : ByteArray) (k j : Nat) (h : k + j < s.size) : (s.data.toList.drop k).getD j 0 = s[k + j] := by
  rw [List.getD_eq_getElem?_getD, List.getElem?_drop, ← List.getD_eq_getElem?_getD]
  exact getD_atT s (k + j) h
end Go.Proofs.YtjdjbjblblmdjaaDoor
