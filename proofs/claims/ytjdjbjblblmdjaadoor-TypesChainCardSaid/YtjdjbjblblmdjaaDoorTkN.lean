/-
  The contracts of sign, number and word, of the program and of the reference.
-/
import Derived.Test.YtjdjbjblblmdjaaDoorTkW
import Derived.Test.YtjdjbjblblmdjaaDoorShelf
import Derived.Laws.ResultCell
namespace Go.Proofs.YtjdjbjblblmdjaaDoor
set_option linter.unusedVariables false
set_option linter.unusedSimpArgs false
open Go.ChangeShapes Go.WideShapes Go.ChangeAt Go.RowKit

/-- What word returns: whether there is a token, and the token. -/
def WR (o : Option Tk.T3) (e : Ending) : Prop := ∃ (k : Int) (x : ByteArray) (n : Int), e = .returned (.tuple #[.agg #[.int .i64 k, .string x, .int .i64 n, .int .i64 0], .bool o.isSome]) ∧ ∀ t, o = some t → k = t.kind ∧ x = t.text ∧ n = t.num
theorem WR.none {o : Option Tk.T3} (h : o = none) (k : Int) (x : ByteArray) (n : Int) : WR o (.returned (.tuple #[.agg #[.int .i64 k, .string x, .int .i64 n, .int .i64 0], .bool false])) :=
  ⟨k, x, n, by rw [h]; rfl, fun t ht => by rw [h] at ht; cases ht⟩
theorem WR.some {o : Option Tk.T3} {k : Int} {x : ByteArray} {n : Int} (h : o = some ⟨k, x, n⟩) : WR o (.returned (.tuple #[.agg #[.int .i64 k, .string x, .int .i64 n, .int .i64 0], .bool true])) :=
  ⟨k, x, n, by rw [h]; rfl, fun t ht => by rw [h] at ht; cases ht; exact ⟨rfl, rfl, rfl⟩⟩
/-- The token of a word of digits. -/
def numO (l : List UInt8) : Option Tk.T3 := if Tk.numOk l = true then some ⟨2, ⟨#[]⟩, Txt.num l⟩ else none
theorem numO_no {l : List UInt8} (h : ¬ (1 ≤ l.length ∧ l.length ≤ 13 ∧ Txt.allD l = true ∧ ¬ ((l.getD 0 0).toNat = 48 ∧ 1 < l.length) ∧ Txt.num l ≤ 1099511627776)) : numO l = none := by
  unfold numO Tk.numOk; rw [decide_eq_false h]; rfl
theorem numO_yes {l : List UInt8} (h : 1 ≤ l.length ∧ l.length ≤ 13 ∧ Txt.allD l = true ∧ ¬ ((l.getD 0 0).toNat = 48 ∧ 1 < l.length) ∧ Txt.num l ≤ 1099511627776) : numO l = some ⟨2, ⟨#[]⟩, Txt.num l⟩ := by
  unfold numO Tk.numOk; rw [decide_eq_true h]; rfl
theorem below_alloc1 (w : World) (o : Obj) : Below w.heap.size w (w.alloc o) := (Below.refl _ _).alloc (Nat.le_refl _) _

end Go.Proofs.YtjdjbjblblmdjaaDoor
