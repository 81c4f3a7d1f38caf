/-
  Expressions as they lie in memory: a forest (first child, next sibling) with the addresses of its rows. No program in sight.
-/
import Derived.WalkKit
import Derived.Below
import Derived.Deep.Trees
import Derived.Lib.Hide
namespace Go.Proofs.Ytinbkhchhlkjgaa
set_option linter.unusedVariables false
set_option linter.unusedSimpArgs false
open Go.RowKit
open Go.Deep (BT)

/-- One node: its operator, number and name, and the address and capacity of its row of arguments. -/
structure Nd where
  op : Int
  num : Int
  name : ByteArray
  ptr : Option Addr
  cap : Nat

/-- '.node b o a k r': a first tree with the node a, whose arguments k lie from offset o of block b on; r: the trees behind it. -/
abbrev Fo := BT Nd
def len : Fo → Nat
  | .nil => 0
  | .node _ _ _ _ r => len r + 1
/-- A row of trees lies from offset O of block B on: four cells each. -/
def FoAt (w : World) : Fo → Nat → Nat → Prop
  | .nil, _, _ => True
  | .node b o a k r, B, O => (w.cell? ⟨B, O, none⟩ = some (.int .i64 a.op) ∧ w.cell? ⟨B, O + 1, none⟩ = some (.int .i64 a.num) ∧ w.cell? ⟨B, O + 2, none⟩ = some (.string a.name) ∧ w.cell? ⟨B, O + 3, none⟩ = some (.slice a.ptr (len k) a.cap)) ∧
      (k ≠ .nil → a.ptr = some ⟨b, o, none⟩) ∧ FoAt w k b o ∧ FoAt w r B (O + 4)
/-- Its numbers are Go's ints, its names and rows are of a length that Go's len can tell. -/
def NdOk (a : Nd) (n : Nat) : Prop := (-9223372036854775808 ≤ a.op ∧ a.op ≤ 9223372036854775807) ∧ (-9223372036854775808 ≤ a.num ∧ a.num ≤ 9223372036854775807) ∧ a.name.size ≤ 9223372036854775807 ∧ n ≤ 9223372036854775807
def FoOk : Fo → Prop
  | .nil => True
  | .node _ _ a k r => NdOk a (len k) ∧ FoOk k ∧ FoOk r
/-- One expression, held by value. -/
def ExAt (w : World) (b o : Nat) (a : Nd) (k : Fo) : Prop := (k ≠ .nil → a.ptr = some ⟨b, o, none⟩) ∧ FoAt w k b o
def ExOk (a : Nd) (k : Fo) : Prop := NdOk a (len k) ∧ FoOk k
def exV (a : Nd) (k : Fo) : Value := .agg #[.int .i64 a.op, .int .i64 a.num, .string a.name, .slice a.ptr (len k) a.cap]

theorem len_zero {k : Fo} (h : len k = 0) : k = .nil := by cases k with
  | nil => rfl
  | node => simp [len] at h
theorem FoAt.next {w w' : World} {T : Fo} {B O : Nat} (h : FoAt w T B O) (hb : Below w.heap.size w w') : FoAt w' T B O := by
  induction T generalizing B O with
  | nil => trivial
  | node b o a k r ihk ihr =>
    obtain ⟨⟨h0, h1, h2, h3⟩, hp, hk, hr⟩ := h
    refine ⟨⟨?_, ?_, ?_, ?_⟩, hp, ihk hk, ihr hr⟩
    · rw [hb.cell (block_lt_of_cell h0)]; exact h0
    · rw [hb.cell (block_lt_of_cell h1)]; exact h1
    · rw [hb.cell (block_lt_of_cell h2)]; exact h2
    · rw [hb.cell (block_lt_of_cell h3)]; exact h3
theorem ExAt.next {w w' : World} {b o : Nat} {a : Nd} {k : Fo} (h : ExAt w b o a k) (hb : Below w.heap.size w w') : ExAt w' b o a k := ⟨h.1, h.2.next hb⟩
/-- What lies below B stays while nothing below B is written. -/
def FoLt (B0 : Nat) : Fo → Nat → Prop
  | .nil, _ => True
  | .node b _ _ k r, B => B < B0 ∧ FoLt B0 k b ∧ FoLt B0 r B
theorem FoAt.lt {w : World} {T : Fo} {B O : Nat} (h : FoAt w T B O) : FoLt w.heap.size T B := by
  induction T generalizing B O with
  | nil => trivial
  | node b o a k r ihk ihr =>
    obtain ⟨⟨h0, h1, h2, h3⟩, hp, hk, hr⟩ := h
    exact ⟨block_lt_of_cell h0, ihk hk, ihr hr⟩
theorem FoLt.mono {B0 B1 : Nat} {T : Fo} {B : Nat} (h : FoLt B0 T B) (hb : B0 ≤ B1) : FoLt B1 T B := by
  induction T generalizing B with
  | nil => trivial
  | node b o a k r ihk ihr => exact ⟨Nat.lt_of_lt_of_le h.1 hb, ihk h.2.1, ihr h.2.2⟩
theorem FoAt.below {w w' : World} {T : Fo} {B O B0 : Nat} (h : FoAt w T B O) (hl : FoLt B0 T B) (hb : Below B0 w w') : FoAt w' T B O := by
  induction T generalizing B O with
  | nil => trivial
  | node b o a k r ihk ihr =>
    obtain ⟨⟨h0, h1, h2, h3⟩, hp, hk, hr⟩ := h
    obtain ⟨l0, lk, lr⟩ := hl
    refine ⟨⟨?_, ?_, ?_, ?_⟩, hp, ihk hk lk, ihr hr lr⟩
    · rw [hb.cell (p := ⟨B, O, none⟩) l0]; exact h0
    · rw [hb.cell (p := ⟨B, O + 1, none⟩) l0]; exact h1
    · rw [hb.cell (p := ⟨B, O + 2, none⟩) l0]; exact h2
    · rw [hb.cell (p := ⟨B, O + 3, none⟩) l0]; exact h3

/-- What holds of each tree of a row. -/
def AllT (P : Nat → Nat → Nd → Fo → Prop) : Fo → Prop
  | .nil => True
  | .node b o a k r => P b o a k ∧ AllT P r
/-- A proof for every tree: from its arguments to itself. -/
theorem allT_of {P : Nat → Nat → Nd → Fo → Prop} (h : ∀ b o a k, AllT P k → P b o a k) : ∀ T : Fo, AllT P T := by
  intro T
  induction T with
  | nil => trivial
  | node b o a k r ihk ihr => exact ⟨h b o a k ihk, ihr⟩
theorem tree_of {P : Nat → Nat → Nd → Fo → Prop} (h : ∀ b o a k, AllT P k → P b o a k) (b o : Nat) (a : Nd) (k : Fo) : P b o a k := h b o a k (allT_of h k)

/-- The trees of a row lie in its block. -/
theorem FoLt.tail {B0 : Nat} {T : Fo} {b o : Nat} {a : Nd} {k r : Fo} {B : Nat} (h : FoLt B0 (.node b o a k r) B) : FoLt B0 k b ∧ FoLt B0 r B := h.2

end Go.Proofs.Ytinbkhchhlkjgaa
