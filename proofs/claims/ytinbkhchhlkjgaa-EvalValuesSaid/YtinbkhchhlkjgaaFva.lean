/-
  Formulas in memory, what they come to, and the contracts of combine and Value.
-/
import Derived.Test.YtinbkhchhlkjgaaFar
import Derived.Test.YtinbkhchhlkjgaaTyP
import Derived.Test.YtinbkhchhlkjgaaExp
namespace Go.Proofs.Ytinbkhchhlkjgaa
set_option linter.unusedVariables false
set_option linter.unusedSimpArgs false
open Go.ChangeShapes Go.WideShapes Go.ChangeAt Go.RowKit
open Go.Deep (BT)

/-- One node of a formula. -/
structure Fd where
  op : Int
  num : Int
  ptr : Option Addr
  cap : Nat
abbrev Ff := BT Fd
def flen : Ff → Nat
  | .nil => 0
  | .node _ _ _ _ r => flen r + 1
/-- A row of formulas lies from offset O of block B on: three cells each. -/
def FmAt (w : World) : Ff → Nat → Nat → Prop
  | .nil, _, _ => True
  | .node b o a k r, B, O => (w.cell? ⟨B, O, none⟩ = some (.int .i64 a.op) ∧ w.cell? ⟨B, O + 1, none⟩ = some (.int .i64 a.num) ∧ w.cell? ⟨B, O + 2, none⟩ = some (.slice a.ptr (flen k) a.cap)) ∧
      (k ≠ .nil → a.ptr = some ⟨b, o, none⟩) ∧ FmAt w k b o ∧ FmAt w r B (O + 3)
theorem FmAt.next {w w' : World} {T : Ff} {B O : Nat} (h : FmAt w T B O) (hb : Below w.heap.size w w') : FmAt w' T B O := by
  induction T generalizing B O with
  | nil => trivial
  | node b o a k r ihk ihr =>
    obtain ⟨⟨h0, h1, h2⟩, hp, hk, hr⟩ := h
    refine ⟨⟨?_, ?_, ?_⟩, hp, ihk hk, ihr hr⟩
    · rw [hb.cell (block_lt_of_cell h0)]; exact h0
    · rw [hb.cell (block_lt_of_cell h1)]; exact h1
    · rw [hb.cell (block_lt_of_cell h2)]; exact h2

def negV (x : Int) : Int := IntKind.i64.wrap (-x)
def notV (x : Int) : Int := IntKind.i64.wrap (1 - x)
/-- An operator with two arguments. -/
def cmbV (op a b : Int) : Int :=
  if op = 8 then addV a b else if op = 9 then addV a (negV b) else if op = 10 then mulV a b else if op = 11 then divV a b else
  if op = 16 then flagI (decide (a < b)) else if op = 17 then flagI (decide (a ≤ b)) else if op = 18 then flagI (decide (a = b)) else
  if op = 20 then bits .and .i64 a b else if op = 21 then bits .or .i64 a b else bits .or .i64 (notV a) b
def minL (x : Int) : List Int → Int
  | [] => x
  | y :: l => minL (min x y) l
def maxL (x : Int) : List Int → Int
  | [] => x
  | y :: l => maxL (max x y) l
/-- An operator on its arguments' values. -/
def opV (op : Int) (L : List Int) : Int :=
  if op = 14 then (if L.getD 0 0 ≠ 0 then L.getD 1 0 else L.getD 2 0) else
  if op = 12 then minL (L.getD 0 0) (L.drop 1) else if op = 13 then maxL (L.getD 0 0) (L.drop 1) else
  if op = 15 then flagI (bandB (L.getD 0 0) (L.getD 1 0) (L.getD 2 0)) else
  if op = 7 then addV 0 (negV (L.getD 0 0)) else if op = 19 then notV (L.getD 0 0) else cmbV op (L.getD 0 0) (L.getD 1 0)
def fv1 (vals : List Int) (f : Fd) (L : List Int) : Int := if f.op = 1 then f.num else if f.op = 6 then vals.getD f.num.toNat 0 else opV f.op L
def fvF (vals : List Int) : Ff → List Int
  | .nil => []
  | .node _ _ f k r => fv1 vals f (fvF vals k) :: fvF vals r
theorem fvF_len (vals : List Int) (T : Ff) : (fvF vals T).length = flen T := by
  induction T with
  | nil => rfl
  | node b o a k r ihk ihr => simp [fvF, flen, ihr]
/-- A formula has its form: the number of its arguments fits its operator; attributes have places. -/
def fOk1 (n : Nat) (f : Fd) (m : Nat) : Prop := i64B f.num ∧ (f.op = 1 ∨ (f.op = 6 ∧ 0 ≤ f.num ∧ f.num < n) ∨ ((f.op = 14 ∨ f.op = 15) ∧ m = 3) ∨ ((f.op = 12 ∨ f.op = 13) ∧ 1 ≤ m) ∨ ((f.op = 7 ∨ f.op = 19) ∧ m = 1) ∨ ((f.op = 8 ∨ f.op = 9 ∨ f.op = 10 ∨ f.op = 11 ∨ f.op = 16 ∨ f.op = 17 ∨ f.op = 18 ∨ f.op = 20 ∨ f.op = 21 ∨ f.op = 22) ∧ m = 2))
def fOk (n : Nat) : Ff → Prop
  | .nil => True
  | .node _ _ f k r => fOk1 n f (flen k) ∧ flen k ≤ 9223372036854775807 ∧ fOk n k ∧ fOk n r
def AllG (P : Nat → Nat → Fd → Ff → Prop) : Ff → Prop
  | .nil => True
  | .node b o a k r => P b o a k ∧ AllG P r
theorem allG_of {P : Nat → Nat → Fd → Ff → Prop} (h : ∀ b o a k, AllG P k → P b o a k) : ∀ T : Ff, AllG P T := by
  intro T
  induction T with
  | nil => trivial
  | node b o a k r ihk ihr => exact ⟨h b o a k ihk, ihr⟩
theorem treeG_of {P : Nat → Nat → Fd → Ff → Prop} (h : ∀ b o a k, AllG P k → P b o a k) (b o : Nat) (a : Fd) (k : Ff) : P b o a k := h b o a k (allG_of h k)

/-- The values are Go's ints. -/
theorem clampI_i64 (n : Int) : i64B (clampI n) := by have := clampI_bd n; unfold i64B; omega
theorem wrap_i64B (x : Int) : i64B (IntKind.i64.wrap x) := by rw [IntKind.wrap_i64]; unfold i64B; omega
theorem flagI_i64 (b : Bool) : i64B (flagI b) := by cases b <;> (unfold i64B flagI; decide)
theorem bits_i64 (o : BinOp) (a b : Int) : i64B (bits o .i64 a b) := by
  unfold bits
  split <;> exact wrap_i64B _
theorem divV_i64 (a b : Int) : i64B (divV a b) := by
  unfold divV
  split
  · unfold i64B; decide
  · exact clampI_i64 _
theorem cmbV_i64 (op a b : Int) : i64B (cmbV op a b) := by
  unfold cmbV
  (repeat' split) <;> first | exact clampI_i64 _ | exact divV_i64 _ _ | exact flagI_i64 _ | exact bits_i64 _ _ _

theorem minL_i64 (x : Int) (L : List Int) (hx : i64B x) (h : ∀ y ∈ L, i64B y) : i64B (minL x L) := by
  induction L generalizing x with
  | nil => exact hx
  | cons y l ih =>
    have hy := h y (by simp)
    exact ih _ (by unfold i64B at *; omega) (fun z hz => h z (by simp [hz]))
theorem maxL_i64 (x : Int) (L : List Int) (hx : i64B x) (h : ∀ y ∈ L, i64B y) : i64B (maxL x L) := by
  induction L generalizing x with
  | nil => exact hx
  | cons y l ih =>
    have hy := h y (by simp)
    exact ih _ (by unfold i64B at *; omega) (fun z hz => h z (by simp [hz]))
theorem getD_i64 (L : List Int) (i : Nat) (h : ∀ y ∈ L, i64B y) : i64B (L.getD i 0) := by
  rw [List.getD_eq_getElem?_getD]
  cases q : L[i]? with
  | none => show i64B 0; unfold i64B; decide
  | some x => exact h x (List.mem_of_getElem? q)
theorem opV_i64 (op : Int) (L : List Int) (h : ∀ y ∈ L, i64B y) : i64B (opV op L) := by
  unfold opV
  have hd : ∀ y ∈ L.drop 1, i64B y := fun y hy => h y (List.mem_of_mem_drop hy)
  (repeat' split) <;> first | exact getD_i64 _ _ h | exact minL_i64 _ _ (getD_i64 _ _ h) hd | exact maxL_i64 _ _ (getD_i64 _ _ h) hd | exact flagI_i64 _ | exact clampI_i64 _ | exact wrap_i64B _ | exact cmbV_i64 _ _ _
theorem fvF_i64 (n : Nat) (vals : List Int) (hv : ∀ x ∈ vals, i64B x) (T : Ff) (h : fOk n T) : ∀ x ∈ fvF vals T, i64B x := by
  induction T with
  | nil => intro x hx; cases hx
  | node b o a k r ihk ihr =>
    obtain ⟨h1, -, h2, h3⟩ := h
    intro x hx
    rcases List.mem_cons.1 hx with rfl | hx
    · unfold fv1
      (repeat' split)
      · exact h1.1
      · exact getD_i64 _ _ hv
      · exact opV_i64 _ _ (ihk h2)
    · exact ihr h3 x hx

end Go.Proofs.Ytinbkhchhlkjgaa
