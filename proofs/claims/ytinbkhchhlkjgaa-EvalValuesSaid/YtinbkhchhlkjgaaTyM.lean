/-
  Plain functions on types: the type of a node out of its arguments' types. No program in sight.
-/
import Derived.Test.YtinbkhchhlkjgaaExpM
import Derived.Test.YtinbkhchhlkjgaaAttM
namespace Go.Proofs.Ytinbkhchhlkjgaa
set_option linter.unusedVariables false
set_option linter.unusedSimpArgs false
open Go.RowKit
open Go.Deep (BT)

def allI (L : List Int) (k : Int) : Bool := L.all fun x => x == k
def amtB (k : Int) : Bool := decide (k = 1 ∨ k = 2)
def prodT (op a b : Int) : Int :=
  if a = 1 ∧ b = 1 then 1 else if a = 2 ∧ b = 1 then 2 else if op = 10 ∧ a = 1 ∧ b = 2 then 2 else if op = 11 ∧ a = 2 ∧ b = 2 then 1 else 0
def cmpB (op : Int) (L : List Int) : Bool :=
  if op = 15 then allI L 3 else if op = 16 ∨ op = 17 then amtB (L.getD 0 0) && (L.getD 0 0 == L.getD 1 0) else if op = 18 then (L.getD 0 0 == L.getD 1 0) else allI L 4
/-- The type of a node whose arguments have these types; 0: none. -/
def resT (op : Int) (L : List Int) : Int :=
  if op = 1 then 1 else if op = 2 then 2 else if op = 3 then 3 else if op = 4 ∨ op = 5 then 4 else
  if op = 7 ∨ op = 8 ∨ op = 9 ∨ op = 12 ∨ op = 13 then (if (amtB (L.getD 0 0) && allI L (L.getD 0 0)) = true then L.getD 0 0 else 0) else
  if op = 10 ∨ op = 11 then prodT op (L.getD 0 0) (L.getD 1 0) else
  if op = 14 then (if L.getD 0 0 = 4 ∧ L.getD 1 0 = L.getD 2 0 then L.getD 1 0 else 0) else (if cmpB op L = true then 4 else 0)

/-- What a name that is no attribute stands for: its type and its error. -/
abbrev Look := ByteArray → Int × Int
/-- The type of a name. -/
def nameT (look : Look) (sc : Int) (s : ByteArray) : Int × Int := if atE sc s = 0 then (atS sc s, 0) else look s
/-- The types of a row of trees, or the first error. -/
def tyF (look : Look) (sc : Int) : Fo → Int × List Int
  | .nil => (0, [])
  | .node _ _ a k r =>
    let t : Int × Int := if a.op = 6 then nameT look sc a.name else if (tyF look sc k).1 = 0 then (if resT a.op (tyF look sc k).2 = 0 then (0, 9) else (resT a.op (tyF look sc k).2, 0)) else (0, (tyF look sc k).1)
    if t.2 = 0 then (if (tyF look sc r).1 = 0 then (0, t.1 :: (tyF look sc r).2) else ((tyF look sc r).1, [])) else (t.2, [])
/-- The type of an expression and its error. -/
def tyT (look : Look) (sc : Int) (a : Nd) (k : Fo) : Int × Int :=
  if a.op = 6 then nameT look sc a.name else if (tyF look sc k).1 = 0 then (if resT a.op (tyF look sc k).2 = 0 then (0, 9) else (resT a.op (tyF look sc k).2, 0)) else (0, (tyF look sc k).1)
theorem tyF_node (look : Look) (sc : Int) (b o : Nat) (a : Nd) (k r : Fo) : tyF look sc (.node b o a k r) =
    if (tyT look sc a k).2 = 0 then (if (tyF look sc r).1 = 0 then (0, (tyT look sc a k).1 :: (tyF look sc r).2) else ((tyF look sc r).1, [])) else ((tyT look sc a k).2, []) := rfl
theorem tyF_len (look : Look) (sc : Int) (T : Fo) (h : (tyF look sc T).1 = 0) : (tyF look sc T).2.length = len T := by
  induction T with
  | nil => rfl
  | node b o a k r ihk ihr =>
    rw [tyF_node] at h ⊢
    by_cases h1 : (tyT look sc a k).2 = 0
    · rw [if_pos h1] at h ⊢
      by_cases h2 : (tyF look sc r).1 = 0
      · rw [if_pos h2]; simp [len, ihr h2]
      · rw [if_neg h2] at h; exact absurd h h2
    · rw [if_neg h1] at h; exact absurd h h1

/-- A constant: its name and its expression. -/
structure Cn where
  name : ByteArray
  b : Nat
  o : Nat
  a : Nd
  k : Fo
/-- The first constant of a name. -/
def firstIx (s : ByteArray) : List Cn → Option Nat
  | [] => none
  | c :: cs => if c.name = s then some 0 else (firstIx s cs).map (· + 1)
/-- What a name stands for where the types of the first constants are known. -/
def lookT (cs : List Cn) (T : List (Int × Int)) : Look := fun s =>
  match firstIx s cs with
  | some i => if i < T.length then T.getD i (0, 6) else (0, 6)
  | none => (0, 6)
/-- The type of one constant. -/
def oneT (cs : List Cn) (T : List (Int × Int)) (c : Cn) : Int × Int :=
  if valE c.a c.k = 0 then tyT (lookT cs T) 0 c.a c.k else (0, valE c.a c.k)
/-- The types of the first n constants. -/
def tabN (cs : List Cn) : Nat → List (Int × Int)
  | 0 => []
  | n + 1 => tabN cs n ++ (match cs[n]? with | some c => [oneT cs (tabN cs n) c] | none => [(0, 6)])
/-- What TypeOf answers. -/
def typeOfT (cs : List Cn) (sc : Int) (a : Nd) (k : Fo) : Int × Int :=
  if valE a k = 0 then tyT (lookT cs (tabN cs cs.length)) sc a k else (0, valE a k)
def rowT (cs : List Cn) (i : Nat) : Int × Int := (tabN cs (i + 1)).getD i (0, 6)
theorem tabN_len (cs : List Cn) (n : Nat) : (tabN cs n).length = n := by
  induction n with
  | zero => rfl
  | succ n ih => rw [tabN, List.length_append, ih]; cases cs[n]? <;> rfl
theorem tabN_get (cs : List Cn) (n i : Nat) (h : i < n) : (tabN cs n).getD i (0, 6) = rowT cs i := by
  induction n with
  | zero => omega
  | succ n ih =>
    by_cases e : i = n
    · subst e; rfl
    · have : (tabN cs (n + 1)).getD i (0, 6) = (tabN cs n).getD i (0, 6) := by
        rw [tabN, List.getD_eq_getElem?_getD, List.getElem?_append_left (by rw [tabN_len]; omega), ← List.getD_eq_getElem?_getD]
      rw [this]; exact ih (by omega)
theorem rowT_eq (cs : List Cn) (i : Nat) (c : Cn) (h : cs[i]? = some c) : rowT cs i = oneT cs (tabN cs i) c := by
  unfold rowT
  rw [tabN, h, List.getD_eq_getElem?_getD, List.getElem?_append_right (by rw [tabN_len]; omega), tabN_len]
  simp
theorem lookT_tab (cs : List Cn) (n : Nat) (s : ByteArray) : lookT cs (tabN cs n) s = match firstIx s cs with | some i => if i < n then rowT cs i else (0, 6) | none => (0, 6) := by
  unfold lookT
  rw [tabN_len]
  cases firstIx s cs with
  | none => rfl
  | some i =>
    by_cases h : i < n
    · simp only [if_pos h, tabN_get cs n i h]
    · simp only [if_neg h]

/-- Types are 0 to 4; where there is an error there is no type. -/
def TyOk (t : Int × Int) : Prop := 0 ≤ t.1 ∧ t.1 ≤ 4 ∧ 0 ≤ t.2 ∧ t.2 ≤ 10 ∧ (t.2 ≠ 0 → t.1 = 0)

end Go.Proofs.Ytinbkhchhlkjgaa
