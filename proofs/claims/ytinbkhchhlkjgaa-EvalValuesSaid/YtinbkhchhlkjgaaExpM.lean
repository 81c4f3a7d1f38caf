/-
  Plain functions on expressions: how many nodes and levels, the form of a node, the types. No program in sight.
-/
import Derived.Test.YtinbkhchhlkjgaaExp
import Derived.Test.YtinbkhchhlkjgaaNamM
namespace Go.Proofs.Ytinbkhchhlkjgaa
set_option linter.unusedVariables false
set_option linter.unusedSimpArgs false
open Go.RowKit
open Go.Deep (BT)

/-- The nodes of a row of trees. -/
def sz : Fo → Nat
  | .nil => 0
  | .node _ _ _ k r => 1 + sz k + sz r
/-- Its levels. -/
def dp : Fo → Nat
  | .nil => 0
  | .node _ _ _ k r => max (1 + dp k) (dp r)
theorem len_le_sz (T : Fo) : len T ≤ sz T := by
  induction T with
  | nil => simp [len, sz]
  | node b o a k r ihk ihr => simp only [len, sz]; omega
/-- An expression of at most so many nodes and levels. -/
def fitB (n lv : Int) (k : Fo) : Bool := decide (n + 1 + sz k ≤ 200 ∧ lv + dp k ≤ 16)

/-- An operator may have so many arguments. -/
def argB (op n : Int) : Bool :=
  if 1 ≤ op ∧ op ≤ 6 then decide (n = 0) else if op = 7 ∨ op = 19 then decide (n = 1) else if op = 12 ∨ op = 13 then decide (2 ≤ n) else if op = 14 ∨ op = 15 then decide (n = 3) else decide (n = 2)
def numB (op num : Int) : Bool :=
  if op = 1 ∨ op = 2 then decide (0 ≤ num ∧ num ≤ 1099511627776) else if op = 3 then decide (0 ≤ num ∧ num ≤ 1439) else decide (num = 0)
def namB (op : Int) (name : ByteArray) : Bool := if op = 6 then attrS name else decide (name.size = 0)
/-- A node has its form. -/
def wfB (a : Nd) (n : Int) : Bool := decide (1 ≤ a.op ∧ a.op ≤ 22) && argB a.op n && numB a.op a.num && namB a.op a.name
/-- All nodes of a row of trees have their form. -/
def wfT : Fo → Bool
  | .nil => true
  | .node _ _ a k r => (wfB a (len k) && wfT k) && wfT r
/-- What ValidateExpr answers. -/
def valE (a : Nd) (k : Fo) : Int := if fitB 0 1 k = true then (if (wfB a (len k) && wfT k) = true then 0 else 1) else 10

end Go.Proofs.Ytinbkhchhlkjgaa
