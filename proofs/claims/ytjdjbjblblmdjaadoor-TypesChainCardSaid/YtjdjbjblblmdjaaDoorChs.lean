/-
  Rows of expressions: lists of trees as forests; what lies behind a block; a row laid into a new block.
-/
import Derived.Test.YtjdjbjblblmdjaaDoorGa
namespace Go.Proofs.YtjdjbjblblmdjaaDoor
section
set_option linter.unusedVariables false
set_option linter.unusedSimpArgs false
open Go.ChangeShapes Go.WideShapes Go.ChangeAt Go.RowKit
open Go.Deep (BT)

/-- One tree of a row. -/
structure Ch where
  b : Nat
  o : Nat
  a : Nd
  k : Fo
def rowF : List Ch → Fo
  | [] => .nil
  | c :: r => .node c.b c.o c.a c.k (rowF r)
end

end Go.Proofs.YtjdjbjblblmdjaaDoor
