/-
  Rows of expressions: lists of trees as forests; what lies behind a block; a row laid into a new block.
-/
import Derived.Test.YtifdimpfgglieaaGa
namespace Go.Proofs.Ytifdimpfgglieaa
section
set_option linter.unusedVariables false
set_option linter.unusedSimpArgs false
open Go.ChangeShapes Go.WideShapes Go.ChangeAt Go.RowKit
open Go.Deep (BT)

theorem results_cell1 {fn : Func} {p : Tmp} {ty : TypeId} (h : fn.results = #[.cell p ty]) (tmps : Array Value) (P : Program) (w : World) :
    (results fn tmps).run P w = ((asAddr (tmps.getD p undef)).run P w).andThen fun a w₁ => (loadVar ty a).run P w₁ := by
  simp only [results, h]
  simp [Sem.run_bind, Result.andThen]
end

end Go.Proofs.Ytifdimpfgglieaa
