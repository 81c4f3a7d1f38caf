/-
  The root of what EvalArithmetic uses of the elder texts (for shake.py).
-/
import Derived.Test.YtifdimpfgglieaaEaw
namespace Go.Proofs.Ytifdimpfgglieaa
theorem dgq_use : True := by
  have a := @eawake_any
  have b := @fadd_any
  have c := @fmul_any
  have d := @fdiv_any
  trivial
end Go.Proofs.Ytifdimpfgglieaa
