/-
  Attributes that are given, their map, and the contract of eval.known.
-/
import Derived.Test.YtfoedbfkddoibaaFcm
namespace Go.Proofs.Ytfoedbfkddoibaa
set_option linter.unusedVariables false
set_option linter.unusedSimpArgs false
open Go.ChangeShapes Go.WideShapes Go.ChangeAt Go.RowKit
open Go.Maps (has size IsMap)
open Go.Deep (BT)

/-- An attribute's value. -/
structure Av where
  name : ByteArray
  val : Int
/-- The first value that is given for a name. -/
def firstAv (s : ByteArray) : List Av → Option Int
  | [] => none
  | a :: l => if a.name = s then some a.val else firstAv s l
end Go.Proofs.Ytfoedbfkddoibaa
