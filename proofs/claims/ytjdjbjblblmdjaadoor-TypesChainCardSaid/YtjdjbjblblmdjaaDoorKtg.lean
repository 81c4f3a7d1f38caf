/-
  What the listed tables give.
-/
import Derived.Test.YtjdjbjblblmdjaaDoorRows
import Derived.Test.YtjdjbjblblmdjaaDoorKtf
import Derived.MakeChecks
import Derived.Stop.LaidErr
import Derived.LaidMore
namespace Go.Proofs.YtjdjbjblblmdjaaDoor
set_option linter.unusedVariables false
set_option linter.unusedSimpArgs false
open Go.ChangeShapes Go.WideShapes Go.ChangeAt Go.RowKit

def LaidFacts (W : World) : Prop := Tab W
theorem pow10_data : (Rows.laid_internal_strconv_uint64pow10 : DataW Unit) = Lib.tabData .u64 Lib.pow10Tab := by kernel_rfl
theorem LaidFacts.of_laid {W : World} (h : laidMetH Tryd.prog [("math/bits.deBruijn32tab", Rows.laid_math_bits_deBruijn32tab), ("math/bits.deBruijn64tab", Rows.laid_math_bits_deBruijn64tab), ("internal/strconv.uint64pow10", Rows.laid_internal_strconv_uint64pow10)] W) : LaidFacts W := by
  rw [MakeChecks.laidMetH_plain _ _ _ (by kernel_rfl)] at h
  have h2 := h.tail.tail
  rw [pow10_data] at h2
  exact Tab.of_tab (Lib.tabIs_of_head tabG (t := 82) (n := 20) (e := 68) (by kernel_rfl) (by kernel_rfl) (by kernel_rfl) (by kernel_rfl) (by kernel_rfl) h2)

end Go.Proofs.YtjdjbjblblmdjaaDoor
