/-
  The root of what TypesChain uses (for shake.py).
-/
import Derived.Test.YtjdjbjblblmdjaaDoorTcp
import Derived.Test.YtjdjbjblblmdjaaDoorAwa
import Derived.Test.YtjdjbjblblmdjaaDoorTvP
import Derived.Test.YtjdjbjblblmdjaaDoorKtg
namespace Go.Proofs.YtjdjbjblblmdjaaDoor
theorem tcq_use : True := by
  have a := @ttext_any
  have b := @okT_num
  have c := @typeof_any
  have d := @awake_any
  have e := @tchain_of
  have f := @tchain_no
  have g := @CsV
  have h := @CsAt
  have i := @LaidFacts
  have j := @tnm_itoa
  have k := @itoa_size
  have l := @LaidFacts.of_laid
  trivial
end Go.Proofs.YtjdjbjblblmdjaaDoor
