/-
  Parsing inverts formatting, plain.
-/
import Derived.Test.YtjdjbjblblmdjaaDoorKti
namespace Go.Proofs.YtjdjbjblblmdjaaDoor
set_option linter.unusedVariables false
set_option linter.unusedSimpArgs false
open Go.ChangeShapes Go.WideShapes Go.ChangeAt Go.RowKit

theorem dec_ne (n : Nat) : 1 ≤ (Lib.decDigits n).length := by
  rw [Lib.decDigits]; split <;> simp
theorem dec_head (n : Nat) (h : 1 ≤ n) : ((Lib.decDigits n).getD 0 0).toNat ≠ 48 := by
  induction n using Nat.strongRecOn with
  | ind n ih =>
    rw [Lib.decDigits]
    split
    · rename_i h10
      simp [Txt.toNat_digit n h10]; omega
    · rename_i h10
      have := ih (n / 10) (by omega) (by omega)
      have hl := dec_ne (n / 10)
      rw [List.getD_eq_getElem?_getD, List.getElem?_append_left (by omega), ← List.getD_eq_getElem?_getD]
      exact this
end Go.Proofs.YtjdjbjblblmdjaaDoor
