/-
  Numbers and tests of a text.
-/
import Derived.Test.YtjdjbjblblmdjaaDoorKtb
namespace Go.Proofs.YtjdjbjblblmdjaaDoor
set_option linter.unusedVariables false
set_option linter.unusedSimpArgs false
open Go.ChangeShapes Go.WideShapes Go.ChangeAt Go.RowKit

theorem list5 (l : List UInt8) (h : l.length = 5) : ∃ a b c d e, l = [a, b, c, d, e] := by
  match l, h with
  | [a, b, c, d, e], _ => exact ⟨a, b, c, d, e, rfl⟩
theorem ext_list (s : ByteArray) (a b : Nat) : (s.extract a b).data.toList = (s.data.toList.take b).drop a := by
  rw [ByteArray.data_extract]; simp [List.extract_eq_take_drop, List.take_drop]
  by_cases h : a ≤ b
  · rw [show a + (b - a) = b from by omega]
  · rw [List.drop_eq_nil_of_le (by simp; omega), List.drop_eq_nil_of_le (by simp; omega)]
/-- Numbers and tests of a text, kept whole: the walk must not take them apart. -/
def numBT (s : ByteArray) : Int := Txt.num s.data.toList
def allB (s : ByteArray) : Bool := Txt.allD s.data.toList
theorem numB_bd (s : ByteArray) (k : Nat) (hs : s.size ≤ k) (hd : allB s = true) : 0 ≤ numBT s ∧ numBT s < (10 ^ k : Nat) := by
  have h := Txt.num_bd _ hd
  rw [len_atT] at h
  have : 10 ^ s.size ≤ 10 ^ k := Nat.pow_le_pow_right (by omega) hs
  exact ⟨h.1, by unfold numBT; omega⟩
def dgV (s : ByteArray) (a b : Int) : Int := digV s.data.toList a b
def dgB (s : ByteArray) (a b : Int) : Bool := digB s.data.toList a b
theorem digits_same (s : ByteArray) (a b : Int) (w : World) (hs : s.size ≤ 9223372036854775807) (hb : b ≤ 13) :
    Calls Tryd.prog 25 #[.string s, .int .i64 a, .int .i64 b] w fun e w' => e = .returned (.tuple #[.int .i64 (dgV s a b), .bool (dgB s a b)]) ∧ w = w' := digits_any s a b w hs hb
theorem dg_exact (s : ByteArray) (k : Nat) (h : s.size = k) : dgB s k k = allB s ∧ (allB s = true → dgV s k k = numBT s) := by
  unfold dgB dgV digB digV allB numBT
  rw [len_atT, h]
  cases Txt.allD s.data.toList <;> simp
end Go.Proofs.YtjdjbjblblmdjaaDoor
