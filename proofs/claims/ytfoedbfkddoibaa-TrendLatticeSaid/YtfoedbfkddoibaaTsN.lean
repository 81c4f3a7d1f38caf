/-
  The walk of TrendLattice.
-/
import Derived.Test.YtfoedbfkddoibaaTk1
namespace Go.Proofs.Ytfoedbfkddoibaa
set_option linter.unusedVariables false
set_option linter.unusedSimpArgs false
open Go.ChangeShapes Go.WideShapes Go.ChangeAt Go.RowKit

theorem land_3 (n : Int) : bits .and .i64 n 3 = n % 4 := by
  have h127 : (BitVec.ofInt 64 3).toNat = 2 ^ 2 - 1 := by decide
  have key : (BitVec.ofInt 64 n &&& BitVec.ofInt 64 3).toNat = (n % ((2 ^ 64 : Nat) : Int)).toNat % 2 ^ 2 := by
    rw [BitVec.toNat_and, BitVec.toNat_ofInt, h127, Nat.and_two_pow_sub_one_eq_mod]
  show IntKind.i64.wrap ((BitVec.ofInt 64 n &&& BitVec.ofInt 64 3).toNat : Nat) = n % 4
  rw [key, IntKind.wrap_i64]
  omega
theorem in_four (n : Int) (h : 0 ≤ n ∧ n < 4) : n = 0 ∨ n = 1 ∨ n = 2 ∨ n = 3 := by omega
theorem lat_plain (x y z : Int) (hx : 0 ≤ x ∧ x < 4) (hy : 0 ≤ y ∧ y < 4) (hz : 0 ≤ z ∧ z < 4) :
    cbE x y = cbE y x ∧ cbE (cbE x y) z = cbE x (cbE y z) ∧ cbE x x = x ∧ ivE (ivE x) = x ∧ ivE (cbE x y) = cbE (ivE x) (ivE y) := by
  rcases in_four x hx with rfl | rfl | rfl | rfl <;> rcases in_four y hy with rfl | rfl | rfl | rfl <;> rcases in_four z hz with rfl | rfl | rfl | rfl <;> decide

set_option maxHeartbeats 4000000 in
set_option maxRecDepth 100000 in
theorem walk_trendLattice (a b c : Int) (w : World) (wa : (Lit.int .i64 a).wf = true) (wb : (Lit.int .i64 b).wf = true) (wc : (Lit.int .i64 c).wf = true) :
    Calls Try.prog 3 #[.int .i64 a, .int .i64 b, .int .i64 c] w fun e w' => e = .returned (.bool true) ∧ Below w.heap.size w w' := by
  have AW := Lib.hid tawake_any
  obtain ⟨x, hx⟩ : ∃ x, bits BinOp.and IntKind.i64 a 3 = x := ⟨_, rfl⟩
  obtain ⟨y, hy⟩ : ∃ y, bits BinOp.and IntKind.i64 b 3 = y := ⟨_, rfl⟩
  obtain ⟨z, hz⟩ : ∃ z, bits BinOp.and IntKind.i64 c 3 = z := ⟨_, rfl⟩
  obtain ⟨l1, l2, l3, l4, l5⟩ := lat_plain x y z (by rw [← hx, land_3]; omega) (by rw [← hy, land_3]; omega) (by rw [← hz, land_3]; omega)
  have e1 : (cbE x y == cbE y x) = true := by rw [l1]; simp
  have e2 : (cbE (cbE x y) z == cbE x (cbE y z)) = true := by rw [l2]; simp
  have e3 : (cbE x x == x) = true := by rw [l3]; simp
  have e4 : (ivE (ivE x) == x) = true := by rw [l4]; simp
  have e5 : (ivE (cbE x y) == cbE (ivE x) (ivE y)) = true := by rw [l5]; simp
  clear l1 l2 l3 l4 l5
  have n1 : (cbE a b != cbE a b) = false := by simp
  have n2 : (ivE a != ivE a) = false := by simp
  go_enter Try.func3, Try.ntmps3
  go_wp2_with (first
    | (go_at_call 5; refine (tcomb_any _ _ _).mono ?_; rintro e w' ⟨rfl, rfl⟩)
    | (go_at_call 6; refine (rcomb_any _ _ _).mono ?_; rintro e w' ⟨rfl, rfl⟩)
    | (go_at_call 7; refine (tinv_any _ _).mono ?_; rintro e w' ⟨rfl, rfl⟩)
    | (go_at_call 8; refine (rinv_any _ _).mono ?_; rintro e w' ⟨rfl, rfl⟩)
    | (go_at_call 9; refine (AW.out _).mono ?_; rintro e w' ⟨rfl, hb⟩))
  go_ret
  exact ⟨rfl, hb⟩

end Go.Proofs.Ytfoedbfkddoibaa
