/-
  The walk of GrammarDeep. Printed by wip/mkgp.py.
-/
import Derived.Test.YtgcjkfkfdehpcaaGreatGpL
import Derived.Test.YtgcjkfkfdehpcaaGreatAtb
namespace Go.Proofs.YtgcjkfkfdehpcaaGreat
set_option linter.unusedVariables false
set_option linter.unusedSimpArgs false
open Go.ChangeShapes Go.WideShapes Go.ChangeAt Go.RowKit
open Go.Deep (BT)

theorem and_31d (n : Int) : bits .and .i64 n 31 = n % 32 := by
  have h127 : (BitVec.ofInt 64 31).toNat = 2 ^ 5 - 1 := by decide
  have key : (BitVec.ofInt 64 n &&& BitVec.ofInt 64 31).toNat = (n % ((2 ^ 64 : Nat) : Int)).toNat % 2 ^ 5 := by
    rw [BitVec.toNat_and, BitVec.toNat_ofInt, h127, Nat.and_two_pow_sub_one_eq_mod]
  show IntKind.i64.wrap ((BitVec.ofInt 64 n &&& BitVec.ofInt 64 31).toNat : Nat) = n % 32
  rw [key, IntKind.wrap_i64]
  omega
/-- The first text: so many minus signs and parentheses. -/
def dpS : Nat → ByteArray
  | 0 => ⟨#[108, 101, 103, 115]⟩
  | k + 1 => ⟨#[45, 40]⟩ ++ dpS k ++ ⟨#[41]⟩
theorem dp_size (k : Nat) : (dpS k).size = 4 + 3 * k := by
  induction k with
  | zero => rfl
  | succ k ih =>
    show (⟨#[45, 40]⟩ ++ dpS k ++ ⟨#[41]⟩).size = _
    rw [ByteArray.size_append, ByteArray.size_append, ih]
    show 2 + (4 + 3 * k) + 1 = _
    omega
/-- What is answered to it. -/
theorem dp_all : ((List.range 32).all fun k => decide ((Pz.pxT (dpS k)).2.2 = if k < 16 then 0 else 10)) = true := by kernel_rfl
theorem dp_err (k : Nat) (h : k < 32) : (Pz.pxT (dpS k)).2.2 = if k < 16 then 0 else 10 := by
  have := List.all_eq_true.1 dp_all k (List.mem_range.2 h)
  simpa using this
set_option maxHeartbeats 2000000 in
set_option maxRecDepth 100000 in
theorem walk_grammarDeep (a0 : Int) (w : World) (_ : (Lit.int .i64 a0).wf = true) :
    Calls Tryz.prog 5 #[.int .i64 a0] w fun e w' => e = .returned (.bool true) ∧ Below w.heap.size w w' := by
  obtain ⟨k, hk, hk2⟩ : ∃ k : Nat, bits BinOp.and IntKind.i64 a0 31 = (k : Int) ∧ k < 32 := ⟨(a0 % 32).toNat, by rw [and_31d]; omega, by omega⟩
  go_enter Tryz.func5, Tryz.ntmps5
  go_wp2_with fail
  clear hk
  go_loop [4, 6] (fun s i => ∃ j : Nat, s = .string (dpS j) ∧ i = .int .i64 j ∧ j ≤ k) (fun _ i => k - (intOf i).toNat)
  case atStart => exact ⟨0, rfl, rfl, Nat.zero_le _⟩
  case round =>
    obtain ⟨j, rfl, rfl, hj⟩ := hrel
    by_cases hlt : j < k
    · have h1 : (j : Int) < (k : Int) := by omega
      have hsz := dp_size j
      have HS : Hid (⟨#[45, 40]⟩ ++ dpS j ++ ⟨#[41]⟩ = dpS (j + 1)) := rfl
      have hs2 : (dpS j).size ≤ 200 := by omega
      clear hsz
      generalize dpS j = T at *
      go_wp2
      go_round
      case rel => exact ⟨j + 1, by first | exact congrArg Value.string HS.out | (rw [← HS.out]), by go_num, by omega⟩
      case measure => simp [intOf]; omega
    · have h1 : ¬ (j : Int) < (k : Int) := by omega
      obtain rfl : j = k := by omega
      have E0 := Lib.hid (dp_err j hk2)
      have hz0 : (dpS j).size ≤ 9223372036854775807 := by rw [dp_size]; omega
      generalize dpS j = S0 at *
      go_wp2_with fail
      go_loop [5, 7] (fun s i => ∃ (q : Nat) (T : ByteArray), s = .string T ∧ i = .int .i64 q ∧ 1 ≤ q ∧ q ≤ 85 + j ∧ T.size ≤ 7 * q) (fun _ i => 85 + j - (intOf i).toNat)
      case atStart => exact ⟨1, _, rfl, rfl, by omega, by omega, by decide⟩
      case round =>
        obtain ⟨q, T, rfl, rfl, hq1, hq2, hT⟩ := hrel
        by_cases hlt2 : q < 85 + j
        · have h2 : (q : Int) < 85 + (j : Int) := by omega
          go_wp2
          go_round
          case rel =>
            refine ⟨q + 1, _, rfl, by go_num, by omega, by omega, ?_⟩
            rw [ByteArray.size_append]
            show T.size + 7 ≤ _
            omega
          case measure => simp [intOf]; omega
        · have h2 : ¬ (q : Int) < 85 + (j : Int) := by omega
          have hz1 : T.size ≤ 9223372036854775807 := by omega
          go_wp2_with fail
          go_loop [8, 9] (fun s i => ∃ (q : Nat) (M : ByteArray), s = .string M ∧ i = .int .i64 q ∧ 1 ≤ q ∧ q ≤ 180 + j ∧ M.size ≤ 8 * q) (fun _ i => 180 + j - (intOf i).toNat)
          case atStart => exact ⟨1, _, rfl, rfl, by omega, by omega, by decide⟩
          case round =>
            obtain ⟨u, M, rfl, rfl, hu1, hu2, hM⟩ := hrel
            by_cases hlt3 : u < 180 + j
            · have h3 : (u : Int) < 180 + (j : Int) := by omega
              go_wp2
              go_round
              case rel =>
                refine ⟨u + 1, _, rfl, by go_num, by omega, by omega, ?_⟩
                rw [ByteArray.size_append]
                show M.size + 3 ≤ _
                omega
              case measure => simp [intOf]; omega
            · have h3 : ¬ (u : Int) < 180 + (j : Int) := by omega
              have hz2 : (M ++ ⟨#[41]⟩).size ≤ 9223372036854775807 := by
                rw [ByteArray.size_append]
                show M.size + 1 ≤ _
                omega
              have hM2 : M.size ≤ 2000 := by omega
              have BW := Lib.hid (Below.refl w.heap.size w)
              obtain ⟨M2, hM3⟩ : ∃ M2, M ++ ⟨#[41]⟩ = M2 := ⟨_, rfl⟩
              rw [hM3] at hz2
              have P0 := Lib.hid (fun w => pparse_any S0 w hz0)
              have P1 := Lib.hid (fun w => pparse_any T w hz1)
              have P2 := Lib.hid (fun w => pparse_any M2 w hz2)
              have Q1 := Lib.hid (fun w => rparse_any T w hz1)
              have Q2 := Lib.hid (fun w => rparse_any M2 w hz2)
              unfold PxP at P0 P1 P2 Q1 Q2
              generalize Pz.pxT S0 = r0 at *
              generalize Pz.pxT T = r1 at *
              generalize Pz.pxT M2 = r2 at *
              obtain ⟨t0, a0, e0⟩ := r0
              obtain ⟨t1, a1, e1⟩ := r1
              obtain ⟨t2, a2, e2⟩ := r2
              dsimp only at P0 P1 P2 Q1 Q2 E0
              go_wp2_with fail
              refine (P0.out _).mono ?_
              rintro e x0 ⟨c, rfl, -, -, hb⟩
              have BW0 := Lib.hid (BW.out.trans (hb.mono BW.out.size))
              clear hb BW P0
              go_upto_region 18 with (fail)
              have BW := Lib.hid (BW0.out.alloc BW0.out.size (.cells #[.int .i64 c.a.op, .int .i64 c.a.num, .string c.a.name, .slice c.a.ptr (len c.k) c.a.cap] 25))
              generalize x0.alloc (.cells #[.int .i64 c.a.op, .int .i64 c.a.num, .string c.a.name, .slice c.a.ptr (len c.k) c.a.cap] 25) = y0 at *
              clear BW0
              go_wp2_with fail
              refine (P1.out _).mono ?_
              rintro e x1 ⟨c, rfl, -, -, hb⟩
              have BW1 := Lib.hid (BW.out.trans (hb.mono BW.out.size))
              clear hb BW P1
              go_upto_region 19 with (fail)
              have BW := Lib.hid (BW1.out.alloc BW1.out.size (.cells #[.int .i64 c.a.op, .int .i64 c.a.num, .string c.a.name, .slice c.a.ptr (len c.k) c.a.cap] 25))
              generalize x1.alloc (.cells #[.int .i64 c.a.op, .int .i64 c.a.num, .string c.a.name, .slice c.a.ptr (len c.k) c.a.cap] 25) = y1 at *
              clear BW1
              go_wp2_with fail
              refine (P2.out _).mono ?_
              rintro e x2 ⟨c, rfl, -, -, hb⟩
              have BW2 := Lib.hid (BW.out.trans (hb.mono BW.out.size))
              clear hb BW P2
              go_upto_region 20 with (fail)
              have BW := Lib.hid (BW2.out.alloc BW2.out.size (.cells #[.int .i64 c.a.op, .int .i64 c.a.num, .string c.a.name, .slice c.a.ptr (len c.k) c.a.cap] 25))
              generalize x2.alloc (.cells #[.int .i64 c.a.op, .int .i64 c.a.num, .string c.a.name, .slice c.a.ptr (len c.k) c.a.cap] 25) = y2 at *
              clear BW2
              go_wp2_with fail
              refine (Q1.out _).mono ?_
              rintro e x3 ⟨c, rfl, -, -, hb⟩
              have BW3 := Lib.hid (BW.out.trans (hb.mono BW.out.size))
              clear hb BW Q1
              go_upto_region 21 with (fail)
              have BW := Lib.hid (BW3.out.alloc BW3.out.size (.cells #[.int .i64 c.a.op, .int .i64 c.a.num, .string c.a.name, .slice c.a.ptr (len c.k) c.a.cap] 25))
              generalize x3.alloc (.cells #[.int .i64 c.a.op, .int .i64 c.a.num, .string c.a.name, .slice c.a.ptr (len c.k) c.a.cap] 25) = y3 at *
              clear BW3
              go_wp2_with fail
              refine (Q2.out _).mono ?_
              rintro e x4 ⟨c, rfl, -, -, hb⟩
              have BW4 := Lib.hid (BW.out.trans (hb.mono BW.out.size))
              clear hb BW Q2
              go_upto_region 22 with (fail)
              have BW := Lib.hid (BW4.out.alloc BW4.out.size (.cells #[.int .i64 c.a.op, .int .i64 c.a.num, .string c.a.name, .slice c.a.ptr (len c.k) c.a.cap] 25))
              generalize x4.alloc (.cells #[.int .i64 c.a.op, .int .i64 c.a.num, .string c.a.name, .slice c.a.ptr (len c.k) c.a.cap] 25) = y4 at *
              clear BW4
              have hk3 : (j : Int) < 16 ∨ ¬ (j : Int) < 16 := by omega
              by_cases h16 : j < 16
              · have h4 : (j : Int) < 16 := by omega
                obtain rfl : e0 = 0 := by have := E0.out; rw [if_pos h16] at this; exact this
                clear E0 hk3
                go_wp2_with fail
                refine (gawake_any _).mono ?_
                rintro e w6 ⟨rfl, hb⟩
                have B6 := Lib.hid (BW.out.trans (hb.mono BW.out.size))
                clear hb
                go_wp2
                go_ret
                exact ⟨rfl, B6.out⟩
              · have h4 : ¬ (j : Int) < 16 := by omega
                obtain rfl : e0 = 10 := by have := E0.out; rw [if_neg h16] at this; exact this
                clear E0 hk3
                go_wp2_with fail
                refine (gawake_any _).mono ?_
                rintro e w6 ⟨rfl, hb⟩
                have B6 := Lib.hid (BW.out.trans (hb.mono BW.out.size))
                clear hb
                go_wp2
                go_ret
                exact ⟨rfl, B6.out⟩

end Go.Proofs.YtgcjkfkfdehpcaaGreat
