/-
  The contracts of formula's combine and Value.
-/
import Derived.Test.YtinbkhchhlkjgaaFva
namespace Go.Proofs.Ytinbkhchhlkjgaa
set_option linter.unusedVariables false
set_option linter.unusedSimpArgs false
open Go.ChangeShapes Go.WideShapes Go.ChangeAt Go.RowKit
open Go.Deep (BT)

set_option maxHeartbeats 2000000 in
set_option maxRecDepth 100000 in
theorem combine_any (op a b : Int) (w : World) (ha : i64B a) (hb : i64B b) (ho : op = 8 ∨ op = 9 ∨ op = 10 ∨ op = 11 ∨ op = 16 ∨ op = 17 ∨ op = 18 ∨ op = 20 ∨ op = 21 ∨ op = 22) :
    Calls Try.prog 74 #[.int .i64 op, .int .i64 a, .int .i64 b] w fun e w' => e = .returned (.int .i64 (cmbV op a b)) ∧ w = w' := by
  have HA := Lib.hid ha
  have HB := Lib.hid hb
  clear ha hb
  rcases ho with rfl | rfl | rfl | rfl | rfl | rfl | rfl | rfl | rfl | rfl
  · have R : Hid (cmbV 8 a b = addV a b) := rfl
    generalize cmbV 8 a b = R0 at *
    go_enter Try.func74, Try.ntmps74
    go_wp2_with (go_at_call 58; refine (fadd_any a b _ HA.out HB.out).mono ?_; rintro e w' ⟨rfl, rfl⟩)
    go_ret
    exact ⟨ret_int R.out.symm, rfl⟩
  · obtain ⟨nb, hnb⟩ : ∃ nb, IntKind.i64.wrap (-b) = nb := ⟨_, rfl⟩
    have HN : Hid (i64B nb) := by unfold Hid; rw [← hnb]; exact wrap_i64B _
    have R : Hid (cmbV 9 a b = addV a nb) := by unfold Hid; rw [← hnb]; rfl
    generalize cmbV 9 a b = R0 at *
    go_enter Try.func74, Try.ntmps74
    go_wp2_with (go_at_call 58; refine (fadd_any a nb _ HA.out HN.out).mono ?_; rintro e w' ⟨rfl, rfl⟩)
    go_ret
    exact ⟨ret_int R.out.symm, rfl⟩
  · have R : Hid (cmbV 10 a b = mulV a b) := rfl
    generalize cmbV 10 a b = R0 at *
    go_enter Try.func74, Try.ntmps74
    go_wp2_with (go_at_call 63; refine (fmul_any a b _ HA.out HB.out).mono ?_; rintro e w' ⟨rfl, rfl⟩)
    go_ret
    exact ⟨ret_int R.out.symm, rfl⟩
  · have R : Hid (cmbV 11 a b = divV a b) := rfl
    generalize cmbV 11 a b = R0 at *
    go_enter Try.func74, Try.ntmps74
    go_wp2_with (go_at_call 65; refine (fdiv_any a b _ HA.out HB.out).mono ?_; rintro e w' ⟨rfl, rfl⟩)
    go_ret
    exact ⟨ret_int R.out.symm, rfl⟩
  · have R : Hid (cmbV 16 a b = flagI (decide (a < b))) := rfl
    generalize cmbV 16 a b = R0 at *
    go_enter Try.func74, Try.ntmps74
    go_wp2_with (go_at_call 71; refine (truth_any _ _).mono ?_; rintro e w' ⟨rfl, rfl⟩)
    go_ret
    exact ⟨ret_int R.out.symm, rfl⟩
  · have R : Hid (cmbV 17 a b = flagI (decide (a ≤ b))) := rfl
    generalize cmbV 17 a b = R0 at *
    go_enter Try.func74, Try.ntmps74
    go_wp2_with (go_at_call 71; refine (truth_any _ _).mono ?_; rintro e w' ⟨rfl, rfl⟩)
    go_ret
    exact ⟨ret_int R.out.symm, rfl⟩
  · have R : Hid (cmbV 18 a b = flagI (decide (a = b))) := rfl
    generalize cmbV 18 a b = R0 at *
    go_enter Try.func74, Try.ntmps74
    go_wp2_with (go_at_call 71; refine (truth_any _ _).mono ?_; rintro e w' ⟨rfl, rfl⟩)
    go_ret
    exact ⟨ret_int R.out.symm, rfl⟩
  · have R : Hid (cmbV 20 a b = bits .and .i64 a b) := rfl
    generalize cmbV 20 a b = R0 at *
    go_enter Try.func74, Try.ntmps74
    go_wp2_with fail
    go_ret
    exact ⟨ret_int R.out.symm, rfl⟩
  · have R : Hid (cmbV 21 a b = bits .or .i64 a b) := rfl
    generalize cmbV 21 a b = R0 at *
    go_enter Try.func74, Try.ntmps74
    go_wp2_with fail
    go_ret
    exact ⟨ret_int R.out.symm, rfl⟩
  · obtain ⟨na, hna⟩ : ∃ na, IntKind.i64.wrap (1 - a) = na := ⟨_, rfl⟩
    have R : Hid (cmbV 22 a b = bits .or .i64 na b) := by unfold Hid; rw [← hna]; rfl
    generalize cmbV 22 a b = R0 at *
    go_enter Try.func74, Try.ntmps74
    go_wp2_with fail
    go_ret
    exact ⟨ret_int R.out.symm, rfl⟩

end Go.Proofs.Ytinbkhchhlkjgaa
