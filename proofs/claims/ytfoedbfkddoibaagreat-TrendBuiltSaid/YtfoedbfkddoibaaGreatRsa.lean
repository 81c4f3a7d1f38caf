/-
  The contracts of the reference's arithmetic on values: clamp, SatAdd, SatMul, SatDiv, InBand, flag, attr.
-/
import Derived.Test.YtfoedbfkddoibaaGreatGi
namespace Go.Proofs.YtfoedbfkddoibaaGreat
set_option linter.unusedVariables false
set_option linter.unusedSimpArgs false
open Go.ChangeShapes Go.WideShapes Go.ChangeAt Go.RowKit

theorem tneg (t : Int) (h : ¬ 0 ≤ t) : (t.tmod 1440 < 0 ∧ t / 1440 = t.tdiv 1440 - 1 ∧ t % 1440 = t.tmod 1440 + 1440 ∧ -1440 < t.tmod 1440 ∧ t.tdiv 1440 ≤ 0 ∧ t ≤ 1440 * t.tdiv 1440) ∨ (¬ t.tmod 1440 < 0 ∧ t / 1440 = t.tdiv 1440 ∧ t % 1440 = t.tmod 1440) := by
  rw [Int.tdiv_eq_ediv, Int.tmod_eq_emod]
  by_cases hd : (1440 : Int) ∣ t
  · rw [if_pos (Or.inr hd), if_pos (Or.inr hd)]; right; omega
  · have hn : ¬ (0 ≤ t ∨ (1440 : Int) ∣ t) := by intro q; rcases q with q | q <;> contradiction
    rw [if_neg hn, if_neg hn]
    left
    have e1 : Int.sign 1440 = 1 := rfl
    have e2 : Int.natAbs 1440 = 1440 := rfl
    rw [e1, e2]
    omega

set_option maxHeartbeats 400000 in
theorem floor_pos (t k : Int) (w : World) (h : (Lit.int .i64 t).wf = true) (hk : 1 ≤ k) (h0 : 0 ≤ t) :
    Calls Tryz.prog 185 #[.int .i64 t, .int .i64 k] w fun e w' => e = .returned (.int .i64 (t / k)) ∧ w = w' := by
  have hb := Go.bounds_i64 h
  have hm := Int.emod_nonneg t (show k ≠ 0 by omega)
  go_enter Tryz.func185, Tryz.ntmps185
  go_wp2
  go_ret
  exact ⟨rfl, rfl⟩

set_option maxHeartbeats 400000 in
theorem floor_day (t : Int) (w : World) (h : (Lit.int .i64 t).wf = true) :
    Calls Tryz.prog 185 #[.int .i64 t, .int .i64 1440] w fun e w' => e = .returned (.int .i64 (t / 1440)) ∧ w = w' := by
  by_cases h0 : 0 ≤ t
  · exact floor_pos t 1440 w h (by omega) h0
  · have hb := Go.bounds_i64 h
    rcases tneg t h0 with ⟨a, b, c, d, f, g⟩ | ⟨a, b, c⟩
    all_goals
      have B := Lib.hid b
      clear b c
      go_enter Tryz.func185, Tryz.ntmps185
      go_wp2
      go_ret
      exact ⟨ret_int B.out.symm, rfl⟩

theorem wsub (t : Int) (h : -9223372036854775808 ≤ t ∧ t ≤ 9223372036854775807) : wrap64 (t - wrap64 (1440 * (t / 1440))) = t % 1440 := by
  unfold wrap64; omega
set_option maxHeartbeats 400000 in
theorem split_ref (t : Int) (w : World) (h : (Lit.int .i64 t).wf = true) :
    Calls Tryz.prog 169 #[.int .i64 t] w fun e w' => e = .returned (.tuple #[.int .i64 (t / 1440), .int .i64 (t % 1440)]) ∧ w = w' := by
  have hb := Go.bounds_i64 h
  go_enter Tryz.func169, Tryz.ntmps169
  go_wp2_with (go_at_call 185; refine (floor_day t _ h).mono ?_; rintro e w' ⟨rfl, rfl⟩)
  go_ret2
  exact ⟨ret_int2 rfl (wsub t hb), rfl⟩

theorem rband5_any (c f t : Int) (w : World) : Calls Tryz.prog 168 #[.int .i64 c, .int .i64 f, .int .i64 t] w fun e w' => e = .returned (.bool (bandB c f t)) ∧ w = w' := by
  go_enter Tryz.func168, Tryz.ntmps168
  by_cases h : f ≤ t
  · by_cases h1 : f ≤ c
    · by_cases h2 : c < t
      · go_wp2
        go_ret
        exact ⟨ret_bool (by unfold bandB; simp [h, h1, h2]), rfl⟩
      · go_wp2
        go_ret
        exact ⟨ret_bool (by unfold bandB; simp [h, h1, h2]), rfl⟩
    · go_wp2
      go_ret
      exact ⟨ret_bool (by unfold bandB; rw [if_pos h, decide_eq_false]; intro q; omega), rfl⟩
  · by_cases h1 : f ≤ c
    · go_wp2
      go_ret
      exact ⟨ret_bool (by unfold bandB; simp [h, h1]), rfl⟩
    · by_cases h2 : c < t
      · go_wp2
        go_ret
        exact ⟨ret_bool (by unfold bandB; simp [h, h1, h2]), rfl⟩
      · go_wp2
        go_ret
        exact ⟨ret_bool (by unfold bandB; simp [h, h1, h2]), rfl⟩
theorem rband_any (c f t : Int) (w : World) : Calls Tryz.prog 134 #[.int .i64 c, .int .i64 f, .int .i64 t] w fun e w' => e = .returned (.bool (bandB c f t)) ∧ w = w' := by
  go_enter Tryz.func134, Tryz.ntmps134
  go_wp2_with (go_at_call 168; refine (rband5_any c f t _).mono ?_; rintro e w' ⟨rfl, rfl⟩)
  go_ret
  exact ⟨rfl, rfl⟩

theorem rflag_any (b : Bool) (w : World) : Calls Tryz.prog 133 #[.bool b] w fun e w' => e = .returned (.int .i64 (flagI b)) ∧ w = w' := by
  cases b
  · go_enter Tryz.func133, Tryz.ntmps133
    go_wp2
    go_ret
    exact ⟨rfl, rfl⟩
  · go_enter Tryz.func133, Tryz.ntmps133
    go_wp2
    go_ret
    exact ⟨rfl, rfl⟩
theorem rclamp_any (n : Int) (w : World) : Calls Tryz.prog 166 #[.int .i64 n] w fun e w' => e = .returned (.int .i64 (clampI n)) ∧ w = w' := by
  go_enter Tryz.func166, Tryz.ntmps166
  go_wp2
  all_goals (go_ret; exact ⟨ret_int (by unfold clampI; omega), rfl⟩)
set_option maxHeartbeats 1000000 in
theorem rlim_any (k n : Int) (w : World) (hn : i64B n) : Calls Tryz.prog 136 #[.int .i64 k, .int .i64 n] w fun e w' => e = .returned (.int .i64 (limV k n)) ∧ w = w' := by
  obtain ⟨R, hR⟩ : ∃ R, R = limV k n := ⟨_, rfl⟩
  rw [← hR]
  have HR : Hid (R = if k = 3 then n % 1440 else if k = 4 then flagI (decide (n ≠ 0)) else clampI n) := hR
  have hwf : (Lit.int .i64 n).wf = true := WalkArith.wf_i64 (by unfold i64B at hn; omega)
  clear hR
  go_enter Tryz.func136, Tryz.ntmps136
  by_cases k3 : k = 3
  · have c3 : (k == 3) = true := by simp [k3]
    have RQ : Hid (R = n % 1440) := by unfold Hid; rw [HR.out, if_pos k3]
    clear k3
    go_wp2_with (go_at_call 169; refine (split_ref n _ hwf).mono ?_; rintro e w' ⟨rfl, rfl⟩)
    go_ret
    exact ⟨ret_int (by rw [RQ.out]), rfl⟩
  · have c3 : (k == 3) = false := by simp [k3]
    by_cases k4 : k = 4
    · have c4 : (k == 4) = true := by simp [k4]
      have RQ : Hid (R = flagI (decide (n ≠ 0))) := by unfold Hid; rw [HR.out, if_neg k3, if_pos k4]
      clear k3 k4
      by_cases n0 : n = 0
      · have c5 : (n != 0) = false := by simp [n0]
        have RZ : Hid (R = flagI false) := by unfold Hid; rw [RQ.out]; simp [n0]
        clear n0
        go_wp2_with (go_at_call 133; refine (rflag_any _ _).mono ?_; rintro e w' ⟨rfl, rfl⟩)
        go_ret
        exact ⟨ret_int (by rw [RZ.out]), rfl⟩
      · have c5 : (n != 0) = true := by simp [n0]
        have RZ : Hid (R = flagI true) := by unfold Hid; rw [RQ.out]; simp [n0]
        clear n0
        go_wp2_with (go_at_call 133; refine (rflag_any _ _).mono ?_; rintro e w' ⟨rfl, rfl⟩)
        go_ret
        exact ⟨ret_int (by rw [RZ.out]), rfl⟩
    · have c4 : (k == 4) = false := by simp [k4]
      have RQ : Hid (R = clampI n) := by unfold Hid; rw [HR.out, if_neg k3, if_neg k4]
      clear k3 k4
      go_wp2_with (go_at_call 166; refine (rclamp_any _ _).mono ?_; rintro e w' ⟨rfl, rfl⟩)
      go_ret
      exact ⟨ret_int (by rw [RQ.out]), rfl⟩

set_option maxHeartbeats 1000000 in
theorem radd_any (a b : Int) (w : World) (ha : i64B a) (hb : i64B b) : Calls Tryz.prog 130 #[.int .i64 a, .int .i64 b] w fun e w' => e = .returned (.int .i64 (addV a b)) ∧ w = w' := by
  obtain ⟨s, hs⟩ : ∃ s, IntKind.i64.wrap (a + b) = s := ⟨_, rfl⟩
  have hsv : (s = a + b ∧ i64B (a + b)) ∨ (9223372036854775807 < a + b ∧ s = a + b - 18446744073709551616) ∨ (a + b < -9223372036854775808 ∧ s = a + b + 18446744073709551616) := by
    rw [← hs, IntKind.wrap_i64]
    unfold i64B at *
    omega
  have HS := Lib.hid hsv
  have HA := Lib.hid ha
  have HB := Lib.hid hb
  obtain ⟨R, hR⟩ : ∃ R, R = addV a b := ⟨_, rfl⟩
  rw [← hR]
  have HR := Lib.hid hR
  clear hsv ha hb hR
  go_enter Tryz.func130, Tryz.ntmps130
  by_cases h1 : 0 < a ∧ 0 < b ∧ s < 0
  · obtain ⟨q1, q2, q3⟩ := h1
    have RQ : Hid (R = 1099511627776) := by
      have h1 := HS.out; have h2 := HA.out; have h3 := HB.out
      unfold Hid; rw [HR.out]; unfold addV clampI; unfold i64B at *; omega
    go_wp2
    go_ret
    exact ⟨ret_int RQ.out.symm, rfl⟩
  · by_cases h2 : a < 0 ∧ b < 0 ∧ 0 ≤ s
    · obtain ⟨q1, q2, q3⟩ := h2
      have RQ : Hid (R = -1099511627776) := by
        have h1 := HS.out; have h2 := HA.out; have h3 := HB.out
        unfold Hid; rw [HR.out]; unfold addV clampI; unfold i64B at *; omega
      have q4 : ¬ 0 < a := by omega
      clear h1
      go_wp2
      go_ret
      exact ⟨ret_int RQ.out.symm, rfl⟩
    · have RQ : Hid (R = clampI s) := by
        have h1 := HS.out; have h2 := HA.out; have h3 := HB.out
        unfold Hid; rw [HR.out]; unfold addV clampI; unfold i64B at *; omega
      have H1 := Lib.hid h1
      have H2 := Lib.hid h2
      clear h1 h2
      by_cases k1 : 0 < a
      · by_cases k2 : 0 < b
        · have k3 : ¬ s < 0 := fun q => H1.out ⟨k1, k2, q⟩
          have k4 : ¬ a < 0 := by omega
          go_wp2_with (go_at_call 166; refine (rclamp_any _ _).mono ?_; rintro e w' ⟨rfl, rfl⟩)
          go_ret
          exact ⟨ret_int RQ.out.symm, rfl⟩
        · have k4 : ¬ a < 0 := by omega
          go_wp2_with (go_at_call 166; refine (rclamp_any _ _).mono ?_; rintro e w' ⟨rfl, rfl⟩)
          go_ret
          exact ⟨ret_int RQ.out.symm, rfl⟩
      · by_cases k4 : a < 0
        · by_cases k2 : b < 0
          · have k3 : ¬ 0 ≤ s := fun q => H2.out ⟨k4, k2, q⟩
            go_wp2_with (go_at_call 166; refine (rclamp_any _ _).mono ?_; rintro e w' ⟨rfl, rfl⟩)
            go_ret
            exact ⟨ret_int RQ.out.symm, rfl⟩
          · go_wp2_with (go_at_call 166; refine (rclamp_any _ _).mono ?_; rintro e w' ⟨rfl, rfl⟩)
            go_ret
            exact ⟨ret_int RQ.out.symm, rfl⟩
        · go_wp2_with (go_at_call 166; refine (rclamp_any _ _).mono ?_; rintro e w' ⟨rfl, rfl⟩)
          go_ret
          exact ⟨ret_int RQ.out.symm, rfl⟩

theorem rsize_any (a : Int) (w : World) (ha : i64B a) : Calls Tryz.prog 167 #[.int .i64 a] w fun e w' => e = .returned (.int .u64 (a.natAbs : Int)) ∧ w = w' := by
  have HA := Lib.hid ha
  clear ha
  go_enter Tryz.func167, Tryz.ntmps167
  by_cases h : a < 0
  · go_wp2
    go_ret
    refine ⟨ret_int ?_, rfl⟩
    have := HA.out
    unfold i64B at this
    simp only [IntKind.wrap, IntKind.bits, IntKind.signed]
    first | omega | (simp; omega)
  · go_wp2
    go_ret
    refine ⟨ret_int ?_, rfl⟩
    have := HA.out
    unfold i64B at this
    simp only [IntKind.wrap, IntKind.bits, IntKind.signed]
    first | omega | (simp; omega)

theorem rm_le (x y : Nat) (hy : y ≠ 0) (h : (x : Int) ≤ 1099511627776 / (y : Int)) : x * y ≤ 1099511627776 ∧ wrap64 (IntKind.u64.wrap ((x : Int) * (y : Int))) = ((x * y : Nat) : Int) ∧ wrap64 (-((x * y : Nat) : Int)) = -((x * y : Nat) : Int) := by
  have h1 : x ≤ 1099511627776 / y := by
    have e : ((1099511627776 / y : Nat) : Int) = 1099511627776 / (y : Int) := by simp
    omega
  have h2 : x * y ≤ 1099511627776 := (Nat.le_div_iff_mul_le (by omega)).1 h1
  have e2 : (x : Int) * (y : Int) = ((x * y : Nat) : Int) := by simp
  rw [e2]
  generalize x * y = p at *
  refine ⟨h2, ?_, by unfold wrap64; omega⟩
  have e3 : IntKind.u64.wrap (p : Int) = p := by simp only [IntKind.wrap, IntKind.bits, IntKind.signed]; first | omega | (simp; omega)
  rw [e3]
  unfold wrap64
  omega
theorem rm_gt (x y : Nat) (hy : y ≠ 0) (h : 1099511627776 / (y : Int) < (x : Int)) : 1099511627776 < x * y := by
  have h1 : 1099511627776 / y < x := by
    have e : ((1099511627776 / y : Nat) : Int) = 1099511627776 / (y : Int) := by simp
    omega
  exact (Nat.div_lt_iff_lt_mul (by omega)).1 h1
set_option maxHeartbeats 4000000 in
theorem rmul_any (a b : Int) (w : World) (ha : i64B a) (hb : i64B b) : Calls Tryz.prog 131 #[.int .i64 a, .int .i64 b] w fun e w' => e = .returned (.int .i64 (mulV a b)) ∧ w = w' := by
  have HA := Lib.hid ha
  have HB := Lib.hid hb
  obtain ⟨R, hR⟩ : ∃ R, R = mulV a b := ⟨_, rfl⟩
  rw [← hR]
  have HR : Hid (R = clampI (a * b)) := hR
  clear ha hb hR
  have MC := Lib.hid (mul_cases a b)
  have hA : a.natAbs ≤ 9223372036854775808 := by have := HA.out; unfold i64B at this; omega
  have hB : b.natAbs ≤ 9223372036854775808 := by have := HB.out; unfold i64B at this; omega
  go_enter Tryz.func131, Tryz.ntmps131
  by_cases a0 : a = 0
  · have c0 : (a == 0) = true := by simp [a0]
    have RQ : Hid (R = 0) := by unfold Hid; rw [HR.out, a0, Int.zero_mul]; rfl
    clear a0
    go_wp2
    go_ret
    exact ⟨ret_int (by rw [RQ.out]), rfl⟩
  · have c0 : (a == 0) = false := by simp [a0]
    by_cases b0 : b = 0
    · have c1 : (b == 0) = true := by simp [b0]
      have RQ : Hid (R = 0) := by unfold Hid; rw [HR.out, b0, Int.mul_zero]; rfl
      clear a0 b0
      go_wp2
      go_ret
      exact ⟨ret_int (by rw [RQ.out]), rfl⟩
    · have c1 : (b == 0) = false := by simp [b0]
      have hy : Hid (b.natAbs ≠ 0) := by unfold Hid; omega
      by_cases hq : (a.natAbs : Int) ≤ 1099511627776 / (b.natAbs : Int)
      · have Q := Lib.hid (rm_le _ _ hy.out hq)
        by_cases sa : a < 0
        · by_cases sb : b < 0
          · have RQ : Hid (R = ((a.natAbs * b.natAbs : Nat) : Int)) := by
              have h1 := Q.out.1
              unfold Hid; rw [HR.out, MC.out.1 ⟨sa, sb⟩]
              generalize a.natAbs * b.natAbs = p at *
              unfold clampI; omega
            go_wp2_with (go_at_call 167; refine (rsize_any _ _ (by first | exact HA.out | exact HB.out)).mono ?_; rintro e w' ⟨rfl, rfl⟩)
            all_goals (go_ret; first | (exfalso; rename_i hh; simp at hh; omega) | exact ⟨ret_int (by rw [RQ.out, Q.out.2.1]), rfl⟩)
          · have RQ : Hid (R = -((a.natAbs * b.natAbs : Nat) : Int)) := by
              have h1 := Q.out.1
              unfold Hid; rw [HR.out, MC.out.2.2.1 ⟨sa, sb⟩]
              generalize a.natAbs * b.natAbs = p at *
              unfold clampI; omega
            go_wp2_with (go_at_call 167; refine (rsize_any _ _ (by first | exact HA.out | exact HB.out)).mono ?_; rintro e w' ⟨rfl, rfl⟩)
            all_goals (go_ret; first | (exfalso; rename_i hh; simp at hh; omega) | exact ⟨ret_int (by rw [RQ.out, Q.out.2.1, Q.out.2.2]), rfl⟩)
        · by_cases sb : b < 0
          · have RQ : Hid (R = -((a.natAbs * b.natAbs : Nat) : Int)) := by
              have h1 := Q.out.1
              unfold Hid; rw [HR.out, MC.out.2.2.2 ⟨sa, sb⟩]
              generalize a.natAbs * b.natAbs = p at *
              unfold clampI; omega
            go_wp2_with (go_at_call 167; refine (rsize_any _ _ (by first | exact HA.out | exact HB.out)).mono ?_; rintro e w' ⟨rfl, rfl⟩)
            all_goals (go_ret; first | (exfalso; rename_i hh; simp at hh; omega) | exact ⟨ret_int (by rw [RQ.out, Q.out.2.1, Q.out.2.2]), rfl⟩)
          · have RQ : Hid (R = ((a.natAbs * b.natAbs : Nat) : Int)) := by
              have h1 := Q.out.1
              unfold Hid; rw [HR.out, MC.out.2.1 ⟨sa, sb⟩]
              generalize a.natAbs * b.natAbs = p at *
              unfold clampI; omega
            go_wp2_with (go_at_call 167; refine (rsize_any _ _ (by first | exact HA.out | exact HB.out)).mono ?_; rintro e w' ⟨rfl, rfl⟩)
            all_goals (go_ret; first | (exfalso; rename_i hh; simp at hh; omega) | exact ⟨ret_int (by rw [RQ.out, Q.out.2.1]), rfl⟩)
      · have Q := Lib.hid (rm_gt _ _ hy.out (Int.not_le.1 hq))
        by_cases sa : a < 0
        · by_cases sb : b < 0
          · have RQ : Hid (R = 1099511627776) := by
              have h1 := Q.out
              unfold Hid; rw [HR.out, MC.out.1 ⟨sa, sb⟩]
              generalize a.natAbs * b.natAbs = p at *
              unfold clampI; omega
            go_wp2_with (go_at_call 167; refine (rsize_any _ _ (by first | exact HA.out | exact HB.out)).mono ?_; rintro e w' ⟨rfl, rfl⟩)
            all_goals (go_ret; first | (exfalso; rename_i hh; simp at hh; omega) | exact ⟨ret_int (by rw [RQ.out]), rfl⟩)
          · have RQ : Hid (R = -1099511627776) := by
              have h1 := Q.out
              unfold Hid; rw [HR.out, MC.out.2.2.1 ⟨sa, sb⟩]
              generalize a.natAbs * b.natAbs = p at *
              unfold clampI; omega
            go_wp2_with (go_at_call 167; refine (rsize_any _ _ (by first | exact HA.out | exact HB.out)).mono ?_; rintro e w' ⟨rfl, rfl⟩)
            all_goals (go_ret; first | (exfalso; rename_i hh; simp at hh; omega) | exact ⟨ret_int (by rw [RQ.out]), rfl⟩)
        · by_cases sb : b < 0
          · have RQ : Hid (R = -1099511627776) := by
              have h1 := Q.out
              unfold Hid; rw [HR.out, MC.out.2.2.2 ⟨sa, sb⟩]
              generalize a.natAbs * b.natAbs = p at *
              unfold clampI; omega
            go_wp2_with (go_at_call 167; refine (rsize_any _ _ (by first | exact HA.out | exact HB.out)).mono ?_; rintro e w' ⟨rfl, rfl⟩)
            all_goals (go_ret; first | (exfalso; rename_i hh; simp at hh; omega) | exact ⟨ret_int (by rw [RQ.out]), rfl⟩)
          · have RQ : Hid (R = 1099511627776) := by
              have h1 := Q.out
              unfold Hid; rw [HR.out, MC.out.2.1 ⟨sa, sb⟩]
              generalize a.natAbs * b.natAbs = p at *
              unfold clampI; omega
            go_wp2_with (go_at_call 167; refine (rsize_any _ _ (by first | exact HA.out | exact HB.out)).mono ?_; rintro e w' ⟨rfl, rfl⟩)
            all_goals (go_ret; first | (exfalso; rename_i hh; simp at hh; omega) | exact ⟨ret_int (by rw [RQ.out]), rfl⟩)

/-- The quotient, rounded down, by the absolute values. -/
theorem fdiv_abs (a b : Int) (hb : b ≠ 0) : (((a < 0 ∧ b < 0) ∨ (¬ a < 0 ∧ ¬ b < 0)) → a.fdiv b = ((a.natAbs / b.natAbs : Nat) : Int)) ∧ (((a < 0 ∧ ¬ b < 0) ∨ (¬ a < 0 ∧ b < 0)) → a.fdiv b = if a.natAbs % b.natAbs = 0 then -((a.natAbs / b.natAbs : Nat) : Int) else -((a.natAbs / b.natAbs + 1 : Nat) : Int)) := by
  have hy : b.natAbs ≠ 0 := by omega
  have e0 : ((a.natAbs / b.natAbs : Nat) : Int) = (a.natAbs : Int) / (b.natAbs : Int) := by simp
  have key : (-(a.natAbs : Int)) / (b.natAbs : Int) = if a.natAbs % b.natAbs = 0 then -((a.natAbs / b.natAbs : Nat) : Int) else -((a.natAbs / b.natAbs + 1 : Nat) : Int) := by
    rw [Int.neg_ediv, ← e0]
    have hs : ((b.natAbs : Nat) : Int).sign = 1 := Int.sign_eq_one_of_pos (by omega)
    by_cases q : a.natAbs % b.natAbs = 0
    · rw [if_pos q, if_pos (Int.natCast_dvd_natCast.2 (Nat.dvd_of_mod_eq_zero q))]; omega
    · rw [if_neg q, if_neg (fun h => q (Nat.mod_eq_zero_of_dvd (Int.natCast_dvd_natCast.1 h))), hs]; omega
  have hn : ∀ x y : Int, x.fdiv y = (-x).fdiv (-y) := fun x y => (Int.neg_fdiv_neg x y).symm
  refine ⟨fun h => ?_, fun h => ?_⟩
  · rcases h with ⟨h1, h2⟩ | ⟨h1, h2⟩
    · rw [hn, Int.fdiv_eq_ediv_of_nonneg _ (by omega), e0, show (a.natAbs : Int) = -a by omega, show (b.natAbs : Int) = -b by omega]
    · rw [Int.fdiv_eq_ediv_of_nonneg _ (by omega), e0, show (a.natAbs : Int) = a by omega, show (b.natAbs : Int) = b by omega]
  · rw [← key]
    rcases h with ⟨h1, h2⟩ | ⟨h1, h2⟩
    · rw [Int.fdiv_eq_ediv_of_nonneg _ (by omega), show -(a.natAbs : Int) = a by omega, show (b.natAbs : Int) = b by omega]
    · rw [hn, Int.fdiv_eq_ediv_of_nonneg _ (by omega), show -(a.natAbs : Int) = -a by omega, show (b.natAbs : Int) = -b by omega]
set_option maxHeartbeats 4000000 in
theorem rdiv_any (a b : Int) (w : World) (ha : i64B a) (hb : i64B b) : Calls Tryz.prog 132 #[.int .i64 a, .int .i64 b] w fun e w' => e = .returned (.int .i64 (divV a b)) ∧ w = w' := by
  have HA := Lib.hid ha
  have HB := Lib.hid hb
  obtain ⟨R, hR⟩ : ∃ R, R = divV a b := ⟨_, rfl⟩
  rw [← hR]
  have HR : Hid (R = if b = 0 then 0 else clampI (a.fdiv b)) := hR
  clear ha hb hR
  have hA : a.natAbs ≤ 9223372036854775808 := by have := HA.out; unfold i64B at this; omega
  have hB : b.natAbs ≤ 9223372036854775808 := by have := HB.out; unfold i64B at this; omega
  go_enter Tryz.func132, Tryz.ntmps132
  by_cases b0 : b = 0
  · have c1 : (b == 0) = true := by simp [b0]
    have RQ : Hid (R = 0) := by unfold Hid; rw [HR.out, if_pos b0]
    clear b0
    go_wp2
    go_ret
    exact ⟨ret_int (by rw [RQ.out]), rfl⟩
  · have c1 : (b == 0) = false := by simp [b0]
    have FD := Lib.hid (fdiv_abs a b b0)
    have RQ : Hid (R = clampI (a.fdiv b)) := by unfold Hid; rw [HR.out, if_neg b0]
    have hy : ¬ (b.natAbs : Int) = 0 := by omega
    obtain ⟨q, hq⟩ : ∃ q : Nat, a.natAbs / b.natAbs = q := ⟨_, rfl⟩
    obtain ⟨m, hm⟩ : ∃ m : Nat, a.natAbs % b.natAbs = m := ⟨_, rfl⟩
    have hqb : q ≤ 9223372036854775808 := by rw [← hq]; exact Nat.le_trans (Nat.div_le_self _ _) hA
    have eq1 : (a.natAbs : Int) / (b.natAbs : Int) = (q : Int) := by rw [← hq]; simp
    have em1 : (a.natAbs : Int) % (b.natAbs : Int) = (m : Int) := by rw [← hm]; simp
    rw [hq, hm] at FD
    by_cases sa : a < 0
    · by_cases sb : b < 0
      · have RZ : Hid (R = clampI q) := by unfold Hid; rw [RQ.out, FD.out.1 (.inl ⟨sa, sb⟩)]
        go_wp2_with (go_at_call 167; refine (rsize_any _ _ (by first | exact HA.out | exact HB.out)).mono ?_; rintro e w' ⟨rfl, rfl⟩)
        all_goals (go_ret; first | (exfalso; rename_i hh; simp at hh; omega) | (refine ⟨ret_int ?_, rfl⟩; rw [RZ.out]; unfold clampI; omega))
      · by_cases m0 : m = 0
        · have RZ : Hid (R = clampI (-(q : Int))) := by unfold Hid; rw [RQ.out, FD.out.2 (.inl ⟨sa, sb⟩), if_pos m0]
          have m1 : ¬ 0 < m := by omega
          go_wp2_with (go_at_call 167; refine (rsize_any _ _ (by first | exact HA.out | exact HB.out)).mono ?_; rintro e w' ⟨rfl, rfl⟩)
          all_goals (go_ret; first | (exfalso; rename_i hh; simp at hh; omega) | (refine ⟨ret_int ?_, rfl⟩; rw [RZ.out]; unfold clampI; omega))
        · have RZ : Hid (R = clampI (-((q + 1 : Nat) : Int))) := by unfold Hid; rw [RQ.out, FD.out.2 (.inl ⟨sa, sb⟩), if_neg m0]
          have m1 : 0 < m := by omega
          go_wp2_with (go_at_call 167; refine (rsize_any _ _ (by first | exact HA.out | exact HB.out)).mono ?_; rintro e w' ⟨rfl, rfl⟩)
          all_goals (go_ret; first | (exfalso; rename_i hh; simp at hh; omega) | (refine ⟨ret_int ?_, rfl⟩; rw [RZ.out]; unfold clampI; omega))
    · by_cases sb : b < 0
      · by_cases m0 : m = 0
        · have RZ : Hid (R = clampI (-(q : Int))) := by unfold Hid; rw [RQ.out, FD.out.2 (.inr ⟨sa, sb⟩), if_pos m0]
          have m1 : ¬ 0 < m := by omega
          go_wp2_with (go_at_call 167; refine (rsize_any _ _ (by first | exact HA.out | exact HB.out)).mono ?_; rintro e w' ⟨rfl, rfl⟩)
          all_goals (go_ret; first | (exfalso; rename_i hh; simp at hh; omega) | (refine ⟨ret_int ?_, rfl⟩; rw [RZ.out]; unfold clampI; omega))
        · have RZ : Hid (R = clampI (-((q + 1 : Nat) : Int))) := by unfold Hid; rw [RQ.out, FD.out.2 (.inr ⟨sa, sb⟩), if_neg m0]
          have m1 : 0 < m := by omega
          go_wp2_with (go_at_call 167; refine (rsize_any _ _ (by first | exact HA.out | exact HB.out)).mono ?_; rintro e w' ⟨rfl, rfl⟩)
          all_goals (go_ret; first | (exfalso; rename_i hh; simp at hh; omega) | (refine ⟨ret_int ?_, rfl⟩; rw [RZ.out]; unfold clampI; omega))
      · have RZ : Hid (R = clampI q) := by unfold Hid; rw [RQ.out, FD.out.1 (.inr ⟨sa, sb⟩)]
        go_wp2_with (go_at_call 167; refine (rsize_any _ _ (by first | exact HA.out | exact HB.out)).mono ?_; rintro e w' ⟨rfl, rfl⟩)
        all_goals (go_ret; first | (exfalso; rename_i hh; simp at hh; omega) | (exfalso; rename_i hh hk; simp at hh; omega) | (exfalso; rename_i hh hk hl; simp at hh; omega) | (exfalso; rename_i hh hk hl hn; simp at hh; omega) | (refine ⟨ret_int ?_, rfl⟩; rw [RZ.out]; unfold clampI; omega))

end Go.Proofs.YtfoedbfkddoibaaGreat
