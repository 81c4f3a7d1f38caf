/-
  The contracts of the calendar's functions, of the program and of the reference.
-/
import Derived.Test.YtfdldadjimcciaaDoorRows
import Derived.Test.YtfdldadjimcciaaDoorCalMath
import Derived.WalkKit
import Derived.ProofKit
import Derived.OpenShut
import Derived.WalkSpells
import Derived.WalkLawsBesides
import Derived.Outline
import Derived.LoopTactic
import Derived.Deep.QuietTactic
import Derived.BigQuiet
import Derived.Lib.Hide
import Derived.Deep.RegionHeld3
import Derived.Deep.RegionWith
import Derived.Deep.DeepMust
import Derived.Deep.DeepFit
namespace Go.Proofs.YtfdldadjimcciaaDoor
set_option linter.unusedVariables false
set_option linter.unusedSimpArgs false
open Go.ChangeShapes Go.WideShapes Go.ChangeAt Go.RowKit


theorem ret_int {k : IntKind} {a b : Int} (h : a = b) : Ending.returned (.int k a) = .returned (.int k b) := by rw [h]
theorem ret_bool {a b : Bool} (h : a = b) : Ending.returned (.bool a) = .returned (.bool b) := by rw [h]
theorem ret_int2 {k j : IntKind} {a b c d : Int} (h : a = b) (h' : c = d) : Ending.returned (.tuple #[.int k a, .int j c]) = .returned (.tuple #[.int k b, .int j d]) := by rw [h, h']

theorem tneg (t : Int) (h : ¬ 0 ≤ t) : (t.tmod 1440 < 0 ∧ t / 1440 = t.tdiv 1440 - 1 ∧ t % 1440 = t.tmod 1440 + 1440 ∧ -1440 < t.tmod 1440 ∧ t.tdiv 1440 ≤ 0 ∧ t ≤ 1440 * t.tdiv 1440) ∨ (¬ t.tmod 1440 < 0 ∧ t / 1440 = t.tdiv 1440 ∧ t % 1440 = t.tmod 1440) := by
  rw [Int.tdiv_eq_ediv, Int.tmod_eq_emod]
  by_cases hd : (1440 : Int) ∣ t
  · rw [if_pos (Or.inr hd), if_pos (Or.inr hd)]; right; omega
  · have hn : ¬ (0 ≤ t ∨ (1440 : Int) ∣ t) := by intro q; rcases q with q | q <;> contradiction
    rw [if_neg hn, if_neg hn]
    left
    have e1 : Int.sign 1440 = 1 := rfl
    have e2 : Int.natAbs 1440 = 1440 := rfl
    rw [e1, e2]
    omega

set_option maxHeartbeats 400000 in
theorem split_prog (t : Int) (w : World) (h : (Lit.int .i64 t).wf = true) :
    Calls Tryd.prog 33 #[.int .i64 t] w fun e w' => e = .returned (.tuple #[.int .i64 (t / 1440), .int .i64 (t % 1440)]) ∧ w = w' := by
  have hb := Go.bounds_i64 h
  by_cases h0 : 0 ≤ t
  · go_enter Tryd.func33, Tryd.ntmps33
    go_wp2
    go_ret2
    exact ⟨rfl, rfl⟩
  · rcases tneg t h0 with ⟨a, b, c, d, f, g⟩ | ⟨a, b, c⟩
    all_goals
      have B := Lib.hid b
      have C := Lib.hid c
      clear b c
      go_enter Tryd.func33, Tryd.ntmps33
      go_wp2
      go_ret2
      exact ⟨ret_int2 B.out.symm C.out.symm, rfl⟩

set_option maxHeartbeats 400000 in
theorem floor_pos (t k : Int) (w : World) (h : (Lit.int .i64 t).wf = true) (hk : 1 ≤ k) (h0 : 0 ≤ t) :
    Calls Tryd.prog 49 #[.int .i64 t, .int .i64 k] w fun e w' => e = .returned (.int .i64 (t / k)) ∧ w = w' := by
  have hb := Go.bounds_i64 h
  have hm := Int.emod_nonneg t (show k ≠ 0 by omega)
  go_enter Tryd.func49, Tryd.ntmps49
  go_wp2
  go_ret
  exact ⟨rfl, rfl⟩

set_option maxHeartbeats 400000 in
theorem floor_day (t : Int) (w : World) (h : (Lit.int .i64 t).wf = true) :
    Calls Tryd.prog 49 #[.int .i64 t, .int .i64 1440] w fun e w' => e = .returned (.int .i64 (t / 1440)) ∧ w = w' := by
  by_cases h0 : 0 ≤ t
  · exact floor_pos t 1440 w h (by omega) h0
  · have hb := Go.bounds_i64 h
    rcases tneg t h0 with ⟨a, b, c, d, f, g⟩ | ⟨a, b, c⟩
    all_goals
      have B := Lib.hid b
      clear b c
      go_enter Tryd.func49, Tryd.ntmps49
      go_wp2
      go_ret
      exact ⟨ret_int B.out.symm, rfl⟩

theorem wsub (t : Int) (h : -9223372036854775808 ≤ t ∧ t ≤ 9223372036854775807) : wrap64 (t - wrap64 (1440 * (t / 1440))) = t % 1440 := by
  unfold wrap64; omega
set_option maxHeartbeats 400000 in
theorem split_ref (t : Int) (w : World) (h : (Lit.int .i64 t).wf = true) :
    Calls Tryd.prog 35 #[.int .i64 t] w fun e w' => e = .returned (.tuple #[.int .i64 (t / 1440), .int .i64 (t % 1440)]) ∧ w = w' := by
  have hb := Go.bounds_i64 h
  go_enter Tryd.func35, Tryd.ntmps35
  go_wp2_with (go_at_call 49; refine (floor_day t _ h).mono ?_; rintro e w' ⟨rfl, rfl⟩)
  go_ret2
  exact ⟨ret_int2 rfl (wsub t hb), rfl⟩

/-! ### the program's leap years, months, dates -/

theorem leapB_t (y : Int) : Cal.leapB y = (y % 4 == 0 && (y % 100 != 0 || y % 400 == 0)) := by
  unfold Cal.leapB Cal.lp
  by_cases a : y % 4 = 0 ∧ (y % 100 ≠ 0 ∨ y % 400 = 0)
  · rw [if_pos a]; obtain ⟨a1, a2⟩ := a; rcases a2 with a2 | a2 <;> simp [a1, a2]
  · rw [if_neg a]
    by_cases b : y % 4 = 0
    · have : y % 100 = 0 := by omega
      have c : y % 400 ≠ 0 := by omega
      simp [b, this, c]
    · simp [b]

set_option maxHeartbeats 400000 in
theorem leap_prog (y : Int) (w : World) (h0 : 1999 ≤ y) (h1 : y ≤ 2100) :
    Calls Tryd.prog 59 #[.int .i64 y] w fun e w' => e = .returned (.bool (Cal.leapB y)) ∧ w = w' := by
  have E := Lib.hid (leapB_t y)
  by_cases a : y % 4 = 0
  · by_cases b : y % 100 = 0
    · have A : (y % 4 == 0) = true := by simp [a]
      have B : (y % 100 != 0) = false := by simp [b]
      clear a b
      go_enter Tryd.func59, Tryd.ntmps59
      go_wp2
      all_goals go_ret
      all_goals exact ⟨ret_bool (by rw [E.out, A, B]; simp [*]), rfl⟩
    · have A : (y % 4 == 0) = true := by simp [a]
      have B : (y % 100 != 0) = true := by simp [b]
      clear a b
      go_enter Tryd.func59, Tryd.ntmps59
      go_wp2
      all_goals go_ret
      all_goals exact ⟨ret_bool (by rw [E.out, A, B]; simp), rfl⟩
  · have A : (y % 4 == 0) = false := by simp [a]
    clear a
    go_enter Tryd.func59, Tryd.ntmps59
    go_wp2
    all_goals go_ret
    all_goals exact ⟨ret_bool (by rw [E.out, A]; simp), rfl⟩

set_option maxHeartbeats 400000 in
theorem leap_ref (y : Int) (w : World) (h0 : 1999 ≤ y) (h1 : y ≤ 2100) :
    Calls Tryd.prog 48 #[.int .i64 y] w fun e w' => e = .returned (.bool (Cal.leapB y)) ∧ w = w' := by
  have E := Lib.hid (leapB_t y)
  by_cases a : y % 4 = 0
  · by_cases b : y % 100 = 0
    · have A : (y % 4 == 0) = true := by simp [a]
      have B : (y % 100 != 0) = false := by simp [b]
      clear a b
      go_enter Tryd.func48, Tryd.ntmps48
      go_wp2
      all_goals go_ret
      all_goals exact ⟨ret_bool (by rw [E.out, A, B]; simp [*]), rfl⟩
    · have A : (y % 4 == 0) = true := by simp [a]
      have B : (y % 100 != 0) = true := by simp [b]
      clear a b
      go_enter Tryd.func48, Tryd.ntmps48
      go_wp2
      all_goals go_ret
      all_goals exact ⟨ret_bool (by rw [E.out, A, B]; simp), rfl⟩
  · have A : (y % 4 == 0) = false := by simp [a]
    have B : (y % 400 == 0) = false := by simp; omega
    clear a
    go_enter Tryd.func48, Tryd.ntmps48
    go_wp2
    all_goals go_ret
    all_goals exact ⟨ret_bool (by rw [E.out, A]; simp), rfl⟩

theorem bcell {W w1 : World} (hb : Below W.heap.size W w1) : (∀ b o, b < W.heap.size → w1.cell? ⟨b, o, none⟩ = W.cell? ⟨b, o, none⟩) ∧ (∀ b o, b < W.heap.size → w1.frozen? ⟨b, o, none⟩ = W.frozen? ⟨b, o, none⟩) :=
  ⟨fun b o h => hb.cell (p := ⟨b, o, none⟩) h, fun b o h => hb.frozen (p := ⟨b, o, none⟩) h⟩

set_option maxHeartbeats 400000 in
theorem ydays (y : Int) (w : World) (h0 : 1999 ≤ y) (h1 : y ≤ 2100) :
    Calls Tryd.prog 47 #[.int .i64 y] w fun e w' => e = .returned (.int .i64 (365 + Cal.lp y)) ∧ w = w' := by
  rcases Cal.lp_cases y with h | h
  all_goals
    first | have hl : Cal.leapB y = false := by (unfold Cal.leapB; rw [h]; rfl)
          | have hl : Cal.leapB y = true := by (unfold Cal.leapB; rw [h]; rfl)
    have H := Lib.hid h
    clear h
    go_enter Tryd.func47, Tryd.ntmps47
    go_wp2_with (go_at_call 59; refine (leap_prog _ _ h0 h1).mono ?_; rintro e w' ⟨rfl, rfl⟩)
    go_ret
    exact ⟨ret_int (by rw [H.out]; rfl), rfl⟩

set_option maxHeartbeats 1000000 in
theorem mdays (y m : Int) (w : World) (h0 : 1999 ≤ y) (h1 : y ≤ 2100) (h2 : 1 ≤ m) (h3 : m ≤ 12) :
    Calls Tryd.prog 44 #[.int .i64 y, .int .i64 m] w fun e w' => e = .returned (.int .i64 (Cal.dim y m)) ∧ Below w.heap.size w w' := by
  have hB : ∀ o, Below w.heap.size w (w.alloc o) := fun o => (Below.refl _ _).alloc (Nat.le_refl _) o
  by_cases hm : m = 2
  · subst hm
    clear h2 h3
    rcases Cal.lp_cases y with h | h
    all_goals
      first | have hl : Cal.leapB y = false := by (unfold Cal.leapB; rw [h]; rfl)
            | have hl : Cal.leapB y = true := by (unfold Cal.leapB; rw [h]; rfl)
      first | have H : Hid (Cal.dim y 2 = 28) := by (unfold Cal.dim; rw [h]; rfl)
            | have H : Hid (Cal.dim y 2 = 29) := by (unfold Cal.dim; rw [h]; rfl)
      clear h
      go_enter Tryd.func44, Tryd.ntmps44
      go_wp2_with (go_at_call 59; refine (leap_prog _ _ h0 h1).mono ?_; rintro e w' ⟨rfl, rfl⟩)
      go_ret
      exact ⟨ret_int (by rw [H.out]), hB _⟩
  · rcases Cal.month_cases m h2 h3 with rfl | rfl | rfl | rfl | rfl | rfl | rfl | rfl | rfl | rfl | rfl | rfl
    all_goals first | exact absurd rfl hm | skip
    all_goals
      clear hm h2 h3
      go_enter Tryd.func44, Tryd.ntmps44
      go_wp2
      go_ret
      exact ⟨ret_int rfl, hB _⟩

end Go.Proofs.YtfdldadjimcciaaDoor
