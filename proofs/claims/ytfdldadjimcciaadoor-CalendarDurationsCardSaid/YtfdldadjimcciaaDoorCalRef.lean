/-
  The contracts of the reference's dates.
-/
import Derived.Test.YtfdldadjimcciaaDoorCalWalks
namespace Go.Proofs.YtfdldadjimcciaaDoor
set_option linter.unusedVariables false
set_option linter.unusedSimpArgs false
open Go.ChangeShapes Go.WideShapes Go.ChangeAt Go.RowKit

set_option maxHeartbeats 1000000 in
theorem dim_ref_no (y m : Int) (w : World) (h : ¬ (1999 ≤ y ∧ y ≤ 2100 ∧ 1 ≤ m ∧ m ≤ 12)) :
    Calls Tryd.prog 46 #[.int .i64 y, .int .i64 m] w fun e w' => e = .returned (.tuple #[.int .i64 0, .int .i64 5]) ∧ w = w' := by
  go_enter Tryd.func46, Tryd.ntmps46
  by_cases a : 1999 ≤ y
  · by_cases b : y ≤ 2100
    · by_cases c : 1 ≤ m
      · have f : ¬ m ≤ 12 := fun f => h ⟨a, b, c, f⟩
        clear h
        go_wp2
        go_ret2
        exact ⟨rfl, rfl⟩
      all_goals
        clear h
        go_wp2
        go_ret2
        exact ⟨rfl, rfl⟩
    all_goals
      clear h
      go_wp2
      go_ret2
      exact ⟨rfl, rfl⟩
  all_goals
    clear h
    go_wp2
    go_ret2
    exact ⟨rfl, rfl⟩

set_option maxHeartbeats 1000000 in
theorem dim_ref (y m : Int) (w : World) (h0 : 1999 ≤ y) (h1 : y ≤ 2100) (h2 : 1 ≤ m) (h3 : m ≤ 12) :
    Calls Tryd.prog 46 #[.int .i64 y, .int .i64 m] w fun e w' => e = .returned (.tuple #[.int .i64 (Cal.dim y m), .int .i64 0]) ∧ w = w' := by
  by_cases hm : m = 2
  · subst hm
    clear h2 h3
    rcases Cal.lp_cases y with h | h
    all_goals
      first | have hl : Cal.leapB y = false := by (unfold Cal.leapB; rw [h]; rfl)
            | have hl : Cal.leapB y = true := by (unfold Cal.leapB; rw [h]; rfl)
      first | have H : Hid (Cal.dim y 2 = 28) := by (unfold Cal.dim; rw [h]; rfl)
            | have H : Hid (Cal.dim y 2 = 29) := by (unfold Cal.dim; rw [h]; rfl)
      clear h
      go_enter Tryd.func46, Tryd.ntmps46
      go_wp2_with (go_at_call 48; refine (leap_ref _ _ h0 h1).mono ?_; rintro e w' ⟨rfl, rfl⟩)
      go_ret2
      exact ⟨ret_int2 (by rw [H.out]) rfl, rfl⟩
  · rcases Cal.month_cases m h2 h3 with rfl | rfl | rfl | rfl | rfl | rfl | rfl | rfl | rfl | rfl | rfl | rfl
    all_goals first | exact absurd rfl hm | skip
    all_goals
      clear hm h2 h3
      go_enter Tryd.func46, Tryd.ntmps46
      go_wp2
      go_ret2
      exact ⟨rfl, rfl⟩

set_option maxHeartbeats 1000000 in
theorem isdate_no (y m d : Int) (w : World) (h : Cal.vldB y m d = false) :
    Calls Tryd.prog 27 #[.agg #[.int .i64 y, .int .i64 m, .int .i64 d]] w fun e w' => e = .returned (.bool false) ∧ Below w.heap.size w w' := by
  rw [Cal.vld_no] at h
  have hB : ∀ o, Below w.heap.size w (w.alloc o) := fun o => (Below.refl _ _).alloc (Nat.le_refl _) o
  by_cases a : 1999 ≤ y ∧ y ≤ 2100 ∧ 1 ≤ m ∧ m ≤ 12
  · obtain ⟨a1, a2, a3, a4⟩ := a
    by_cases g : 1 ≤ d
    · have i : ¬ d ≤ Cal.dim y m := fun i => h ⟨a1, a2, a3, a4, g, i⟩
      clear h
      go_enter Tryd.func27, Tryd.ntmps27
      go_wp2_with (go_at_call 46; refine (dim_ref _ _ _ a1 a2 a3 a4).mono ?_; rintro e w' ⟨rfl, rfl⟩)
      go_ret
      exact ⟨ret_bool (by simpa using i), hB _⟩
    · clear h
      go_enter Tryd.func27, Tryd.ntmps27
      go_wp2_with (go_at_call 46; refine (dim_ref _ _ _ a1 a2 a3 a4).mono ?_; rintro e w' ⟨rfl, rfl⟩)
      go_ret
      exact ⟨rfl, hB _⟩
  · have A := Lib.hid a
    clear a h
    go_enter Tryd.func27, Tryd.ntmps27
    go_wp2_with (go_at_call 46; refine (dim_ref_no _ _ _ A.out).mono ?_; rintro e w' ⟨rfl, rfl⟩)
    go_ret
    exact ⟨rfl, hB _⟩

set_option maxHeartbeats 1000000 in
theorem isdate_yes (y m d : Int) (w : World) (h : Cal.vldB y m d = true) :
    Calls Tryd.prog 27 #[.agg #[.int .i64 y, .int .i64 m, .int .i64 d]] w fun e w' => e = .returned (.bool true) ∧ Below w.heap.size w w' := by
  rw [Cal.vld_iff] at h
  have hB : ∀ o, Below w.heap.size w (w.alloc o) := fun o => (Below.refl _ _).alloc (Nat.le_refl _) o
  obtain ⟨a1, a2, a3, a4, g, i⟩ := h
  go_enter Tryd.func27, Tryd.ntmps27
  go_wp2_with (go_at_call 46; refine (dim_ref _ _ _ a1 a2 a3 a4).mono ?_; rintro e w' ⟨rfl, rfl⟩)
  go_ret
  exact ⟨rfl, hB _⟩

theorem below2 {w w1 : World} {o : Obj} (h : Below (w.alloc o).heap.size (w.alloc o) w1) : Below w.heap.size w w1 :=
  ((Below.refl _ _).alloc (Nat.le_refl _) o).trans (h.mono (by simp))

set_option maxHeartbeats 1000000 in
theorem daynum_ref_no (y m d : Int) (w : World) (h : Cal.vldB y m d = false) :
    Calls Tryd.prog 32 #[.agg #[.int .i64 y, .int .i64 m, .int .i64 d]] w fun e w' => e = .returned (.tuple #[.int .i64 0, .int .i64 5]) ∧ Below w.heap.size w w' := by
  go_enter Tryd.func32, Tryd.ntmps32
  go_wp2_with (go_at_call 27; refine (isdate_no _ _ _ _ h).mono ?_; rintro e w1 ⟨rfl, hb⟩)
  go_ret2
  exact ⟨rfl, below2 hb⟩

set_option maxHeartbeats 1000000 in
theorem daynum_ref (y m d : Int) (w : World) (h : Cal.vldB y m d = true) :
    Calls Tryd.prog 32 #[.agg #[.int .i64 y, .int .i64 m, .int .i64 d]] w fun e w' => e = .returned (.tuple #[.int .i64 (Cal.num y m d), .int .i64 0]) ∧ Below w.heap.size w w' := by
  have hv := (Cal.vld_iff y m d).1 h
  obtain ⟨a1, a2, a3, a4, a5, a6⟩ := hv
  have hd := Cal.dim_bd y m
  have hdb := Cal.dby_bd y a1 a2
  have hcb := Cal.cum_bd y m a3 a4
  have H := Lib.hid h
  clear h
  go_enter Tryd.func32, Tryd.ntmps32
  go_wp2_with (go_at_call 27; refine (isdate_yes _ _ _ _ H.out).mono ?_; rintro e w1 ⟨rfl, hb⟩)
  obtain ⟨hc1, hf1⟩ := bcell hb
  have c0 : w1.cell? ⟨w.heap.size, 0, none⟩ = some (.int .i64 y) := by rw [hc1 _ _ (by simp)]; simp
  have c1 : w1.cell? ⟨w.heap.size, 1, none⟩ = some (.int .i64 m) := by rw [hc1 _ _ (by simp)]; simp
  have c2 : w1.cell? ⟨w.heap.size, 2, none⟩ = some (.int .i64 d) := by rw [hc1 _ _ (by simp)]; simp
  clear hc1 hf1
  go_loop [4, 5] (fun n t => ∃ k : Int, 1999 ≤ k ∧ k ≤ y ∧ t = .int .i64 k ∧ n = .int .i64 (-365 + Cal.dby k)) (fun _ t => (y - intOf t).toNat)
  case atStart => exact ⟨1999, by omega, by omega, rfl, by rw [Cal.dby_first]; rfl⟩
  case round =>
    obtain ⟨k, hk1, hk2, rfl, rfl⟩ := hrel
    have kb := Cal.dby_bd k hk1 (by omega)
    by_cases hlt : k < y
    · have ks := Lib.hid (Cal.dby_succ k hk1 (by omega))
      rcases Cal.lp_cases k with q | q
      all_goals
        first | have hl : Cal.leapB k = false := by (unfold Cal.leapB; rw [q]; rfl)
              | have hl : Cal.leapB k = true := by (unfold Cal.leapB; rw [q]; rfl)
        have Q := Lib.hid q
        clear q
        go_wp2_with (go_at_call 48; refine (leap_ref _ _ (by omega) (by omega)).mono ?_; rintro e w' ⟨rfl, rfl⟩)
        go_round
        case rel => exact ⟨k + 1, by omega, by omega, rfl, by rw [ks.out, Q.out]; go_num⟩
        case measure => simp [intOf]; omega
    · obtain rfl : k = y := by omega
      go_wp2_with fail
      go_loop [4, 6, 7, 8] (fun n t _ _ => ∃ j : Int, 1 ≤ j ∧ j ≤ m ∧ t = .int .i64 j ∧ n = .int .i64 (-365 + Cal.dby k + Cal.cum k j)) (fun _ t _ _ => (m - intOf t).toNat)
      case atStart => exact ⟨1, by omega, by omega, rfl, by simp [Cal.cum]⟩
      case round =>
        obtain ⟨j, hj1, hj2, rfl, rfl⟩ := hrel
        have jb := Cal.cum_bd k j hj1 (by omega)
        have db := Cal.dim_bd k j
        by_cases hlt2 : j < m
        · have js := Lib.hid (Cal.cum_succ k j hj1 (by omega))
          go_wp2_with (go_at_call 46; refine (dim_ref _ _ _ (by omega) (by omega) (by omega) (by omega)).mono ?_; rintro e w' ⟨rfl, rfl⟩)
          go_round
          case rel => exact ⟨j + 1, by omega, by omega, rfl, by rw [js.out]; go_num⟩
          case measure => simp [intOf]; omega
        · obtain rfl : j = m := by omega
          go_wp2
          go_ret2
          exact ⟨ret_int2 (by unfold Cal.num; omega) rfl, below2 hb⟩

end Go.Proofs.YtfdldadjimcciaaDoor
