/-
  The walk of the law CalendarBack.
-/
import Derived.Test.YtiggchlgiapdkaaCalLaw2
import Derived.Test.YtiggchlgiapdkaaCalLaw3
namespace Go.Proofs.Ytiggchlgiapdkaa
open Go.ChangeShapes Go.WideShapes Go.ChangeAt Go.RowKit

/-- The day behind a date. -/
theorem next_date (y m d y' m' d' : Int) (h : Cal.vldB y m d = true) (h' : Cal.vldB y' m' d' = true) (hn : Cal.num y' m' d' = Cal.num y m d + 1) :
    (d < Cal.dim y m ∧ y' = y ∧ m' = m ∧ d' = d + 1) ∨ (d = Cal.dim y m ∧ m < 12 ∧ y' = y ∧ m' = m + 1 ∧ d' = 1) ∨ (d = Cal.dim y m ∧ m = 12 ∧ y' = y + 1 ∧ m' = 1 ∧ d' = 1) := by
  have hv := (Cal.vld_iff y m d).1 h
  have hb' := Cal.num_bd y' m' d' h'
  obtain ⟨a1, a2, a3, a4, a5, a6⟩ := hv
  by_cases q : d < Cal.dim y m
  · left
    obtain ⟨e1, e2, e3⟩ := Cal.num_inj y' m' d' y m (d + 1) h' ((Cal.vld_iff _ _ _).2 (by omega)) (by unfold Cal.num at *; omega)
    exact ⟨q, e1, e2, e3⟩
  · right
    have hd : d = Cal.dim y m := by omega
    by_cases q2 : m < 12
    · left
      have := Cal.dim_bd y (m + 1)
      have cs := Cal.cum_succ y m a3 (by omega)
      obtain ⟨e1, e2, e3⟩ := Cal.num_inj y' m' d' y (m + 1) 1 h' ((Cal.vld_iff _ _ _).2 (by omega)) (by unfold Cal.num at *; omega)
      exact ⟨hd, q2, e1, e2, e3⟩
    · right
      obtain rfl : m = 12 := by omega
      have cs := Cal.cum_succ y 12 (by omega) (by omega)
      rw [show (12 : Int) + 1 = 13 from rfl, Cal.cum_13] at cs
      have q3 : y < 2100 := by
        by_cases e : y = 2100
        · subst e
          have h1 := Cal.dby_last
          have h2 : Cal.lp 2100 = 0 := by decide
          unfold Cal.num at *; omega
        · omega
      have ds := Cal.dby_succ y a1 q3
      have h3 : Cal.cum (y + 1) 1 = 0 := by simp [Cal.cum]
      have := Cal.dim_bd (y + 1) 1
      obtain ⟨e1, e2, e3⟩ := Cal.num_inj y' m' d' (y + 1) 1 1 h' ((Cal.vld_iff _ _ _).2 (by omega)) (by unfold Cal.num at *; omega)
      exact ⟨hd, rfl, e1, e2, e3⟩

theorem last_date (y m d : Int) (h : Cal.vldB y m d = true) (hn : Cal.num y m d = 36889) : y = 2100 ∧ m = 12 ∧ d = 31 :=
  Cal.num_inj y m d 2100 12 31 h (by decide) (by rw [hn]; decide)

theorem wday_7 (n : Int) : Cal.wday (n + 7) = Cal.wday n := by unfold Cal.wday; omega
theorem wday_1 (n : Int) : Cal.wday (n + 1) = (Cal.wday n + 1) % 7 := by unfold Cal.wday; omega
theorem wday_bd (n : Int) : 0 ≤ Cal.wday n ∧ Cal.wday n ≤ 6 := by unfold Cal.wday; omega

set_option maxHeartbeats 1000000 in
theorem walk_back_no (n : Int) (w : World) (h : n < -365 ∨ 36889 < n) :
    Calls Try.prog 6 #[.int .i64 n] w fun e w' => e = .returned (.bool true) ∧ Below w.heap.size w w' := by
  have H := Lib.hid h
  clear h
  go_enter Try.func6, Try.ntmps6
  go_wp2_with fail
  refine (dateof_no _ _ H.out).mono ?_
  rintro e w1 ⟨rfl, hb1⟩
  go_wp2_with (go_at_call 9; refine (awake_any _).mono ?_; rintro e w5 ⟨rfl, hb5⟩)
  go_ret
  exact ⟨rfl, (hb1.alloc hb1.size _).trans (hb5.mono (by have := hb1.size; simp; omega))⟩

set_option maxHeartbeats 2000000 in
theorem walk_back_yes (n : Int) (w : World) (h0 : -365 ≤ n) (h1 : n ≤ 36889) :
    Calls Try.prog 6 #[.int .i64 n] w fun e w' => e = .returned (.bool true) ∧ Below w.heap.size w w' := by
  have W7 := Lib.hid (wday_7 n)
  have W1 := Lib.hid (wday_1 n)
  have wb := wday_bd n
  have g0 : (Lit.int .i64 n).wf = true := WalkArith.wf_i64 (by omega)
  have g1 : (Lit.int .i64 (n + 1)).wf = true := WalkArith.wf_i64 (by omega)
  have g7 : (Lit.int .i64 (n + 7)).wf = true := WalkArith.wf_i64 (by omega)
  have q7 : (Cal.wday (n + 7) != Cal.wday n) = false := by rw [W7.out]; simp
  have q1 : (Cal.wday (n + 1) != (Cal.wday n + 1) % 7) = false := by rw [W1.out]; simp
  clear W7 W1
  go_enter Try.func6, Try.ntmps6
  go_wp2_with fail
  refine (dateof _ _ h0 h1).mono ?_
  rintro e w1 ⟨y, m, d, rfl, hv, hn, hb1⟩
  have V := Lib.hid hv
  have N := Lib.hid hn
  clear hv hn
  go_wp2_with fail
  refine (daynum _ _ _ _ V.out).mono ?_
  rw [N.out]
  rintro e w2 ⟨rfl, hb2⟩
  have c0 := box_cell hb2 0
  have c1 := box_cell hb2 1
  have c2 := box_cell hb2 2
  simp at c0 c1 c2
  have hz2 := box_size hb2
  have B2 := hb1.trans ((below2 hb2).mono hb1.size)
  clear hb1 hb2
  go_wp2_with fail
  by_cases hl : n = 36889
  · obtain ⟨rfl, rfl, rfl⟩ := last_date y m d V.out (by rw [N.out, hl])
    have hl1 : 36889 < n + 1 := by omega
    clear hl
    refine (dateof_no _ _ (Or.inr hl1)).mono ?_
    rintro e w3 ⟨rfl, hb3⟩
    have d0 : w3.cell? ⟨w1.heap.size, 0, none⟩ = some (.int .i64 2100) := by rw [hb3.cell (p := ⟨w1.heap.size, 0, none⟩) hz2]; exact c0
    have d1 : w3.cell? ⟨w1.heap.size, 1, none⟩ = some (.int .i64 12) := by rw [hb3.cell (p := ⟨w1.heap.size, 1, none⟩) hz2]; exact c1
    have d2 : w3.cell? ⟨w1.heap.size, 2, none⟩ = some (.int .i64 31) := by rw [hb3.cell (p := ⟨w1.heap.size, 2, none⟩) hz2]; exact c2
    have hz3 : w1.heap.size < w3.heap.size := by have := hb3.size; omega
    have hne : ¬ (w1.heap.size = w3.heap.size) := by omega
    have B3 := B2.trans (hb3.mono B2.size)
    clear hb3 B2 c0 c1 c2
    go_wp2_with (first
      | (go_at_call 14; refine (wday_prog _ _ (by assumption)).mono ?_; rintro e w5 ⟨rfl, rfl⟩)
      | (go_at_call 9; refine (awake_any _).mono ?_; rintro e w5 ⟨rfl, hb5⟩))
    go_ret
    exact ⟨rfl, (B3.alloc B3.size _).trans (hb5.mono (by have := B3.size; simp; omega))⟩
  · refine (dateof _ _ (by omega) (by omega)).mono ?_
    rintro e w3 ⟨y', m', d', rfl, hv', hn', hb3⟩
    have hx := next_date y m d y' m' d' V.out hv' (by rw [hn', N.out])
    obtain ⟨a1, a2, a3, a4, a5, a6⟩ := (Cal.vld_iff y m d).1 V.out
    have HV := Lib.hid hv'
    clear hv' hn' hl N
    have db := Cal.dim_bd y m
    have d0 : w3.cell? ⟨w1.heap.size, 0, none⟩ = some (.int .i64 y) := by rw [hb3.cell (p := ⟨w1.heap.size, 0, none⟩) hz2]; exact c0
    have d1 : w3.cell? ⟨w1.heap.size, 1, none⟩ = some (.int .i64 m) := by rw [hb3.cell (p := ⟨w1.heap.size, 1, none⟩) hz2]; exact c1
    have d2 : w3.cell? ⟨w1.heap.size, 2, none⟩ = some (.int .i64 d) := by rw [hb3.cell (p := ⟨w1.heap.size, 2, none⟩) hz2]; exact c2
    have hz3 : w1.heap.size < w3.heap.size := by have := hb3.size; omega
    have hne : ¬ (w1.heap.size = w3.heap.size) := by omega
    have B3 := B2.trans (hb3.mono B2.size)
    clear hb3 B2 c0 c1 c2
    rcases hx with ⟨x1, rfl, rfl, rfl⟩ | ⟨x1, x2, rfl, rfl, rfl⟩ | ⟨x1, x2, rfl, rfl, rfl⟩
    all_goals
      have X1 := Lib.hid x1
      go_wp2_with (first
        | (go_at_call 14; refine (wday_prog _ _ (by assumption)).mono ?_; rintro e w5 ⟨rfl, rfl⟩)
        | fail)
      refine (dim_prog _ _ _ (by omega) (by omega) (by omega) (by omega)).mono ?_
      rintro e w4 ⟨rfl, hb4⟩
      have n0 := box_cell hb4 0
      have n1 := box_cell hb4 1
      have n2 := box_cell hb4 2
      simp at n0 n1 n2
      have e0 := ((below2 hb4).cell (p := ⟨w1.heap.size, 0, none⟩) hz3).trans d0
      have e1 := ((below2 hb4).cell (p := ⟨w1.heap.size, 1, none⟩) hz3).trans d1
      have e2 := ((below2 hb4).cell (p := ⟨w1.heap.size, 2, none⟩) hz3).trans d2
      have B4 := B3.trans ((below2 hb4).mono B3.size)
      clear hb4 B3 d0 d1 d2 hz3 hne
      go_wp2_with (first
        | (go_at_call 9; refine (awake_any _).mono ?_; rintro e w5 ⟨rfl, hb5⟩))
      go_ret
      exact ⟨rfl, B4.trans (hb5.mono B4.size)⟩

theorem walk_calendarBack (n : Int) (w : World) (_ : (Lit.int .i64 n).wf = true) :
    Calls Try.prog 6 #[.int .i64 n] w fun e w' => e = .returned (.bool true) ∧ Below w.heap.size w w' := by
  by_cases h : n < -365 ∨ 36889 < n
  · exact walk_back_no n w h
  · exact walk_back_yes n w (by omega) (by omega)

end Go.Proofs.Ytiggchlgiapdkaa
