/-
  The walk of the law CalendarDates.
-/
import Derived.Test.YtfdldadjimcciaaDoorTxtBack
import Derived.Test.YtfdldadjimcciaaDoorTxtDate2
namespace Go.Proofs.YtfdldadjimcciaaDoor
open Go.ChangeShapes Go.WideShapes Go.ChangeAt Go.RowKit

theorem fd_facts (y m d : Int) : (fdV y m d).size ≤ 9223372036854775807 ∧ ((fdE y m d == 0) = true ∧ (pdE (fdV y m d) = 0 ∧ pdV (fdV y m d) (pdY (fdV y m d)) = y ∧ pdV (fdV y m d) (pdM (fdV y m d)) = m ∧ pdV (fdV y m d) (pdD (fdV y m d)) = d) ∨ (fdE y m d == 0) = false) := by
  unfold fdV fdE
  cases h : Cal.vldB y m d
  · exact ⟨Nat.zero_le _, .inr rfl⟩
  · exact ⟨by simp only [if_true]; rw [fdS_size y m d h]; omega, .inl ⟨rfl, by simpa using parse_back_all y m d h⟩⟩
theorem fc_facts (c : Int) : (fcV c).size ≤ 9223372036854775807 ∧ ((fcE c == 0) = true ∧ (pcE (fcV c) = 0 ∧ pcV (fcV c) = c) ∨ (fcE c == 0) = false) := by
  unfold fcV fcE
  cases h : fcB c
  · exact ⟨Nat.zero_le _, .inr rfl⟩
  · exact ⟨by simp only [if_true]; rw [fcS_size c h]; omega, .inl ⟨rfl, by simpa using clock_back_all c h⟩⟩

set_option maxHeartbeats 4000000 in
theorem walk_calendarDates (s r : ByteArray) (y m d c : Int) (w : World) (hs : s.size ≤ 9223372036854775807) (hr : r.size ≤ 9223372036854775807) (_ : (Lit.int .i64 y).wf = true) (_ : (Lit.int .i64 m).wf = true) (_ : (Lit.int .i64 d).wf = true) (_ : (Lit.int .i64 c).wf = true) (ht : Tab w) :
    Calls Tryd.prog 3 #[.string s, .string r, .agg #[.int .i64 y, .int .i64 m, .int .i64 d], .int .i64 c] w fun e w' => e = .returned (.bool true) ∧ Below w.heap.size w w' := by
  obtain ⟨fz, fd⟩ := fd_facts y m d
  obtain ⟨cz, fc⟩ := fc_facts c
  have FD := Lib.hid fd
  have FC := Lib.hid fc
  clear fd fc
  have BD := Box3.new w 23 (.int .i64 y) (.int .i64 m) (.int .i64 d)
  have B0 : Below w.heap.size w (w.alloc (.cells #[.int .i64 y, .int .i64 m, .int .i64 d] 23)) := (Below.refl _ _).alloc (Nat.le_refl _) _
  have T0 := ht.alloc (.cells #[.int .i64 y, .int .i64 m, .int .i64 d] 23)
  go_enter Tryd.func3, Tryd.ntmps3
  go_wp2_with fail
  refine (pdate_any _ _ (by omega)).mono ?_
  rintro e w1 ⟨rfl, hb1⟩
  replace BD := BD.next hb1
  have B1 := B0.trans (hb1.mono (by simp))
  have T1 := T0.next hb1
  clear hb1 B0 T0
  have BA := Box3.new w1 23 (.int .i64 (pdV s (pdY s))) (.int .i64 (pdV s (pdM s))) (.int .i64 (pdV s (pdD s)))
  replace BD := BD.al (.cells #[.int .i64 (pdV s (pdY s)), .int .i64 (pdV s (pdM s)), .int .i64 (pdV s (pdD s))] 23)
  have B2 := B1.alloc B1.size (.cells #[.int .i64 (pdV s (pdY s)), .int .i64 (pdV s (pdM s)), .int .i64 (pdV s (pdD s))] 23)
  have T2 := T1.alloc (.cells #[.int .i64 (pdV s (pdY s)), .int .i64 (pdV s (pdM s)), .int .i64 (pdV s (pdD s))] 23)
  clear B1 T1
  go_wp2_with fail
  refine (pdate_ref_any _ _ (by omega)).mono ?_
  rintro e w2 ⟨rfl, hb2⟩
  replace BD := BD.next hb2
  replace BA := BA.next hb2
  have B3 := B2.trans (hb2.mono B2.size)
  have T3 := T2.next hb2
  clear hb2 B2 T2
  have BB := Box3.new w2 23 (.int .i64 (pdV s (pdY s))) (.int .i64 (pdV s (pdM s))) (.int .i64 (pdV s (pdD s)))
  replace BD := BD.al (.cells #[.int .i64 (pdV s (pdY s)), .int .i64 (pdV s (pdM s)), .int .i64 (pdV s (pdD s))] 23)
  replace BA := BA.al (.cells #[.int .i64 (pdV s (pdY s)), .int .i64 (pdV s (pdM s)), .int .i64 (pdV s (pdD s))] 23)
  have B4 := B3.alloc B3.size (.cells #[.int .i64 (pdV s (pdY s)), .int .i64 (pdV s (pdM s)), .int .i64 (pdV s (pdD s))] 23)
  have T4 := T3.alloc (.cells #[.int .i64 (pdV s (pdY s)), .int .i64 (pdV s (pdM s)), .int .i64 (pdV s (pdD s))] 23)
  clear B3 T3
  have BD' := BD
  obtain ⟨d0, d1, d2⟩ := BD'
  go_wp2_with fail
  refine (fdate_any _ _ _ _ T4).mono ?_
  rintro e w3 ⟨rfl, hb3⟩
  clear d0 d1 d2
  replace BD := BD.next hb3
  replace BA := BA.next hb3
  replace BB := BB.next hb3
  have B5 := B4.trans (hb3.mono B4.size)
  have T5 := T4.next hb3
  clear hb3 B4 T4
  have BD' := BD
  obtain ⟨d0, d1, d2⟩ := BD'
  go_wp2_with fail
  refine (fdate_ref_any _ _ _ _ T5).mono ?_
  rintro e w4 ⟨rfl, hb4⟩
  clear d0 d1 d2
  replace BD := BD.next hb4
  replace BA := BA.next hb4
  replace BB := BB.next hb4
  have B6 := B5.trans (hb4.mono B5.size)
  have T6 := T5.next hb4
  clear hb4 B5 T5
  obtain ⟨a0, a1, a2⟩ := BA
  obtain ⟨b0, b1, b2⟩ := BB
  go_wp2_with fail
  refine (pclock_any _ _ (by omega)).mono ?_
  rintro e w5 ⟨rfl, hb5⟩
  clear a0 a1 a2 b0 b1 b2
  replace BD := BD.next hb5
  have B7 := B6.trans (hb5.mono B6.size)
  have T7 := T6.next hb5
  clear hb5 B6 T6
  go_wp2_with fail
  refine (pclock_ref_any _ _ (by omega)).mono ?_
  rintro e w5' ⟨rfl, rfl⟩
  go_wp2_with fail
  refine (fclock_any _ _ T7).mono ?_
  rintro e w6 ⟨rfl, hb6⟩
  replace BD := BD.next hb6
  have B8 := B7.trans (hb6.mono B7.size)
  have T8 := T7.next hb6
  clear hb6 B7 T7
  go_wp2_with fail
  refine (fclock_ref_any _ _ T8).mono ?_
  rintro e w7 ⟨rfl, hb7⟩
  replace BD := BD.next hb7
  have B9 := B8.trans (hb7.mono B8.size)
  clear hb7 B8 T8
  rcases FD.out with ⟨g1, g2, g3, g4, g5⟩ | g1
  · go_wp2_with fail
    refine (pdate_any _ _ fz).mono ?_
    rw [g2, g3, g4, g5]
    rintro e w8 ⟨rfl, hb8⟩
    clear g2 g3 g4 g5
    replace BD := BD.next hb8
    have B10 := B9.trans (hb8.mono B9.size)
    clear hb8 B9
    obtain ⟨d0, d1, d2⟩ := BD
    have hlt := block_lt_of_cell d0
    rcases FC.out with ⟨k1, k2, k3⟩ | k1
    · go_wp2_with (first
        | (go_at_call 10; refine (pclock_any _ _ cz).mono ?_; rw [k2, k3]; rintro e w9 ⟨rfl, hb9⟩)
        | (go_at_call 14; refine (awake_any _).mono ?_; rintro e w10 ⟨rfl, hb10⟩))
      go_ret
      have B11 := (B10.alloc B10.size _).trans (hb9.mono (by have := B10.size; simp; omega))
      exact ⟨rfl, B11.trans (hb10.mono B11.size)⟩
    · go_wp2_with (first
        | (go_at_call 14; refine (awake_any _).mono ?_; rintro e w10 ⟨rfl, hb10⟩))
      go_ret
      exact ⟨rfl, (B10.alloc B10.size _).trans (hb10.mono (by have := B10.size; simp; omega))⟩
  · rcases FC.out with ⟨k1, k2, k3⟩ | k1
    · go_wp2_with (first
        | (go_at_call 10; refine (pclock_any _ _ cz).mono ?_; rw [k2, k3]; rintro e w9 ⟨rfl, hb9⟩)
        | (go_at_call 14; refine (awake_any _).mono ?_; rintro e w10 ⟨rfl, hb10⟩))
      go_ret
      have B11 := B9.trans (hb9.mono B9.size)
      exact ⟨rfl, B11.trans (hb10.mono B11.size)⟩
    · go_wp2_with (first
        | (go_at_call 14; refine (awake_any _).mono ?_; rintro e w10 ⟨rfl, hb10⟩))
      go_ret
      exact ⟨rfl, B9.trans (hb10.mono B9.size)⟩

end Go.Proofs.YtfdldadjimcciaaDoor
