/-
  The walk of the law CalendarDays.
-/
import Derived.Test.YtiggchlgiapdkaaCalProg2
namespace Go.Proofs.Ytiggchlgiapdkaa
open Go.ChangeShapes Go.WideShapes Go.ChangeAt Go.RowKit

/-- What both DayNumbers return. -/
def dnV (y m d : Int) : Int := if Cal.vldB y m d = true then Cal.num y m d else 0
def dnE (y m d : Int) : Int := if Cal.vldB y m d = true then 0 else 5
theorem daynum_all (y m d : Int) (w : World) :
    Calls Try.prog 10 #[.agg #[.int .i64 y, .int .i64 m, .int .i64 d]] w fun e w' => e = .returned (.tuple #[.int .i64 (dnV y m d), .int .i64 (dnE y m d)]) ∧ Below w.heap.size w w' := by
  unfold dnV dnE
  cases h : Cal.vldB y m d
  · exact daynum_no y m d w h
  · exact daynum y m d w h
theorem daynum_ref_all (y m d : Int) (w : World) :
    Calls Try.prog 11 #[.agg #[.int .i64 y, .int .i64 m, .int .i64 d]] w fun e w' => e = .returned (.tuple #[.int .i64 (dnV y m d), .int .i64 (dnE y m d)]) ∧ Below w.heap.size w w' := by
  unfold dnV dnE
  cases h : Cal.vldB y m d
  · exact daynum_ref_no y m d w h
  · exact daynum_ref y m d w h
/-- A date that is what DateOf returns. -/
def IsDateOf (n y m d e : Int) : Prop := (n < -365 ∨ 36889 < n) ∧ y = 0 ∧ m = 0 ∧ d = 0 ∧ e = 5 ∨ (-365 ≤ n ∧ n ≤ 36889) ∧ e = 0 ∧ Cal.vldB y m d = true ∧ Cal.num y m d = n
theorem IsDateOf.one {n y m d e y' m' d' e' : Int} (h : IsDateOf n y m d e) (h' : IsDateOf n y' m' d' e') : y = y' ∧ m = m' ∧ d = d' ∧ e = e' := by
  rcases h with ⟨a, b, c, f, g⟩ | ⟨a, b, c, f⟩ <;> rcases h' with ⟨a', b', c', f', g'⟩ | ⟨a', b', c', f'⟩
  · subst b c f g b' c' f' g'; simp
  · omega
  · omega
  · subst b b'; have := Cal.num_inj y m d y' m' d' c c' (by omega); simp [this]
def DateGot (n : Int) (w : World) (e : Ending) (w' : World) : Prop :=
  ∃ y m d c : Int, IsDateOf n y m d c ∧ e = .returned (.tuple #[.agg #[.int .i64 y, .int .i64 m, .int .i64 d], .int .i64 c]) ∧ Below w.heap.size w w'
theorem dateof_all (n : Int) (w : World) : Calls Try.prog 12 #[.int .i64 n] w (DateGot n w) := by
  by_cases h : n < -365 ∨ 36889 < n
  · exact (dateof_no n w h).mono fun e w' ⟨he, hb⟩ => ⟨0, 0, 0, 5, .inl ⟨h, rfl, rfl, rfl, rfl⟩, he, hb⟩
  · exact (dateof n w (by omega) (by omega)).mono fun e w' ⟨y, m, d, he, hv, hn, hb⟩ => ⟨y, m, d, 0, .inr ⟨by omega, rfl, hv, hn⟩, he, hb⟩
theorem dateof_ref_all (n : Int) (w : World) : Calls Try.prog 13 #[.int .i64 n] w (DateGot n w) := by
  by_cases h : n < -365 ∨ 36889 < n
  · exact (dateof_ref_no n w h).mono fun e w' ⟨he, hb⟩ => ⟨0, 0, 0, 5, .inl ⟨h, rfl, rfl, rfl, rfl⟩, he, hb⟩
  · exact (dateof_ref n w (by omega) (by omega)).mono fun e w' ⟨y, m, d, he, hv, hn, hb⟩ => ⟨y, m, d, 0, .inr ⟨by omega, rfl, hv, hn⟩, he, hb⟩

set_option maxHeartbeats 1000000 in
theorem walk_calendarDays (y m d n : Int) (w : World) (_ : (Lit.int .i64 y).wf = true) (_ : (Lit.int .i64 m).wf = true) (_ : (Lit.int .i64 d).wf = true) (h : (Lit.int .i64 n).wf = true) :
    Calls Try.prog 4 #[.agg #[.int .i64 y, .int .i64 m, .int .i64 d], .int .i64 n] w fun e w' => e = .returned (.bool true) ∧ Below w.heap.size w w' := by
  go_enter Try.func4, Try.ntmps4
  go_wp2_with fail
  refine (daynum_all _ _ _ _).mono ?_
  rintro e w1 ⟨rfl, hb1⟩
  have c0 := box_cell hb1 0
  have c1 := box_cell hb1 1
  have c2 := box_cell hb1 2
  simp at c0 c1 c2
  have B1 := below2 hb1
  clear hb1
  go_wp2_with fail
  refine (daynum_ref_all _ _ _ _).mono ?_
  rintro e w2 ⟨rfl, hb2⟩
  have B2 := B1.trans (hb2.mono B1.size)
  clear B1 hb2 c0 c1 c2
  go_wp2_with fail
  refine (dateof_all _ _).mono ?_
  rintro e w3 ⟨y3, m3, d3, e3, h3, rfl, hb3⟩
  have B3 := B2.trans (hb3.mono B2.size)
  clear B2 hb3
  go_wp2_with fail
  refine (dateof_ref_all _ _).mono ?_
  rintro e w4 ⟨y4, m4, d4, e4, h4, rfl, hb4⟩
  obtain ⟨rfl, rfl, rfl, rfl⟩ := h3.one h4
  clear h3 h4
  have c0 := box_cell hb4 0
  have c1 := box_cell hb4 1
  have c2 := box_cell hb4 2
  have hz := box_size hb4
  simp at c0 c1 c2
  have B4 := B3.trans ((below2 hb4).mono B3.size)
  clear B3 hb4
  go_wp2_with (first
    | (go_at_call 14; refine (wday_prog _ _ h).mono ?_; rintro e w2 ⟨rfl, rfl⟩)
    | (go_at_call 15; refine (wday_ref _ _ h).mono ?_; rintro e w2 ⟨rfl, rfl⟩)
    | (go_at_call 9; refine (awake_any _).mono ?_; rintro e w5 ⟨rfl, hb5⟩))
  go_ret
  exact ⟨rfl, (B4.alloc B4.size _).trans (hb5.mono (by have := B4.size; simp; omega))⟩

end Go.Proofs.Ytiggchlgiapdkaa
