/-
  The walk of the law CalendarMonths.
-/
import Derived.Test.YtiggchlgiapdkaaCalAdd
namespace Go.Proofs.Ytiggchlgiapdkaa
open Go.ChangeShapes Go.WideShapes Go.ChangeAt Go.RowKit

def dimV (y m : Int) : Int := if 1999 ≤ y ∧ y ≤ 2100 ∧ 1 ≤ m ∧ m ≤ 12 then Cal.dim y m else 0
def dimE (y m : Int) : Int := if 1999 ≤ y ∧ y ≤ 2100 ∧ 1 ≤ m ∧ m ≤ 12 then 0 else 5
theorem dim_all (y m : Int) (w : World) :
    Calls Try.prog 16 #[.int .i64 y, .int .i64 m] w fun e w' => e = .returned (.tuple #[.int .i64 (dimV y m), .int .i64 (dimE y m)]) ∧ Below w.heap.size w w' := by
  unfold dimV dimE
  by_cases h : 1999 ≤ y ∧ y ≤ 2100 ∧ 1 ≤ m ∧ m ≤ 12
  · rw [if_pos h, if_pos h]; exact dim_prog y m w h.1 h.2.1 h.2.2.1 h.2.2.2
  · rw [if_neg h, if_neg h]; exact (dim_prog_no y m w h).mono fun e w' ⟨he, hw⟩ => ⟨he, hw ▸ Below.refl _ _⟩
theorem dim_ref_all (y m : Int) (w : World) :
    Calls Try.prog 17 #[.int .i64 y, .int .i64 m] w fun e w' => e = .returned (.tuple #[.int .i64 (dimV y m), .int .i64 (dimE y m)]) ∧ w = w' := by
  unfold dimV dimE
  by_cases h : 1999 ≤ y ∧ y ≤ 2100 ∧ 1 ≤ m ∧ m ≤ 12
  · rw [if_pos h, if_pos h]; exact dim_ref y m w h.1 h.2.1 h.2.2.1 h.2.2.2
  · rw [if_neg h, if_neg h]; exact dim_ref_no y m w h
/-- What both AddMonths return. -/
def addY (y m d n : Int) : Int := if addB y m d n = true then amY y m n else 0
def addM (y m d n : Int) : Int := if addB y m d n = true then amM y m n else 0
def addD (y m d n : Int) : Int := if addB y m d n = true then amD y m d n else 0
def addE (y m d n : Int) : Int := if addB y m d n = true then 0 else 5
theorem add_all (y m d n : Int) (w : World) :
    Calls Try.prog 18 #[.agg #[.int .i64 y, .int .i64 m, .int .i64 d], .int .i64 n] w fun e w' => e = .returned (.tuple #[.agg #[.int .i64 (addY y m d n), .int .i64 (addM y m d n), .int .i64 (addD y m d n)], .int .i64 (addE y m d n)]) ∧ Below w.heap.size w w' := by
  unfold addY addM addD addE
  cases h : addB y m d n
  · exact add_prog_no y m d n w h
  · exact add_prog y m d n w h
theorem add_ref_all (y m d n : Int) (w : World) :
    Calls Try.prog 19 #[.agg #[.int .i64 y, .int .i64 m, .int .i64 d], .int .i64 n] w fun e w' => e = .returned (.tuple #[.agg #[.int .i64 (addY y m d n), .int .i64 (addM y m d n), .int .i64 (addD y m d n)], .int .i64 (addE y m d n)]) ∧ Below w.heap.size w w' := by
  unfold addY addM addD addE
  cases h : addB y m d n
  · exact add_ref_no y m d n w h
  · exact add_ref y m d n w h

set_option maxHeartbeats 1000000 in
theorem walk_calendarMonths (y m d n : Int) (w : World) (_ : (Lit.int .i64 y).wf = true) (_ : (Lit.int .i64 m).wf = true) (_ : (Lit.int .i64 d).wf = true) (h : (Lit.int .i64 n).wf = true) :
    Calls Try.prog 5 #[.agg #[.int .i64 y, .int .i64 m, .int .i64 d], .int .i64 n] w fun e w' => e = .returned (.bool true) ∧ Below w.heap.size w w' := by
  go_enter Try.func5, Try.ntmps5
  go_wp2_with fail
  refine (dim_all _ _ _).mono ?_
  rintro e w1 ⟨rfl, hb1⟩
  have c0 := box_cell hb1 0
  have c1 := box_cell hb1 1
  have c2 := box_cell hb1 2
  simp at c0 c1 c2
  have B1 := below2 hb1
  have hz1 := box_size hb1
  clear hb1
  go_wp2_with fail
  refine (dim_ref_all _ _ _).mono ?_
  rintro e w1' ⟨rfl, rfl⟩
  go_wp2_with fail
  refine (add_all _ _ _ _ _).mono ?_
  rintro e w2 ⟨rfl, hb2⟩
  have B2 := B1.trans (hb2.mono B1.size)
  have d0 : w2.cell? ⟨w.heap.size, 0, none⟩ = some (.int .i64 y) := by rw [hb2.cell (p := ⟨w.heap.size, 0, none⟩) hz1]; exact c0
  have d1 : w2.cell? ⟨w.heap.size, 1, none⟩ = some (.int .i64 m) := by rw [hb2.cell (p := ⟨w.heap.size, 1, none⟩) hz1]; exact c1
  have d2 : w2.cell? ⟨w.heap.size, 2, none⟩ = some (.int .i64 d) := by rw [hb2.cell (p := ⟨w.heap.size, 2, none⟩) hz1]; exact c2
  have hz2 : w.heap.size < w2.heap.size := by have := hb2.size; omega
  clear B1 hb2 c0 c1 c2
  go_wp2_with fail
  refine (add_ref_all _ _ _ _ _).mono ?_
  rintro e w4 ⟨rfl, hb4⟩
  have c0 := box_cell hb4 0
  have c1 := box_cell hb4 1
  have c2 := box_cell hb4 2
  have hz := box_size hb4
  simp at c0 c1 c2
  have B4 := B2.trans ((below2 hb4).mono B2.size)
  clear B2 hb4 d0 d1 d2 hz2 hz1
  go_wp2_with (go_at_call 9; refine (awake_any _).mono ?_; rintro e w5 ⟨rfl, hb5⟩)
  go_ret
  exact ⟨rfl, (B4.alloc B4.size _).trans (hb5.mono (by have := B4.size; simp; omega))⟩

end Go.Proofs.Ytiggchlgiapdkaa
