/-
  The walk of the law CalendarMinutes.
-/
import Derived.Test.YtiggchlgiapdkaaCalProg2
namespace Go.Proofs.Ytiggchlgiapdkaa
open Go.ChangeShapes Go.WideShapes Go.ChangeAt Go.RowKit

set_option maxHeartbeats 1000000 in
theorem walk_calendarMinutes (t : Int) (w : World) (h : (Lit.int .i64 t).wf = true) :
    Calls Try.prog 3 #[.int .i64 t] w fun e w' => e = .returned (.bool true) ∧ Below w.heap.size w w' := by
  have h1 : 0 ≤ t % 1440 := by omega
  have h2 : t % 1440 < 1440 := by omega
  go_enter Try.func3, Try.ntmps3
  go_wp2_with (first
    | (go_at_call 7; refine (split_prog _ _ h).mono ?_; rintro e w1 ⟨rfl, rfl⟩)
    | (go_at_call 8; refine (split_ref _ _ h).mono ?_; rintro e w1 ⟨rfl, rfl⟩)
    | (go_at_call 9; refine (awake_any _).mono ?_; rintro e w2 ⟨rfl, hb⟩))
  go_ret
  exact ⟨rfl, hb⟩

end Go.Proofs.Ytiggchlgiapdkaa
