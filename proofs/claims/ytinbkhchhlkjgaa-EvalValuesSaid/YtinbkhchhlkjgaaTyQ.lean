/-
  The contracts of the program's comparison and result.
-/
import Derived.Test.YtinbkhchhlkjgaaTyP
namespace Go.Proofs.Ytinbkhchhlkjgaa
set_option linter.unusedVariables false
set_option linter.unusedSimpArgs false
open Go.ChangeShapes Go.WideShapes Go.ChangeAt Go.RowKit

theorem ints_two {w : World} {v : Value} {L : List Int} (h : IntsAt w v L) (h2 : 2 ≤ L.length) : ∃ g cap : Nat, v = .slice (some ⟨g, 0, none⟩) L.length cap ∧ w.cell? ⟨g, 0, none⟩ = some (.int .i64 (L.getD 0 0)) ∧ w.cell? ⟨g, 1, none⟩ = some (.int .i64 (L.getD 1 0)) := by
  rcases h with ⟨rfl, -⟩ | ⟨g, cap, h1, hc⟩
  · simp at h2
  · refine ⟨g, cap, h1, hc 0 _ ?_, hc 1 _ ?_⟩
    · rw [List.getD_eq_getElem?_getD, List.getElem?_eq_getElem (by omega)]; rfl
    · rw [List.getD_eq_getElem?_getD, List.getElem?_eq_getElem (by omega)]; rfl
theorem ints_one {w : World} {v : Value} {L : List Int} (h : IntsAt w v L) (h2 : 1 ≤ L.length) : ∃ g cap : Nat, v = .slice (some ⟨g, 0, none⟩) L.length cap ∧ w.cell? ⟨g, 0, none⟩ = some (.int .i64 (L.getD 0 0)) := by
  rcases h with ⟨rfl, -⟩ | ⟨g, cap, h1, hc⟩
  · simp at h2
  · refine ⟨g, cap, h1, hc 0 _ ?_⟩
    rw [List.getD_eq_getElem?_getD, List.getElem?_eq_getElem (by omega)]; rfl
theorem ints_three {w : World} {v : Value} {L : List Int} (h : IntsAt w v L) (h2 : 3 ≤ L.length) : ∃ g cap : Nat, v = .slice (some ⟨g, 0, none⟩) L.length cap ∧ w.cell? ⟨g, 0, none⟩ = some (.int .i64 (L.getD 0 0)) ∧ w.cell? ⟨g, 1, none⟩ = some (.int .i64 (L.getD 1 0)) ∧ w.cell? ⟨g, 2, none⟩ = some (.int .i64 (L.getD 2 0)) := by
  rcases h with ⟨rfl, -⟩ | ⟨g, cap, h1, hc⟩
  · simp at h2
  · refine ⟨g, cap, h1, hc 0 _ ?_, hc 1 _ ?_, hc 2 _ ?_⟩
    · rw [List.getD_eq_getElem?_getD, List.getElem?_eq_getElem (by omega)]; rfl
    · rw [List.getD_eq_getElem?_getD, List.getElem?_eq_getElem (by omega)]; rfl
    · rw [List.getD_eq_getElem?_getD, List.getElem?_eq_getElem (by omega)]; rfl

set_option maxHeartbeats 2000000 in
set_option maxRecDepth 100000 in
theorem comparison_any (op : Int) (v : Value) (L : List Int) (w : World) (hv : IntsAt w v L) (hL : L.length ≤ 9223372036854775807) (h2 : op = 16 ∨ op = 17 ∨ op = 18 → 2 ≤ L.length) :
    Calls Try.prog 120 #[.int .i64 op, v] w fun e w' => e = .returned (.bool (cmpB op L)) ∧ Below w.heap.size w w' := by
  by_cases q15 : op = 15
  · have R : Hid (cmpB op L = allI L 3) := by unfold Hid cmpB; rw [if_pos q15]
    have b15 : (op == 15) = true := by simp [q15]
    clear q15 h2
    go_enter Try.func120, Try.ntmps120
    go_wp2_with (go_at_call 118; refine (all_any _ _ _ _ hv hL).mono ?_; rw [← R.out]; rintro e w' ⟨rfl, rfl⟩)
    go_ret
    exact ⟨rfl, Below.refl _ _⟩
  · have b15 : (op == 15) = false := by simp [q15]
    by_cases q16 : op = 16 ∨ op = 17
    · have R : Hid (cmpB op L = (amtB (L.getD 0 0) && (L.getD 0 0 == L.getD 1 0))) := by unfold Hid cmpB; rw [if_neg q15, if_pos q16]
      obtain ⟨g, cap, rfl, c0, c1⟩ := ints_two hv (h2 (by omega))
      have i0 : (0 : Int) < (L.length : Int) := by have := h2 (by omega); omega
      have i1 : (1 : Int) < (L.length : Int) := by have := h2 (by omega); omega
      have C : Hid (∀ w, Calls Try.prog 117 #[.int .i64 (L.getD 0 0)] w fun e w' => e = .returned (.bool (amtB (L.getD 0 0))) ∧ w' = w) := fun w => amount_any _ w
      generalize L.getD 0 0 = x0 at *
      generalize L.getD 1 0 = x1 at *
      clear hv h2 hL
      have bb : (op == 16) = true ∨ ((op == 16) = false ∧ (op == 17) = true) := by
        rcases q16 with q | q
        · exact .inl (by simp [q])
        · exact .inr ⟨by simp [q], by simp [q]⟩
      clear q15 q16
      generalize hA : amtB x0 = am at *
      have HA := Lib.hid hA
      clear hA
      rcases bb with b16 | ⟨b16, b17⟩
      all_goals
        cases am
        · go_enter Try.func120, Try.ntmps120
          go_wp2_with fail
          go_quiet ((go_at_call 117; exact Calls.quiet_of_same (C.out _)))
          go_wp2
          go_ret
          exact ⟨ret_bool (by rw [R.out]; rfl), below_drewN (Below.refl _ _) _⟩
        · go_enter Try.func120, Try.ntmps120
          go_wp2_with fail
          go_quiet ((go_at_call 117; exact Calls.quiet_of_same (C.out _)))
          go_wp2
          go_ret
          exact ⟨ret_bool (by rw [R.out]; rfl), below_drewN (Below.refl _ _) _⟩
    · have b16 : (op == 16) = false := by simp; omega
      have b17 : (op == 17) = false := by simp; omega
      by_cases q18 : op = 18
      · have R : Hid (cmpB op L = (L.getD 0 0 == L.getD 1 0)) := by unfold Hid cmpB; rw [if_neg q15, if_neg q16, if_pos q18]
        obtain ⟨g, cap, rfl, c0, c1⟩ := ints_two hv (h2 (by omega))
        have i0 : (0 : Int) < (L.length : Int) := by have := h2 (by omega); omega
        have i1 : (1 : Int) < (L.length : Int) := by have := h2 (by omega); omega
        have b18 : (op == 18) = true := by simp [q18]
        generalize L.getD 0 0 = x0 at *
        generalize L.getD 1 0 = x1 at *
        clear hv h2 hL q15 q16 q18
        go_enter Try.func120, Try.ntmps120
        go_wp2_with fail
        go_quiet (fail)
        go_wp2
        go_ret
        exact ⟨ret_bool (by rw [R.out]), below_drewN (Below.refl _ _) _⟩
      · have R : Hid (cmpB op L = allI L 4) := by unfold Hid cmpB; rw [if_neg q15, if_neg q16, if_neg q18]
        have b18 : (op == 18) = false := by simp [q18]
        clear q15 q16 q18 h2
        go_enter Try.func120, Try.ntmps120
        go_wp2_with (go_at_call 118; refine (all_any _ _ _ _ hv hL).mono ?_; rw [← R.out]; rintro e w' ⟨rfl, rfl⟩)
        go_ret
        exact ⟨rfl, Below.refl _ _⟩

end Go.Proofs.Ytinbkhchhlkjgaa
