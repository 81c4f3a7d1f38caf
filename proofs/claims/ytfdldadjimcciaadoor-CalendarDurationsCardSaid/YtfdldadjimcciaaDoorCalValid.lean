/-
  The contract of calendar.valid.
-/
import Derived.Test.YtfdldadjimcciaaDoorCalWalks
namespace Go.Proofs.YtfdldadjimcciaaDoor
set_option linter.unusedVariables false
set_option linter.unusedSimpArgs false
open Go.ChangeShapes Go.WideShapes Go.ChangeAt Go.RowKit

theorem below_alloc_trans {w w1 : World} {o : Obj} (h : Below (w.alloc o).drew.heap.size (w.alloc o).drew w1) : Below w.heap.size w w1 :=
  (((Below.refl _ _).alloc (Nat.le_refl _) o).drew).trans (h.mono (by simp))
theorem below_drewN {B : Nat} {w w1 : World} (h : Below B w w1) (n : Nat) : Below B w (w1.drewN n) := ⟨h.os, h.tape, h.output, h.size, h.block⟩

set_option maxHeartbeats 1000000 in
theorem valid_yes (y m d : Int) (w : World) (h : Cal.vldB y m d = true) :
    Calls Tryd.prog 25 #[.agg #[.int .i64 y, .int .i64 m, .int .i64 d]] w fun e w' => e = .returned (.bool true) ∧ Below w.heap.size w w' := by
  rw [Cal.vld_iff] at h
  obtain ⟨a, b, c, f, g, i⟩ := h
  have hB : ∀ o, Below w.heap.size w (w.alloc o) := fun o => (Below.refl _ _).alloc (Nat.le_refl _) o
  go_enter Tryd.func25, Tryd.ntmps25
  go_wp2_with fail
  go_region_held3 (fun w' => w'.cell? ⟨w.heap.size, 0, none⟩ = some (.int .i64 y) ∧ w'.cell? ⟨w.heap.size, 1, none⟩ = some (.int .i64 m) ∧ w'.cell? ⟨w.heap.size, 2, none⟩ = some (.int .i64 d))
    (first | go_keep | (refine ⟨?_, ?_, ?_⟩ <;> simp [hc1, *]))
    (first | (go_at_call 44; refine (mdays y m _ a b c f).mono ?_; rintro e w1 ⟨rfl, hb⟩; obtain ⟨hc1, hf1⟩ := bcell hb))
  go_wp2
  go_ret
  exact ⟨rfl, below_alloc_trans hb⟩

set_option maxHeartbeats 1000000 in
theorem valid_no (y m d : Int) (w : World) (h : Cal.vldB y m d = false) :
    Calls Tryd.prog 25 #[.agg #[.int .i64 y, .int .i64 m, .int .i64 d]] w fun e w' => e = .returned (.bool false) ∧ Below w.heap.size w w' := by
  rw [Cal.vld_no] at h
  have hB : ∀ o, Below w.heap.size w (w.alloc o) := fun o => (Below.refl _ _).alloc (Nat.le_refl _) o
  by_cases a : 1999 ≤ y
  · by_cases b : y ≤ 2100
    · by_cases c : 1 ≤ m
      · by_cases f : m ≤ 12
        · by_cases g : 1 ≤ d
          · have i : ¬ d ≤ Cal.dim y m := fun i => h ⟨a, b, c, f, g, i⟩
            clear h
            go_enter Tryd.func25, Tryd.ntmps25
            go_wp2_with fail
            go_region_held3 (fun w' => w'.cell? ⟨w.heap.size, 0, none⟩ = some (.int .i64 y) ∧ w'.cell? ⟨w.heap.size, 1, none⟩ = some (.int .i64 m) ∧ w'.cell? ⟨w.heap.size, 2, none⟩ = some (.int .i64 d))
              (first | go_keep | (refine ⟨?_, ?_, ?_⟩ <;> simp [hc1, *]))
              (first | (go_at_call 44; refine (mdays y m _ a b c f).mono ?_; rintro e w1 ⟨rfl, hb⟩; obtain ⟨hc1, hf1⟩ := bcell hb))
            go_wp2
            go_ret
            exact ⟨ret_bool (by simpa using i), below_alloc_trans hb⟩
          · have g' : decide (1 ≤ d) = false := by simpa using g
            clear h
            go_enter Tryd.func25, Tryd.ntmps25
            go_wp2_with fail
            go_quiet (fail)
            go_wp2
            go_ret
            exact ⟨rfl, below_drewN (hB _) _⟩
        · have g' : decide (m ≤ 12) = false := by simpa using f
          clear h
          go_enter Tryd.func25, Tryd.ntmps25
          go_wp2_with fail
          go_quiet (fail)
          go_wp2
          go_ret
          exact ⟨rfl, below_drewN (hB _) _⟩
      · have g' : decide (1 ≤ m) = false := by simpa using c
        clear h
        go_enter Tryd.func25, Tryd.ntmps25
        go_wp2_with fail
        go_quiet (fail)
        go_wp2
        go_ret
        exact ⟨rfl, below_drewN (hB _) _⟩
    · have g' : decide (y ≤ 2100) = false := by simpa using b
      clear h
      go_enter Tryd.func25, Tryd.ntmps25
      go_wp2_with fail
      go_quiet (fail)
      go_wp2
      go_ret
      exact ⟨rfl, below_drewN (hB _) _⟩
  · have g' : decide (1999 ≤ y) = false := by simpa using a
    clear h
    go_enter Tryd.func25, Tryd.ntmps25
    go_wp2_with fail
    go_quiet (fail)
    go_wp2
    go_ret
    exact ⟨rfl, below_drewN (hB _) _⟩

end Go.Proofs.YtfdldadjimcciaaDoor
