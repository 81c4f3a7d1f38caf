/-
  The contracts of the program's dates, and of both weekdays and months.
-/
import Derived.Test.YtfdldadjimcciaaDoorCalRef2
import Derived.Test.YtfdldadjimcciaaDoorCalValid
namespace Go.Proofs.YtfdldadjimcciaaDoor
set_option linter.unusedVariables false
set_option linter.unusedSimpArgs false
open Go.ChangeShapes Go.WideShapes Go.ChangeAt Go.RowKit

theorem tm7 (t : Int) (h : ¬ 0 ≤ t) : -7 < t.tmod 7 ∧ t.tmod 7 ≤ 0 ∧ ((t.tmod 7 = 0 ∧ t % 7 = 0) ∨ (t.tmod 7 < 0 ∧ t % 7 = t.tmod 7 + 7)) := by
  rw [Int.tmod_eq_emod]
  by_cases hd : (7 : Int) ∣ t
  · rw [if_pos (Or.inr hd)]; omega
  · have hn : ¬ (0 ≤ t ∨ (7 : Int) ∣ t) := by intro q; rcases q with q | q <;> contradiction
    rw [if_neg hn]
    have e2 : Int.natAbs 7 = 7 := rfl
    rw [e2]
    omega
theorem tm7b (x : Int) (h1 : -7 < x) (h2 : x ≤ 0) : (x + 5).tmod 7 = if -5 ≤ x then x + 5 else x + 5 := by
  have : x = -6 ∨ x = -5 ∨ x = -4 ∨ x = -3 ∨ x = -2 ∨ x = -1 ∨ x = 0 := by omega
  rcases this with rfl | rfl | rfl | rfl | rfl | rfl | rfl <;> decide

set_option maxHeartbeats 1000000 in
theorem wday_prog (n : Int) (w : World) (h : (Lit.int .i64 n).wf = true) :
    Calls Tryd.prog 31 #[.int .i64 n] w fun e w' => e = .returned (.int .i64 (Cal.wday n)) ∧ w = w' := by
  have hb := Go.bounds_i64 h
  by_cases h0 : 0 ≤ n
  · go_enter Tryd.func31, Tryd.ntmps31
    go_wp2
    go_ret
    exact ⟨ret_int (by unfold Cal.wday; omega), rfl⟩
  · obtain ⟨a, b, c⟩ := tm7 n h0
    have C := Lib.hid c
    clear c
    go_enter Tryd.func31, Tryd.ntmps31
    go_wp2
    go_ret
    exact ⟨ret_int (by have := C.out; unfold Cal.wday; omega), rfl⟩

set_option maxHeartbeats 1000000 in
theorem daynum_no (y m d : Int) (w : World) (h : Cal.vldB y m d = false) :
    Calls Tryd.prog 30 #[.agg #[.int .i64 y, .int .i64 m, .int .i64 d]] w fun e w' => e = .returned (.tuple #[.int .i64 0, .int .i64 5]) ∧ Below w.heap.size w w' := by
  go_enter Tryd.func30, Tryd.ntmps30
  go_wp2_with (go_at_call 25; refine (valid_no _ _ _ _ h).mono ?_; rintro e w1 ⟨rfl, hb⟩)
  go_ret2
  exact ⟨rfl, below2 hb⟩

set_option maxHeartbeats 1000000 in
theorem daynum (y m d : Int) (w : World) (h : Cal.vldB y m d = true) :
    Calls Tryd.prog 30 #[.agg #[.int .i64 y, .int .i64 m, .int .i64 d]] w fun e w' => e = .returned (.tuple #[.int .i64 (Cal.num y m d), .int .i64 0]) ∧ Below w.heap.size w w' := by
  have hv := (Cal.vld_iff y m d).1 h
  obtain ⟨a1, a2, a3, a4, a5, a6⟩ := hv
  have hd := Cal.dim_bd y m
  have hdb := Cal.dby_bd y a1 a2
  have hcb := Cal.cum_bd y m a3 a4
  have H := Lib.hid h
  clear h
  go_enter Tryd.func30, Tryd.ntmps30
  go_wp2_with (go_at_call 25; refine (valid_yes _ _ _ _ H.out).mono ?_; rintro e w1 ⟨rfl, hb⟩)
  have c0 := box_cell hb 0
  have c1 := box_cell hb 1
  have c2 := box_cell hb 2
  simp at c0 c1 c2
  go_loop [4, 5] (fun n t => ∃ k : Int, 1999 ≤ k ∧ k ≤ y ∧ t = .int .i64 k ∧ n = .int .i64 (-365 + Cal.dby k)) (fun _ t => (y - intOf t).toNat)
  case atStart => exact ⟨1999, by omega, by omega, rfl, by rw [Cal.dby_first]; rfl⟩
  case round =>
    obtain ⟨k, hk1, hk2, rfl, rfl⟩ := hrel
    have kb := Cal.dby_bd k hk1 (by omega)
    by_cases hlt : k < y
    · have ks := Lib.hid (Cal.dby_succ k hk1 (by omega))
      have lb := Cal.lp_cases k
      have lb1 : 0 ≤ Cal.lp k ∧ Cal.lp k ≤ 1 := by omega
      clear lb
      go_wp2_with (go_at_call 47; refine (ydays _ _ (by omega) (by omega)).mono ?_; rintro e w' ⟨rfl, rfl⟩)
      go_round
      case rel => exact ⟨k + 1, by omega, by omega, rfl, by rw [ks.out]; go_num⟩
      case measure => simp [intOf]; omega
    · obtain rfl : k = y := by omega
      go_wp2_with fail
      go_loopw [4, 6] (fun n t wr => ∃ j : Int, 1 ≤ j ∧ j ≤ m ∧ t = .int .i64 j ∧ n = .int .i64 (-365 + Cal.dby k + Cal.cum k j) ∧ Below w1.heap.size w1 wr) (fun _ t _ => (m - intOf t).toNat)
      case atStart => exact ⟨1, by omega, by omega, rfl, by simp [Cal.cum], Below.refl _ _⟩
      case round =>
        obtain ⟨j, hj1, hj2, rfl, rfl, hbr⟩ := hrel
        have hz := box_size hb
        have d0 : wr.cell? ⟨w.heap.size, 0, none⟩ = some (.int .i64 k) := by rw [hbr.cell (p := ⟨w.heap.size, 0, none⟩) hz]; exact c0
        have d1 : wr.cell? ⟨w.heap.size, 1, none⟩ = some (.int .i64 m) := by rw [hbr.cell (p := ⟨w.heap.size, 1, none⟩) hz]; exact c1
        have d2 : wr.cell? ⟨w.heap.size, 2, none⟩ = some (.int .i64 d) := by rw [hbr.cell (p := ⟨w.heap.size, 2, none⟩) hz]; exact c2
        have jb := Cal.cum_bd k j hj1 (by omega)
        have db := Cal.dim_bd k j
        by_cases hlt2 : j < m
        · have js := Lib.hid (Cal.cum_succ k j hj1 (by omega))
          go_wp2_with (go_at_call 44; refine (mdays _ _ _ (by omega) (by omega) (by omega) (by omega)).mono ?_; rintro e w2 ⟨rfl, hb2⟩)
          go_roundw
          case rel => exact ⟨j + 1, by omega, by omega, rfl, by rw [js.out]; go_num, hbr.trans (hb2.mono hbr.size)⟩
          case measure => simp [intOf]; omega
        · obtain rfl : j = m := by omega
          go_wp2
          go_ret2
          exact ⟨ret_int2 (by unfold Cal.num; omega) rfl, (below2 hb).trans (hbr.mono (by omega))⟩

end Go.Proofs.YtfdldadjimcciaaDoor
