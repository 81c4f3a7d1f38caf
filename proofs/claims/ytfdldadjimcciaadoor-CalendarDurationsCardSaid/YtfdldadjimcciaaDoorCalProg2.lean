/-
  The contracts of the program's DateOf, and of the law's own awake.
-/
import Derived.Test.YtfdldadjimcciaaDoorCalProg
namespace Go.Proofs.YtfdldadjimcciaaDoor
set_option linter.unusedVariables false
set_option linter.unusedSimpArgs false
open Go.ChangeShapes Go.WideShapes Go.ChangeAt Go.RowKit

set_option maxHeartbeats 1000000 in
theorem dateof_no (n : Int) (w : World) (h : n < -365 ∨ 36889 < n) :
    Calls Tryd.prog 34 #[.int .i64 n] w fun e w' => e = .returned (.tuple #[.agg #[.int .i64 0, .int .i64 0, .int .i64 0], .int .i64 5]) ∧ Below w.heap.size w w' := by
  rcases h with h | h
  all_goals
    go_enter Tryd.func34, Tryd.ntmps34
    go_wp2
    exact bodyPost_ret (v := .tuple #[.agg #[.int .i64 0, .int .i64 0, .int .i64 0], .int .i64 5]) (by simp [results, Tryd.results34, go_sem]) rfl ⟨rfl, (Below.refl _ _).alloc (Nat.le_refl _) _⟩

set_option maxHeartbeats 2000000 in
theorem dateof (n : Int) (w : World) (h0 : -365 ≤ n) (h1 : n ≤ 36889) :
    Calls Tryd.prog 34 #[.int .i64 n] w (DateFound n w) := by
  go_enter Tryd.func34, Tryd.ntmps34
  go_wp2_with fail
  go_loop [4, 5] (fun r t => ∃ y : Int, 1999 ≤ y ∧ y ≤ 2100 ∧ t = .int .i64 y ∧ r = .int .i64 (n + 365 - Cal.dby y) ∧ Cal.dby y ≤ n + 365) (fun _ t => (2101 - intOf t).toNat)
  case atStart => exact ⟨1999, by omega, by omega, rfl, by rw [Cal.dby_first]; go_num, by rw [Cal.dby_first]; omega⟩
  case round =>
    obtain ⟨y, hy1, hy2, rfl, rfl, hy3⟩ := hrel
    have yb := Cal.dby_bd y hy1 hy2
    have lb1 : 0 ≤ Cal.lp y ∧ Cal.lp y ≤ 1 := by have := Cal.lp_cases y; omega
    by_cases hr : 365 + Cal.lp y ≤ n + 365 - Cal.dby y
    · have hlt : y < 2100 := by
        by_cases e : y = 2100
        · subst e; rw [Cal.dby_last, show Cal.lp 2100 = 0 from by decide] at hr; omega
        · omega
      have ys := Lib.hid (Cal.dby_succ y hy1 hlt)
      go_wp2_with (go_at_call 47; refine (ydays _ _ hy1 hy2).mono ?_; rintro e w' ⟨rfl, rfl⟩)
      go_round
      case rel => exact ⟨y + 1, by omega, by omega, rfl, by rw [ys.out]; go_num, by rw [ys.out]; omega⟩
      case measure => simp [intOf]; omega
    · go_wp2_with (go_at_call 47; refine (ydays _ _ hy1 hy2).mono ?_; rintro e w' ⟨rfl, rfl⟩)
      go_loopw [4, 6] (fun r t wr => ∃ m : Int, 1 ≤ m ∧ m ≤ 12 ∧ t = .int .i64 m ∧ r = .int .i64 (n + 365 - Cal.dby y - Cal.cum y m) ∧ Cal.cum y m ≤ n + 365 - Cal.dby y ∧ Below (w.alloc (.cells #[.int .i64 0, .int .i64 0, .int .i64 0] 23)).heap.size (w.alloc (.cells #[.int .i64 0, .int .i64 0, .int .i64 0] 23)) wr) (fun _ t _ => (13 - intOf t).toNat)
      case atStart => exact ⟨1, by omega, by omega, rfl, by simp [Cal.cum], by simp [Cal.cum]; omega, Below.refl _ _⟩
      case round =>
        obtain ⟨m, hm1, hm, rfl, rfl, hm3, hbr⟩ := hrel
        have cb := Cal.cum_bd y m hm1 hm
        have db := Cal.dim_bd y m
        have hz := box_size hbr
        by_cases hlt : Cal.dim y m ≤ n + 365 - Cal.dby y - Cal.cum y m
        · have cs := Lib.hid (Cal.cum_succ y m hm1 hm)
          have hm12 : m ≤ 11 := by
            by_cases e : m = 12
            · subst e
              have c1 := Cal.cum_succ y 12 (by omega) (by omega)
              have c13 := Cal.cum_13 y
              have e13 : (12 : Int) + 1 = 13 := rfl
              rw [e13] at c1
              omega
            · omega
          go_wp2_with (go_at_call 44; refine (mdays _ _ _ hy1 hy2 hm1 hm).mono ?_; rintro e w2 ⟨rfl, hb2⟩; replace hbr := hbr.trans (hb2.mono hbr.size); clear hb2)
          go_roundw
          case rel => exact ⟨m + 1, by omega, by omega, rfl, by rw [cs.out]; go_num, by rw [cs.out]; omega, hbr⟩
          case measure => simp [intOf]; omega
        · go_wp2_with (go_at_call 44; refine (mdays _ _ _ hy1 hy2 hm1 hm).mono ?_; rintro e w2 ⟨rfl, hb2⟩; have hb3 := hbr.trans (hb2.mono hbr.size); have c0 := box_cell hb3 0; have c1 := box_cell hb3 1; have c2 := box_cell hb3 2; have f0 := box_free hb3 0; have f1 := box_free hb3 1; have f2 := box_free hb3 2; simp at c0 c1 c2)
          refine bodyPost_ret (v := .tuple #[.agg #[.int .i64 y, .int .i64 m, .int .i64 (n + 365 - Cal.dby y - Cal.cum y m + 1)], .int .i64 0]) (by simp [results, Tryd.results34, go_sem, c0, c1, c2]) rfl ⟨y, m, n + 365 - Cal.dby y - Cal.cum y m + 1, rfl, ?_, ?_, (((below2 hb3).setCell (Nat.le_refl _) _).setCell (Nat.le_refl _) _).setCell (Nat.le_refl _) _⟩
          · rw [Cal.vld_iff]; omega
          · unfold Cal.num; omega

set_option maxHeartbeats 1000000 in
theorem awake_any (w : World) :
    Calls Tryd.prog 14 #[] w fun e w' => e = .returned (.bool true) ∧ Below w.heap.size w w' := by
  have hv : Hid (Cal.vldB 2000 3 1 = true) := by unfold Hid; decide
  have hn : Hid (Cal.num 2000 3 1 = 60) := by unfold Hid; decide
  have hw : Hid (Cal.wday 60 = 2) := by unfold Hid; decide
  go_enter Tryd.func14, Tryd.ntmps14
  go_wp2_with (first
    | (go_at_call 30; refine (daynum _ _ _ _ hv.out).mono ?_; rw [hn.out]; rintro e w1 ⟨rfl, hb⟩)
    | (go_at_call 31; refine (wday_prog _ _ (by decide)).mono ?_; rw [hw.out]; rintro e w2 ⟨rfl, rfl⟩))
  go_ret
  exact ⟨rfl, hb⟩

end Go.Proofs.YtfdldadjimcciaaDoor
