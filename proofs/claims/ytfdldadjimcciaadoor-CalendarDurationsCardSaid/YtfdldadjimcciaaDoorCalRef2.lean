/-
  The contract of the reference's DateOf, Weekday, AddMonths.
-/
import Derived.Test.YtfdldadjimcciaaDoorCalRef
namespace Go.Proofs.YtfdldadjimcciaaDoor
set_option linter.unusedVariables false
set_option linter.unusedSimpArgs false
open Go.ChangeShapes Go.WideShapes Go.ChangeAt Go.RowKit

theorem box_cell {w w1 : World} {xs : Array Value} {T : TypeId} (hb : Below (w.alloc (.cells xs T)).heap.size (w.alloc (.cells xs T)) w1) (o : Nat) : w1.cell? ⟨w.heap.size, o, none⟩ = xs[o]? := by
  rw [hb.cell (p := ⟨w.heap.size, o, none⟩) (by simp)]; simp
theorem box_free {w w1 : World} {xs : Array Value} {T : TypeId} (hb : Below (w.alloc (.cells xs T)).heap.size (w.alloc (.cells xs T)) w1) (o : Nat) : w1.frozen? ⟨w.heap.size, o, none⟩ = false := by
  rw [hb.frozen (p := ⟨w.heap.size, o, none⟩) (by simp)]; simp
theorem box_size {w w1 : World} {o : Obj} (hb : Below (w.alloc o).heap.size (w.alloc o) w1) : w.heap.size < w1.heap.size := by have := hb.size; simp at this; omega

theorem box2_cell {w w1 : World} {xs ys : Array Value} {T U : TypeId} (hb : Below ((w.alloc (.cells xs T)).alloc (.cells ys U)).heap.size ((w.alloc (.cells xs T)).alloc (.cells ys U)) w1) (o : Nat) : w1.cell? ⟨w.heap.size, o, none⟩ = xs[o]? ∧ w1.cell? ⟨w.heap.size + 1, o, none⟩ = ys[o]? := by
  constructor
  · rw [hb.cell (p := ⟨w.heap.size, o, none⟩) (by simp; omega)]; simp
  · rw [hb.cell (p := ⟨w.heap.size + 1, o, none⟩) (by simp)]; simp
theorem box2_free {w w1 : World} {xs ys : Array Value} {T U : TypeId} (hb : Below ((w.alloc (.cells xs T)).alloc (.cells ys U)).heap.size ((w.alloc (.cells xs T)).alloc (.cells ys U)) w1) (o : Nat) : w1.frozen? ⟨w.heap.size, o, none⟩ = false ∧ w1.frozen? ⟨w.heap.size + 1, o, none⟩ = false := by
  constructor
  · rw [hb.frozen (p := ⟨w.heap.size, o, none⟩) (by simp; omega)]; simp
  · rw [hb.frozen (p := ⟨w.heap.size + 1, o, none⟩) (by simp)]; simp
theorem box2_size {w w1 : World} {o u : Obj} (hb : Below ((w.alloc o).alloc u).heap.size ((w.alloc o).alloc u) w1) : w.heap.size + 1 < w1.heap.size := by have := hb.size; simp at this; omega
theorem below3 {w w1 : World} {o u : Obj} (h : Below ((w.alloc o).alloc u).heap.size ((w.alloc o).alloc u) w1) : Below w.heap.size w w1 :=
  (((Below.refl _ _).alloc (Nat.le_refl _) o).alloc (by simp) u).trans (h.mono (by simp; omega))

/-- What DateOf returns for a day of the calendar. -/
def DateFound (n : Int) (w : World) (e : Ending) (w' : World) : Prop :=
  ∃ y m d : Int, e = .returned (.tuple #[.agg #[.int .i64 y, .int .i64 m, .int .i64 d], .int .i64 0]) ∧ Cal.vldB y m d = true ∧ Cal.num y m d = n ∧ Below w.heap.size w w'

theorem last_num : Cal.num 2100 12 31 = 36889 := by decide

set_option maxHeartbeats 1000000 in
theorem dateof_ref_no (n : Int) (w : World) (h : n < -365 ∨ 36889 < n) :
    Calls Tryd.prog 36 #[.int .i64 n] w fun e w' => e = .returned (.tuple #[.agg #[.int .i64 0, .int .i64 0, .int .i64 0], .int .i64 5]) ∧ Below w.heap.size w w' := by
  have L := Lib.hid last_num
  have hv : Hid (Cal.vldB 2100 12 31 = true) := by unfold Hid; decide
  rcases h with h | h
  all_goals
    go_enter Tryd.func36, Tryd.ntmps36
    go_wp2_with (go_at_call 32; refine (daynum_ref _ _ _ _ hv.out).mono ?_; rw [L.out]; rintro e w1 ⟨rfl, hb⟩; have hz := box_size hb; have c0 := box_cell hb 0; have c1 := box_cell hb 1; have c2 := box_cell hb 2; have f0 := box_free hb 0; have f1 := box_free hb 1; have f2 := box_free hb 2; simp at c0 c1 c2)
    exact bodyPost_ret (v := .tuple #[.agg #[.int .i64 0, .int .i64 0, .int .i64 0], .int .i64 5]) (by simp [results, Tryd.results36, go_sem, c0, c1, c2]) rfl ⟨rfl, (((below2 hb).setCell (Nat.le_refl _) _).setCell (Nat.le_refl _) _).setCell (Nat.le_refl _) _⟩

set_option maxHeartbeats 2000000 in
theorem dateof_ref (n : Int) (w : World) (h0 : -365 ≤ n) (h1 : n ≤ 36889) :
    Calls Tryd.prog 36 #[.int .i64 n] w (DateFound n w) := by
  have L := Lib.hid last_num
  have hv : Hid (Cal.vldB 2100 12 31 = true) := by unfold Hid; decide
  go_enter Tryd.func36, Tryd.ntmps36
  go_wp2_with (go_at_call 32; refine (daynum_ref _ _ _ _ hv.out).mono ?_; rw [L.out]; rintro e w1 ⟨rfl, hb⟩)
  have hz := box_size hb
  have c0 := box_cell hb 0
  have c1 := box_cell hb 1
  have c2 := box_cell hb 2
  have f0 := box_free hb 0
  have f1 := box_free hb 1
  have f2 := box_free hb 2
  simp at c0 c1 c2
  go_loop [6, 7, 8, 9, 10] (fun r t _ _ _ => ∃ y : Int, 1999 ≤ y ∧ y ≤ 2100 ∧ t = .int .i64 y ∧ r = .int .i64 (n + 365 - Cal.dby y) ∧ Cal.dby y ≤ n + 365) (fun _ t _ _ _ => (2101 - intOf t).toNat)
  case atStart => exact ⟨1999, by omega, by omega, rfl, by rw [Cal.dby_first]; go_num, by rw [Cal.dby_first]; omega⟩
  case round =>
    obtain ⟨y, hy1, hy2, rfl, rfl, hy3⟩ := hrel
    have yb := Cal.dby_bd y hy1 hy2
    go_wp2_with fail
    go_loop [6, 8, 9, 10] (fun r t _ _ => ∃ m : Int, 1 ≤ m ∧ m ≤ 13 ∧ t = .int .i64 m ∧ r = .int .i64 (n + 365 - Cal.dby y - Cal.cum y m) ∧ Cal.cum y m ≤ n + 365 - Cal.dby y) (fun _ t _ _ => (13 - intOf t).toNat)
    case atStart => exact ⟨1, by omega, by omega, rfl, by simp [Cal.cum], by simp [Cal.cum]; omega⟩
    case round =>
      obtain ⟨m, hm1, hm2, rfl, rfl, hm3⟩ := hrel
      by_cases hm : m ≤ 12
      · have cb := Cal.cum_bd y m hm1 hm
        have db := Cal.dim_bd y m
        by_cases hlt : n + 365 - Cal.dby y - Cal.cum y m < Cal.dim y m
        · go_wp2_with (go_at_call 46; refine (dim_ref _ _ _ hy1 hy2 hm1 hm).mono ?_; rintro e w' ⟨rfl, rfl⟩)
          refine bodyPost_ret (v := .tuple #[.agg #[.int .i64 y, .int .i64 m, .int .i64 (n + 365 - Cal.dby y - Cal.cum y m + 1)], .int .i64 0]) (by simp [results, Tryd.results36, go_sem, c0, c1, c2]) rfl ⟨y, m, n + 365 - Cal.dby y - Cal.cum y m + 1, rfl, ?_, ?_, (((below2 hb).setCell (Nat.le_refl _) _).setCell (Nat.le_refl _) _).setCell (Nat.le_refl _) _⟩
          · rw [Cal.vld_iff]; omega
          · unfold Cal.num; omega
        · have cs := Lib.hid (Cal.cum_succ y m hm1 hm)
          go_wp2_with (go_at_call 46; refine (dim_ref _ _ _ hy1 hy2 hm1 hm).mono ?_; rintro e w' ⟨rfl, rfl⟩)
          go_round
          case rel => exact ⟨m + 1, by omega, by omega, rfl, by rw [cs.out]; go_num, by rw [cs.out]; omega⟩
          case measure => simp [intOf]; omega
      · obtain rfl : m = 13 := by omega
        have c13 := Cal.cum_13 y
        rw [c13] at hm3 ⊢
        have hlt : y < 2100 := by
          by_cases e : y = 2100
          · subst e; rw [Cal.dby_last, show Cal.lp 2100 = 0 from by decide] at hm3; omega
          · omega
        have ys := Lib.hid (Cal.dby_succ y hy1 hlt)
        have lb := Cal.lp_cases y
        clear c13
        have lb1 : 0 ≤ Cal.lp y ∧ Cal.lp y ≤ 1 := by omega
        clear lb
        go_wp2
        go_round
        case rel => exact ⟨y + 1, by omega, by omega, rfl, by rw [ys.out]; go_num, by rw [ys.out]; omega⟩
        case measure => simp [intOf]; omega

end Go.Proofs.YtfdldadjimcciaaDoor
