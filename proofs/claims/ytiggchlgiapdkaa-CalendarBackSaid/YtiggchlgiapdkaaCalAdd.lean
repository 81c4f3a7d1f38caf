/-
  The contracts of both AddMonths.
-/
import Derived.Test.YtiggchlgiapdkaaCalProg2
import Derived.StillTailTactics
namespace Go.Proofs.Ytiggchlgiapdkaa
open Go.ChangeShapes Go.WideShapes Go.ChangeAt Go.RowKit

theorem box2_cell {w w1 : World} {xs ys : Array Value} {T U : TypeId} (hb : Below ((w.alloc (.cells xs T)).alloc (.cells ys U)).heap.size ((w.alloc (.cells xs T)).alloc (.cells ys U)) w1) (o : Nat) : w1.cell? ⟨w.heap.size, o, none⟩ = xs[o]? ∧ w1.cell? ⟨w.heap.size + 1, o, none⟩ = ys[o]? := by
  constructor
  · rw [hb.cell (p := ⟨w.heap.size, o, none⟩) (by simp; omega)]; simp
  · rw [hb.cell (p := ⟨w.heap.size + 1, o, none⟩) (by simp)]; simp
theorem box2_free {w w1 : World} {xs ys : Array Value} {T U : TypeId} (hb : Below ((w.alloc (.cells xs T)).alloc (.cells ys U)).heap.size ((w.alloc (.cells xs T)).alloc (.cells ys U)) w1) (o : Nat) : w1.frozen? ⟨w.heap.size, o, none⟩ = false ∧ w1.frozen? ⟨w.heap.size + 1, o, none⟩ = false := by
  constructor
  · rw [hb.frozen (p := ⟨w.heap.size, o, none⟩) (by simp; omega)]; simp
  · rw [hb.frozen (p := ⟨w.heap.size + 1, o, none⟩) (by simp)]; simp
theorem box2_size {w w1 : World} {o u : Obj} (hb : Below ((w.alloc o).alloc u).heap.size ((w.alloc o).alloc u) w1) : w.heap.size + 1 < w1.heap.size := by have := hb.size; simp at this; omega
theorem below3 {w w1 : World} {o u : Obj} (h : Below ((w.alloc o).alloc u).heap.size ((w.alloc o).alloc u) w1) : Below w.heap.size w w1 :=
  (((Below.refl _ _).alloc (Nat.le_refl _) o).alloc (by simp) u).trans (h.mono (by simp; omega))

/-- May the months be added? -/
def addB (y m d n : Int) : Bool := Cal.vldB y m d && decide (-1300 ≤ n ∧ n ≤ 1300) && decide (1999 ≤ (12 * y + m - 1 + n) / 12 ∧ (12 * y + m - 1 + n) / 12 ≤ 2100)

set_option maxHeartbeats 2000000 in
theorem add_prog_no (y m d n : Int) (w : World) (h : addB y m d n = false) :
    Calls Try.prog 18 #[.agg #[.int .i64 y, .int .i64 m, .int .i64 d], .int .i64 n] w fun e w' => e = .returned (.tuple #[.agg #[.int .i64 0, .int .i64 0, .int .i64 0], .int .i64 5]) ∧ Below w.heap.size w w' := by
  cases hv : Cal.vldB y m d
  · have V := Lib.hid hv
    clear hv h
    go_enter Try.func18, Try.ntmps18
    go_wp2_with (go_at_call 21; refine (valid_no _ _ _ _ V.out).mono ?_; rintro e w1 ⟨rfl, hb⟩; have hz := box2_size hb; obtain ⟨-, c0⟩ := box2_cell hb 0; obtain ⟨-, c1⟩ := box2_cell hb 1; obtain ⟨-, c2⟩ := box2_cell hb 2; obtain ⟨-, f0⟩ := box2_free hb 0; obtain ⟨-, f1⟩ := box2_free hb 1; obtain ⟨-, f2⟩ := box2_free hb 2; simp at c0 c1 c2)
    exact bodyPost_ret (v := .tuple #[.agg #[.int .i64 0, .int .i64 0, .int .i64 0], .int .i64 5]) (by simp [results, Try.results18, go_sem, c0, c1, c2]) rfl ⟨rfl, (((below3 hb).setCell (Nat.le_succ _) _).setCell (Nat.le_succ _) _).setCell (Nat.le_succ _) _⟩
  · have V := Lib.hid hv
    obtain ⟨a1, a2, a3, a4, a5, a6⟩ := (Cal.vld_iff y m d).1 hv
    have hd := Cal.dim_bd y m
    have hc : n < -1300 ∨ 1300 < n ∨ ((-1300 ≤ n ∧ n ≤ 1300) ∧ (y * 12 + m - 1 + n) / 12 < 1999) ∨ ((-1300 ≤ n ∧ n ≤ 1300) ∧ 2100 < (y * 12 + m - 1 + n) / 12) := by
      simp [addB, hv] at h; have e : 12 * y + m - 1 + n = y * 12 + m - 1 + n := by omega
      rw [e] at h; omega
    clear hv h
    rcases hc with hc | hc | ⟨⟨hc, hc'⟩, hc2⟩ | ⟨⟨hc, hc'⟩, hc2⟩
    all_goals
      go_enter Try.func18, Try.ntmps18
      go_wp2_with (go_at_call 21; refine (valid_yes _ _ _ _ V.out).mono ?_; rintro e w1 ⟨rfl, hb⟩; have hz := box2_size hb; obtain ⟨b0, c0⟩ := box2_cell hb 0; obtain ⟨b1, c1⟩ := box2_cell hb 1; obtain ⟨b2, c2⟩ := box2_cell hb 2; obtain ⟨-, f0⟩ := box2_free hb 0; obtain ⟨-, f1⟩ := box2_free hb 1; obtain ⟨-, f2⟩ := box2_free hb 2; simp at c0 c1 c2 b0 b1 b2)
      exact bodyPost_ret (v := .tuple #[.agg #[.int .i64 0, .int .i64 0, .int .i64 0], .int .i64 5]) (by simp [results, Try.results18, go_sem, c0, c1, c2]) rfl ⟨rfl, (((below3 hb).setCell (Nat.le_succ _) _).setCell (Nat.le_succ _) _).setCell (Nat.le_succ _) _⟩

/-- The added date. -/
def amY (y m n : Int) : Int := (y * 12 + m - 1 + n) / 12
def amM (y m n : Int) : Int := (y * 12 + m - 1 + n) % 12 + 1
def amD (y m d n : Int) : Int := if Cal.dim (amY y m n) (amM y m n) < d then Cal.dim (amY y m n) (amM y m n) else d

set_option maxHeartbeats 2000000 in
theorem add_prog (y m d n : Int) (w : World) (h : addB y m d n = true) :
    Calls Try.prog 18 #[.agg #[.int .i64 y, .int .i64 m, .int .i64 d], .int .i64 n] w fun e w' => e = .returned (.tuple #[.agg #[.int .i64 (amY y m n), .int .i64 (amM y m n), .int .i64 (amD y m d n)], .int .i64 0]) ∧ Below w.heap.size w w' := by
  have hv : Cal.vldB y m d = true := by simp [addB] at h; exact h.1.1
  have V := Lib.hid hv
  obtain ⟨a1, a2, a3, a4, a5, a6⟩ := (Cal.vld_iff y m d).1 hv
  have hd := Cal.dim_bd y m
  have hc : -1300 ≤ n ∧ n ≤ 1300 ∧ 1999 ≤ (y * 12 + m - 1 + n) / 12 ∧ (y * 12 + m - 1 + n) / 12 ≤ 2100 := by
    simp [addB, hv] at h; have e : 12 * y + m - 1 + n = y * 12 + m - 1 + n := by omega
    rw [e] at h; omega
  clear hv h
  obtain ⟨hc1, hc2, hc3, hc4⟩ := hc
  go_enter Try.func18, Try.ntmps18
  go_wp2_with (go_at_call 21; refine (valid_yes _ _ _ _ V.out).mono ?_; rintro e w1 ⟨rfl, hb⟩; have hz := box2_size hb; obtain ⟨b0, c0⟩ := box2_cell hb 0; obtain ⟨b1, c1⟩ := box2_cell hb 1; obtain ⟨b2, c2⟩ := box2_cell hb 2; obtain ⟨-, f0⟩ := box2_free hb 0; obtain ⟨-, f1⟩ := box2_free hb 1; obtain ⟨-, f2⟩ := box2_free hb 2; simp at c0 c1 c2 b0 b1 b2)
  have hm1 : 1 ≤ (y * 12 + m - 1 + n) % 12 + 1 := by omega
  have hm2 : (y * 12 + m - 1 + n) % 12 + 1 ≤ 12 := by omega
  have hS : ∀ w2 : World, Below w1.drew.heap.size w1.drew w2 → w2.cell? ⟨w.heap.size, 2, none⟩ = some (.int .i64 d) ∧ Below (w.heap.size + 1) w1 w2 ∧ w2.cell? ⟨w.heap.size + 1, 0, none⟩ = some (.int .i64 0) ∧ w2.cell? ⟨w.heap.size + 1, 1, none⟩ = some (.int .i64 0) ∧ w2.cell? ⟨w.heap.size + 1, 2, none⟩ = some (.int .i64 0) ∧
      w2.frozen? ⟨w.heap.size + 1, 0, none⟩ = false ∧ w2.frozen? ⟨w.heap.size + 1, 1, none⟩ = false ∧ w2.frozen? ⟨w.heap.size + 1, 2, none⟩ = false := by
    intro w2 hbm
    have k1 : w.heap.size < w1.drew.heap.size := by simp; omega
    have k2 : w.heap.size + 1 < w1.drew.heap.size := by simp; omega
    refine ⟨?_, (Below.refl _ _).drew.trans (hbm.mono (by simp; omega)), ?_, ?_, ?_, ?_, ?_, ?_⟩
    · rw [hbm.cell (p := ⟨w.heap.size, 2, none⟩) k1]; simpa using b2
    · rw [hbm.cell (p := ⟨w.heap.size + 1, 0, none⟩) k2]; simpa using c0
    · rw [hbm.cell (p := ⟨w.heap.size + 1, 1, none⟩) k2]; simpa using c1
    · rw [hbm.cell (p := ⟨w.heap.size + 1, 2, none⟩) k2]; simpa using c2
    · rw [hbm.frozen (p := ⟨w.heap.size + 1, 0, none⟩) k2]; simpa using f0
    · rw [hbm.frozen (p := ⟨w.heap.size + 1, 1, none⟩) k2]; simpa using f1
    · rw [hbm.frozen (p := ⟨w.heap.size + 1, 2, none⟩) k2]; simpa using f2
  have HS := Lib.hid hS
  clear hS
  go_region_held3 (fun w' => w'.cell? ⟨w.heap.size, 2, none⟩ = some (.int .i64 d))
    (first | go_keep | exact (HS.out _ hbm).1 | (simp; exact (HS.out _ hbm).1))
    (first | (go_at_call 23; refine (mdays _ _ _ hc3 hc4 hm1 hm2).mono ?_; rintro e w2 ⟨rfl, hbm⟩; obtain ⟨-, B2, g0, g1, g2, i0, i1, i2⟩ := HS.out _ hbm))
  go_wp2
  all_goals
    have hB : Below w.heap.size w w2 := (below3 hb).trans (B2.mono (by omega))
    clear HS hbm
    exact bodyPost_ret (v := .tuple #[.agg #[.int .i64 (amY y m n), .int .i64 (amM y m n), .int .i64 (amD y m d n)], .int .i64 0]) (by simp [results, Try.results18, go_sem, g0, g1, g2, amY, amM]; unfold amD amY amM; first | (rw [if_pos (by omega)]) | (rw [if_neg (by omega)])) rfl ⟨rfl, ((hB.setCell (Nat.le_succ _) _).setCell (Nat.le_succ _) _).setCell (Nat.le_succ _) _⟩

set_option maxHeartbeats 2000000 in
theorem add_ref_late (y m d n : Int) (w : World) (hv : Cal.vldB y m d = true) (a1 : 1999 ≤ y) (a2 : y ≤ 2100) (a3 : 1 ≤ m) (a4 : m ≤ 12) (hc : -1300 ≤ n) (hc' : n ≤ 1300) (hc2 : ¬ (1999 ≤ (12 * y + m - 1 + n) / 12 ∧ (12 * y + m - 1 + n) / 12 ≤ 2100)) :
    Calls Try.prog 19 #[.agg #[.int .i64 y, .int .i64 m, .int .i64 d], .int .i64 n] w fun e w' => e = .returned (.tuple #[.agg #[.int .i64 0, .int .i64 0, .int .i64 0], .int .i64 5]) ∧ Below w.heap.size w w' := by
  have V := Lib.hid hv
  clear hv
  have Hc := Lib.hid hc2
  clear hc2
  go_enter Try.func19, Try.ntmps19
  go_wp2_with (go_at_call 24; refine (isdate_yes _ _ _ _ V.out).mono ?_; rintro e w1 ⟨rfl, hb⟩; have hz := box2_size hb; obtain ⟨b0, c0⟩ := box2_cell hb 0; obtain ⟨b1, c1⟩ := box2_cell hb 1; obtain ⟨b2, c2⟩ := box2_cell hb 2; obtain ⟨-, f0⟩ := box2_free hb 0; obtain ⟨-, f1⟩ := box2_free hb 1; obtain ⟨-, f2⟩ := box2_free hb 2; simp at c0 c1 c2 b0 b1 b2)
  have hM1 : 0 ≤ 12 * y + m - 1 + n := by omega
  have hM2 : 12 * y + m - 1 + n ≤ 100000 := by omega
  generalize 12 * y + m - 1 + n = M at *
  have hwf : (Lit.int .i64 M).wf = true := WalkArith.wf_i64 (by omega)
  have k1 : IntKind.i64.wrap (12 * (M / 12)) = 12 * (M / 12) := IntWalk.i64_in _ (by omega)
  have k2 : IntKind.i64.wrap (M - 12 * (M / 12)) = M - 12 * (M / 12) := IntWalk.i64_in _ (by omega)
  have k3 : IntKind.i64.wrap (M - 12 * (M / 12) + 1) = M - 12 * (M / 12) + 1 := IntWalk.i64_in _ (by omega)
  go_region_held3 (fun w' => w'.cell? ⟨w.heap.size, 2, none⟩ = some (.int .i64 d)) (go_keep)
    (first | (go_at_call 20; refine (floor_pos _ _ _ hwf (by omega) hM1).mono ?_; rintro e w2 ⟨rfl, rfl⟩))
  all_goals
    clear k1 k2 k3
    have hc3 : ¬ (1999 ≤ M / 12 ∧ M / 12 ≤ 2100 ∧ 1 ≤ M - 12 * (M / 12) + 1 ∧ M - 12 * (M / 12) + 1 ≤ 12) := by have := Hc.out; omega
    have H3 := Lib.hid hc3
    clear hc3
    go_wp2_with (go_at_call 17; refine (dim_ref_no _ _ _ H3.out).mono ?_; rintro e w2 ⟨rfl, rfl⟩)
    have hne : ¬ (w.heap.size + 1 = w1.heap.size) := by omega
    exact bodyPost_ret (v := .tuple #[.agg #[.int .i64 0, .int .i64 0, .int .i64 0], .int .i64 5]) (by simp [results, Try.results19, go_sem, c0, c1, c2, hz, hne]) rfl ⟨rfl, (by repeat (first | exact below3 hb | refine Below.drew ?_ | refine Below.setCell ?_ (by simp; try omega) _ | refine Below.alloc ?_ (by simp; omega) _))⟩

set_option maxHeartbeats 2000000 in
theorem add_ref_no (y m d n : Int) (w : World) (h : addB y m d n = false) :
    Calls Try.prog 19 #[.agg #[.int .i64 y, .int .i64 m, .int .i64 d], .int .i64 n] w fun e w' => e = .returned (.tuple #[.agg #[.int .i64 0, .int .i64 0, .int .i64 0], .int .i64 5]) ∧ Below w.heap.size w w' := by
  cases hv : Cal.vldB y m d
  · have V := Lib.hid hv
    clear hv h
    go_enter Try.func19, Try.ntmps19
    go_wp2_with (go_at_call 24; refine (isdate_no _ _ _ _ V.out).mono ?_; rintro e w1 ⟨rfl, hb⟩; have hz := box2_size hb; obtain ⟨-, c0⟩ := box2_cell hb 0; obtain ⟨-, c1⟩ := box2_cell hb 1; obtain ⟨-, c2⟩ := box2_cell hb 2; obtain ⟨-, f0⟩ := box2_free hb 0; obtain ⟨-, f1⟩ := box2_free hb 1; obtain ⟨-, f2⟩ := box2_free hb 2; simp at c0 c1 c2)
    exact bodyPost_ret (v := .tuple #[.agg #[.int .i64 0, .int .i64 0, .int .i64 0], .int .i64 5]) (by simp [results, Try.results19, go_sem, c0, c1, c2]) rfl ⟨rfl, (((below3 hb).setCell (Nat.le_succ _) _).setCell (Nat.le_succ _) _).setCell (Nat.le_succ _) _⟩
  · have V := Lib.hid hv
    obtain ⟨a1, a2, a3, a4, a5, a6⟩ := (Cal.vld_iff y m d).1 hv
    have hd := Cal.dim_bd y m
    have hc : n < -1300 ∨ 1300 < n ∨ ((-1300 ≤ n ∧ n ≤ 1300) ∧ ¬ (1999 ≤ (12 * y + m - 1 + n) / 12 ∧ (12 * y + m - 1 + n) / 12 ≤ 2100 ∧ 1 ≤ 12 * y + m - 1 + n - 12 * ((12 * y + m - 1 + n) / 12) + 1 ∧ 12 * y + m - 1 + n - 12 * ((12 * y + m - 1 + n) / 12) + 1 ≤ 12)) := by
      simp [addB, hv] at h; omega
    clear hv h
    rcases hc with hc | hc | ⟨⟨hc, hc'⟩, hc2⟩
    · go_enter Try.func19, Try.ntmps19
      go_wp2_with (go_at_call 24; refine (isdate_yes _ _ _ _ V.out).mono ?_; rintro e w1 ⟨rfl, hb⟩; have hz := box2_size hb; obtain ⟨b0, c0⟩ := box2_cell hb 0; obtain ⟨b1, c1⟩ := box2_cell hb 1; obtain ⟨b2, c2⟩ := box2_cell hb 2; obtain ⟨-, f0⟩ := box2_free hb 0; obtain ⟨-, f1⟩ := box2_free hb 1; obtain ⟨-, f2⟩ := box2_free hb 2; simp at c0 c1 c2 b0 b1 b2)
      exact bodyPost_ret (v := .tuple #[.agg #[.int .i64 0, .int .i64 0, .int .i64 0], .int .i64 5]) (by simp [results, Try.results19, go_sem, c0, c1, c2]) rfl ⟨rfl, (((below3 hb).setCell (Nat.le_succ _) _).setCell (Nat.le_succ _) _).setCell (Nat.le_succ _) _⟩
    · go_enter Try.func19, Try.ntmps19
      go_wp2_with (go_at_call 24; refine (isdate_yes _ _ _ _ V.out).mono ?_; rintro e w1 ⟨rfl, hb⟩; have hz := box2_size hb; obtain ⟨b0, c0⟩ := box2_cell hb 0; obtain ⟨b1, c1⟩ := box2_cell hb 1; obtain ⟨b2, c2⟩ := box2_cell hb 2; obtain ⟨-, f0⟩ := box2_free hb 0; obtain ⟨-, f1⟩ := box2_free hb 1; obtain ⟨-, f2⟩ := box2_free hb 2; simp at c0 c1 c2 b0 b1 b2)
      exact bodyPost_ret (v := .tuple #[.agg #[.int .i64 0, .int .i64 0, .int .i64 0], .int .i64 5]) (by simp [results, Try.results19, go_sem, c0, c1, c2]) rfl ⟨rfl, (((below3 hb).setCell (Nat.le_succ _) _).setCell (Nat.le_succ _) _).setCell (Nat.le_succ _) _⟩
    · exact add_ref_late y m d n w V.out a1 a2 a3 a4 hc hc' (by omega)

set_option maxHeartbeats 2000000 in
theorem add_ref (y m d n : Int) (w : World) (h : addB y m d n = true) :
    Calls Try.prog 19 #[.agg #[.int .i64 y, .int .i64 m, .int .i64 d], .int .i64 n] w fun e w' => e = .returned (.tuple #[.agg #[.int .i64 (amY y m n), .int .i64 (amM y m n), .int .i64 (amD y m d n)], .int .i64 0]) ∧ Below w.heap.size w w' := by
  have hv : Cal.vldB y m d = true := by simp [addB] at h; exact h.1.1
  have V := Lib.hid hv
  obtain ⟨a1, a2, a3, a4, a5, a6⟩ := (Cal.vld_iff y m d).1 hv
  have hd := Cal.dim_bd y m
  have hc : -1300 ≤ n ∧ n ≤ 1300 ∧ 1999 ≤ (12 * y + m - 1 + n) / 12 ∧ (12 * y + m - 1 + n) / 12 ≤ 2100 := by
    simp [addB, hv] at h; omega
  clear hv h
  obtain ⟨hc1, hc2, hc3, hc4⟩ := hc
  have E : Hid (12 * y + m - 1 + n = y * 12 + m - 1 + n) := by unfold Hid; omega
  have A1 : Hid (amY y m n = (12 * y + m - 1 + n) / 12) := by unfold Hid amY; rw [E.out]
  have A2 : Hid (amM y m n = 12 * y + m - 1 + n - 12 * ((12 * y + m - 1 + n) / 12) + 1) := by unfold Hid amM; rw [← E.out]; omega
  have A3 : Hid (amD y m d n = if Cal.dim ((12 * y + m - 1 + n) / 12) (12 * y + m - 1 + n - 12 * ((12 * y + m - 1 + n) / 12) + 1) < d then Cal.dim ((12 * y + m - 1 + n) / 12) (12 * y + m - 1 + n - 12 * ((12 * y + m - 1 + n) / 12) + 1) else d) := by
    unfold Hid amD; rw [A1.out, A2.out]
  clear E
  go_enter Try.func19, Try.ntmps19
  go_wp2_with (go_at_call 24; refine (isdate_yes _ _ _ _ V.out).mono ?_; rintro e w1 ⟨rfl, hb⟩; have hz := box2_size hb; obtain ⟨b0, c0⟩ := box2_cell hb 0; obtain ⟨b1, c1⟩ := box2_cell hb 1; obtain ⟨b2, c2⟩ := box2_cell hb 2; obtain ⟨-, f0⟩ := box2_free hb 0; obtain ⟨-, f1⟩ := box2_free hb 1; obtain ⟨-, f2⟩ := box2_free hb 2; simp at c0 c1 c2 b0 b1 b2)
  have hM1 : 0 ≤ 12 * y + m - 1 + n := by omega
  have hM2 : 12 * y + m - 1 + n ≤ 100000 := by omega
  generalize 12 * y + m - 1 + n = M at *
  have hwf : (Lit.int .i64 M).wf = true := WalkArith.wf_i64 (by omega)
  have k1 : IntKind.i64.wrap (12 * (M / 12)) = 12 * (M / 12) := IntWalk.i64_in _ (by omega)
  have k2 : IntKind.i64.wrap (M - 12 * (M / 12)) = M - 12 * (M / 12) := IntWalk.i64_in _ (by omega)
  have k3 : IntKind.i64.wrap (M - 12 * (M / 12) + 1) = M - 12 * (M / 12) + 1 := IntWalk.i64_in _ (by omega)
  go_region_held3 (fun w' => w'.cell? ⟨w.heap.size, 2, none⟩ = some (.int .i64 d)) (go_keep)
    (first | (go_at_call 20; refine (floor_pos _ _ _ hwf (by omega) hM1).mono ?_; rintro e w2 ⟨rfl, rfl⟩))
  all_goals
    clear k1 k2 k3
    have q1 : 1 ≤ M - 12 * (M / 12) + 1 := by omega
    have q2 : M - 12 * (M / 12) + 1 ≤ 12 := by omega
    generalize M - 12 * (M / 12) + 1 = mm at *
    generalize M / 12 = yy at *
    by_cases hD : Cal.dim yy mm < d
    all_goals
      go_wp2_with (go_at_call 17; refine (dim_ref _ _ _ hc3 hc4 q1 q2).mono ?_; rintro e w2 ⟨rfl, rfl⟩)
      have hne : ¬ (w.heap.size + 1 = w1.heap.size) := by omega
      refine bodyPost_ret (v := .tuple #[.agg #[.int .i64 (amY y m n), .int .i64 (amM y m n), .int .i64 (amD y m d n)], .int .i64 0]) ?_ rfl ⟨rfl, (by repeat (first | exact below3 hb | refine Below.drew ?_ | refine Below.setCell ?_ (by simp; try omega) _ | refine Below.alloc ?_ (by simp; omega) _))⟩
      rw [A1.out, A2.out, A3.out]
      first | rw [if_pos hD] | rw [if_neg (by omega)]
      simp [results, Try.results19, go_sem, c0, c1, c2, hz, hne]

end Go.Proofs.Ytiggchlgiapdkaa
