/-
  The contract of the reference's Apply. Printed by wip/mkrap.py.
-/
import Derived.Test.YtfoedbfkddoibaaGreatVok
import Derived.Test.YtfoedbfkddoibaaGreatRsa
import Derived.Test.YtfoedbfkddoibaaGreatGg
namespace Go.Proofs.YtfoedbfkddoibaaGreat
set_option linter.unusedVariables false
set_option linter.unusedSimpArgs false
set_option maxRecDepth 100000
open Go.ChangeShapes Go.WideShapes Go.ChangeAt Go.RowKit

/-- An operator that is no name, on its arguments' values. -/
def apV (op num : Int) (L : List Int) : Int := if op = 1 ∨ op = 2 ∨ op = 3 then num else if op = 4 then 1 else if op = 5 then 0 else opV op L
theorem ev1_ap (nm : ByteArray → Int) (a : Nd) (L : List Int) (h6 : a.op ≠ 6) : ev1 nm a L = apV a.op a.num L := by
  unfold ev1 apV
  rw [if_neg h6]
theorem len1 {L : List Int} (h : L.length = 1) : ∃ x, L = [x] := by
  match L, h with
  | [x], _ => exact ⟨x, rfl⟩
theorem len2 {L : List Int} (h : L.length = 2) : ∃ x y, L = [x, y] := by
  match L, h with
  | [x, y], _ => exact ⟨x, y, rfl⟩
theorem len3 {L : List Int} (h : L.length = 3) : ∃ x y z, L = [x, y, z] := by
  match L, h with
  | [x, y, z], _ => exact ⟨x, y, z, rfl⟩
theorem ints_cons {w : World} {v : Value} {x : Int} {L : List Int} (h : IntsAt w v (x :: L)) : ∃ g cap : Nat, v = .slice (some ⟨g, 0, none⟩) (L.length + 1) cap ∧ ∀ i y, (x :: L)[i]? = some y → w.cell? ⟨g, i, none⟩ = some (.int .i64 y) := by
  rcases h with ⟨h, -⟩ | ⟨g, cap, h1, h2⟩
  · cases h
  · exact ⟨g, cap, h1, h2⟩
def ApC (op num : Int) (v : Value) (L : List Int) (w : World) : Prop := Calls Tryz.prog 88 #[.int .i64 op, .int .i64 num, v] w fun e w' => e = .returned (.int .i64 (apV op num L)) ∧ Below w.heap.size w w'

theorem rap1 (num : Int) (v : Value) (L : List Int) (w : World) : ApC 1 num v L w := by
  unfold ApC
  rw [show apV 1 num L = num from rfl]
  go_enter Tryz.func88, Tryz.ntmps88
  go_wp2
  go_ret
  exact ⟨rfl, Below.refl _ _⟩

theorem rap2 (num : Int) (v : Value) (L : List Int) (w : World) : ApC 2 num v L w := by
  unfold ApC
  rw [show apV 2 num L = num from rfl]
  go_enter Tryz.func88, Tryz.ntmps88
  go_wp2
  go_ret
  exact ⟨rfl, Below.refl _ _⟩

theorem rap3 (num : Int) (v : Value) (L : List Int) (w : World) : ApC 3 num v L w := by
  unfold ApC
  rw [show apV 3 num L = num from rfl]
  go_enter Tryz.func88, Tryz.ntmps88
  go_wp2
  go_ret
  exact ⟨rfl, Below.refl _ _⟩

theorem rap4 (num : Int) (v : Value) (L : List Int) (w : World) : ApC 4 num v L w := by
  unfold ApC
  rw [show apV 4 num L = 1 from rfl]
  go_enter Tryz.func88, Tryz.ntmps88
  go_wp2
  go_ret
  exact ⟨rfl, Below.refl _ _⟩

theorem rap5 (num : Int) (v : Value) (L : List Int) (w : World) : ApC 5 num v L w := by
  unfold ApC
  rw [show apV 5 num L = 0 from rfl]
  go_enter Tryz.func88, Tryz.ntmps88
  go_wp2
  go_ret
  exact ⟨rfl, Below.refl _ _⟩

theorem rap7 (num x : Int) (v : Value) (w : World) (hv : IntsAt w v [x]) : ApC 7 num v [x] w := by
  unfold ApC
  obtain ⟨nb, hnb⟩ : ∃ nb, IntKind.i64.wrap (-x) = nb := ⟨_, rfl⟩
  have HN : Hid (i64B nb) := by unfold Hid; rw [← hnb]; exact wrap_i64B _
  rw [show apV 7 num [x] = addV 0 (IntKind.i64.wrap (-x)) from rfl, hnb]
  obtain ⟨g, cap, rfl, hc⟩ := ints_cons hv
  have k0 := hc 0 x rfl
  clear hc hv
  go_enter Tryz.func88, Tryz.ntmps88
  go_wp2_with (go_at_call 130; refine (radd_any 0 nb _ (by unfold i64B; decide) HN.out).mono ?_; rintro e w' ⟨rfl, rfl⟩)
  go_ret
  exact ⟨rfl, Below.refl _ _⟩
theorem rap19 (num x : Int) (v : Value) (w : World) (hv : IntsAt w v [x]) : ApC 19 num v [x] w := by
  unfold ApC
  obtain ⟨nb, hnb⟩ : ∃ nb, IntKind.i64.wrap (1 - x) = nb := ⟨_, rfl⟩
  rw [show apV 19 num [x] = IntKind.i64.wrap (1 - x) from rfl, hnb]
  obtain ⟨g, cap, rfl, hc⟩ := ints_cons hv
  have k0 := hc 0 x rfl
  clear hc hv
  go_enter Tryz.func88, Tryz.ntmps88
  go_wp2
  go_ret
  exact ⟨rfl, Below.refl _ _⟩

set_option maxHeartbeats 1000000 in
theorem rap8 (num x y : Int) (v : Value) (w : World) (hv : IntsAt w v [x, y]) (hx : i64B x) (hy : i64B y) : ApC 8 num v [x, y] w := by
  unfold ApC
  have HX := Lib.hid hx
  have HY := Lib.hid hy
  obtain ⟨g, cap, rfl, hc⟩ := ints_cons hv
  have k0 := hc 0 x rfl
  have k1 := hc 1 y rfl
  clear hc hv hx hy
  rw [show apV 8 num [x, y] = addV x y from rfl]
  have Q : Hid (∀ dq os, Calls Tryz.prog 130 #[.int .i64 x, .int .i64 y] (Sort.grow (redrawn w dq) os) fun e w'' => e = .returned (.int .i64 (addV x y)) ∧ ∃ p : Regrown, w'' = Sort.grow (redrawn w p.d) p.os) := fun dq os => Calls.regrown_of ((radd_any x y _ HX.out HY.out).mono fun e w' h => ⟨h.1, by rw [← h.2]; exact Below.refl _ _⟩)
  have e0 := fun d os => cell_regrown k0 d os
  have e1 := fun d os => cell_regrown k1 d os
  generalize addV x y = R at *
  go_enter Tryz.func88, Tryz.ntmps88
  go_upto_region 13 with (fail)
  refine wp_region_quiet_below (by kernel_rfl) (by kernel_rfl) ?_
  repeat (quiet_step (with_reducible exact Q.out _ _))
  refine wpQuiet_nil ?_
  intro _ hw'
  obtain ⟨⟨dq, osq⟩, hw''⟩ := hw'
  subst hw''
  go_wp2
  go_ret
  exact ⟨rfl, below_regrown w dq osq⟩

set_option maxHeartbeats 1000000 in
theorem rap10 (num x y : Int) (v : Value) (w : World) (hv : IntsAt w v [x, y]) (hx : i64B x) (hy : i64B y) : ApC 10 num v [x, y] w := by
  unfold ApC
  have HX := Lib.hid hx
  have HY := Lib.hid hy
  obtain ⟨g, cap, rfl, hc⟩ := ints_cons hv
  have k0 := hc 0 x rfl
  have k1 := hc 1 y rfl
  clear hc hv hx hy
  rw [show apV 10 num [x, y] = mulV x y from rfl]
  have Q : Hid (∀ dq os, Calls Tryz.prog 131 #[.int .i64 x, .int .i64 y] (Sort.grow (redrawn w dq) os) fun e w'' => e = .returned (.int .i64 (mulV x y)) ∧ ∃ p : Regrown, w'' = Sort.grow (redrawn w p.d) p.os) := fun dq os => Calls.regrown_of ((rmul_any x y _ HX.out HY.out).mono fun e w' h => ⟨h.1, by rw [← h.2]; exact Below.refl _ _⟩)
  have e0 := fun d os => cell_regrown k0 d os
  have e1 := fun d os => cell_regrown k1 d os
  generalize mulV x y = R at *
  go_enter Tryz.func88, Tryz.ntmps88
  go_upto_region 17 with (fail)
  refine wp_region_quiet_below (by kernel_rfl) (by kernel_rfl) ?_
  repeat (quiet_step (with_reducible exact Q.out _ _))
  refine wpQuiet_nil ?_
  intro _ hw'
  obtain ⟨⟨dq, osq⟩, hw''⟩ := hw'
  subst hw''
  go_wp2
  go_ret
  exact ⟨rfl, below_regrown w dq osq⟩

set_option maxHeartbeats 1000000 in
theorem rap11 (num x y : Int) (v : Value) (w : World) (hv : IntsAt w v [x, y]) (hx : i64B x) (hy : i64B y) : ApC 11 num v [x, y] w := by
  unfold ApC
  have HX := Lib.hid hx
  have HY := Lib.hid hy
  obtain ⟨g, cap, rfl, hc⟩ := ints_cons hv
  have k0 := hc 0 x rfl
  have k1 := hc 1 y rfl
  clear hc hv hx hy
  rw [show apV 11 num [x, y] = divV x y from rfl]
  have Q : Hid (∀ dq os, Calls Tryz.prog 132 #[.int .i64 x, .int .i64 y] (Sort.grow (redrawn w dq) os) fun e w'' => e = .returned (.int .i64 (divV x y)) ∧ ∃ p : Regrown, w'' = Sort.grow (redrawn w p.d) p.os) := fun dq os => Calls.regrown_of ((rdiv_any x y _ HX.out HY.out).mono fun e w' h => ⟨h.1, by rw [← h.2]; exact Below.refl _ _⟩)
  have e0 := fun d os => cell_regrown k0 d os
  have e1 := fun d os => cell_regrown k1 d os
  generalize divV x y = R at *
  go_enter Tryz.func88, Tryz.ntmps88
  go_upto_region 19 with (fail)
  refine wp_region_quiet_below (by kernel_rfl) (by kernel_rfl) ?_
  repeat (quiet_step (with_reducible exact Q.out _ _))
  refine wpQuiet_nil ?_
  intro _ hw'
  obtain ⟨⟨dq, osq⟩, hw''⟩ := hw'
  subst hw''
  go_wp2
  go_ret
  exact ⟨rfl, below_regrown w dq osq⟩

set_option maxHeartbeats 1000000 in
theorem rap9 (num x y : Int) (v : Value) (w : World) (hv : IntsAt w v [x, y]) (hx : i64B x) (hy : i64B y) : ApC 9 num v [x, y] w := by
  unfold ApC
  have HX := Lib.hid hx
  have HY := Lib.hid hy
  obtain ⟨g, cap, rfl, hc⟩ := ints_cons hv
  have k0 := hc 0 x rfl
  have k1 := hc 1 y rfl
  clear hc hv hx hy
  obtain ⟨nb, hnb⟩ : ∃ nb, IntKind.i64.wrap (-y) = nb := ⟨_, rfl⟩
  have HN : Hid (i64B nb) := by unfold Hid; rw [← hnb]; exact wrap_i64B _
  rw [show apV 9 num [x, y] = addV x (IntKind.i64.wrap (-y)) from rfl, hnb]
  have Q : Hid (∀ dq os, Calls Tryz.prog 130 #[.int .i64 x, .int .i64 nb] (Sort.grow (redrawn w dq) os) fun e w'' => e = .returned (.int .i64 (addV x nb)) ∧ ∃ p : Regrown, w'' = Sort.grow (redrawn w p.d) p.os) := fun dq os => Calls.regrown_of ((radd_any x nb _ HX.out HN.out).mono fun e w' h => ⟨h.1, by rw [← h.2]; exact Below.refl _ _⟩)
  have e0 := fun d os => cell_regrown k0 d os
  have e1 := fun d os => cell_regrown k1 d os
  generalize addV x nb = R at *
  go_enter Tryz.func88, Tryz.ntmps88
  go_upto_region 15 with (fail)
  refine wp_region_quiet_below (by kernel_rfl) (by kernel_rfl) ?_
  repeat (quiet_step (with_reducible exact Q.out _ _))
  refine wpQuiet_nil ?_
  intro _ hw'
  obtain ⟨⟨dq, osq⟩, hw''⟩ := hw'
  subst hw''
  go_wp2
  go_ret
  exact ⟨rfl, below_regrown w dq osq⟩

set_option maxHeartbeats 1000000 in
theorem rap16 (num x y : Int) (v : Value) (w : World) (hv : IntsAt w v [x, y]) : ApC 16 num v [x, y] w := by
  unfold ApC
  obtain ⟨g, cap, rfl, hc⟩ := ints_cons hv
  have k0 := hc 0 x rfl
  have k1 := hc 1 y rfl
  clear hc hv
  rw [show apV 16 num [x, y] = flagI (decide (x < y)) from rfl]
  have Q : Hid (∀ bb dq os, Calls Tryz.prog 133 #[.bool bb] (Sort.grow (redrawn w dq) os) fun e w'' => e = .returned (.int .i64 (flagI bb)) ∧ ∃ p : Regrown, w'' = Sort.grow (redrawn w p.d) p.os) := fun bb dq os => Calls.regrown_of ((rflag_any bb _).mono fun e w' h => ⟨h.1, by rw [← h.2]; exact Below.refl _ _⟩)
  have e0 := fun d os => cell_regrown k0 d os
  have e1 := fun d os => cell_regrown k1 d os
  go_enter Tryz.func88, Tryz.ntmps88
  go_upto_region 36 with (fail)
  refine wp_region_quiet_below (by kernel_rfl) (by kernel_rfl) ?_
  repeat (quiet_step (with_reducible exact Q.out _ _ _))
  refine wpQuiet_nil ?_
  intro _ hw'
  obtain ⟨⟨dq, osq⟩, hw''⟩ := hw'
  subst hw''
  go_wp2
  go_ret
  exact ⟨rfl, below_regrown w dq osq⟩

set_option maxHeartbeats 1000000 in
theorem rap17 (num x y : Int) (v : Value) (w : World) (hv : IntsAt w v [x, y]) : ApC 17 num v [x, y] w := by
  unfold ApC
  obtain ⟨g, cap, rfl, hc⟩ := ints_cons hv
  have k0 := hc 0 x rfl
  have k1 := hc 1 y rfl
  clear hc hv
  rw [show apV 17 num [x, y] = flagI (decide (x ≤ y)) from rfl]
  have Q : Hid (∀ bb dq os, Calls Tryz.prog 133 #[.bool bb] (Sort.grow (redrawn w dq) os) fun e w'' => e = .returned (.int .i64 (flagI bb)) ∧ ∃ p : Regrown, w'' = Sort.grow (redrawn w p.d) p.os) := fun bb dq os => Calls.regrown_of ((rflag_any bb _).mono fun e w' h => ⟨h.1, by rw [← h.2]; exact Below.refl _ _⟩)
  have e0 := fun d os => cell_regrown k0 d os
  have e1 := fun d os => cell_regrown k1 d os
  go_enter Tryz.func88, Tryz.ntmps88
  go_upto_region 38 with (fail)
  refine wp_region_quiet_below (by kernel_rfl) (by kernel_rfl) ?_
  repeat (quiet_step (with_reducible exact Q.out _ _ _))
  refine wpQuiet_nil ?_
  intro _ hw'
  obtain ⟨⟨dq, osq⟩, hw''⟩ := hw'
  subst hw''
  go_wp2
  go_ret
  exact ⟨rfl, below_regrown w dq osq⟩

set_option maxHeartbeats 1000000 in
theorem rap18 (num x y : Int) (v : Value) (w : World) (hv : IntsAt w v [x, y]) : ApC 18 num v [x, y] w := by
  unfold ApC
  obtain ⟨g, cap, rfl, hc⟩ := ints_cons hv
  have k0 := hc 0 x rfl
  have k1 := hc 1 y rfl
  clear hc hv
  rw [show apV 18 num [x, y] = flagI (decide (x = y)) from rfl]
  have Q : Hid (∀ bb dq os, Calls Tryz.prog 133 #[.bool bb] (Sort.grow (redrawn w dq) os) fun e w'' => e = .returned (.int .i64 (flagI bb)) ∧ ∃ p : Regrown, w'' = Sort.grow (redrawn w p.d) p.os) := fun bb dq os => Calls.regrown_of ((rflag_any bb _).mono fun e w' h => ⟨h.1, by rw [← h.2]; exact Below.refl _ _⟩)
  have e0 := fun d os => cell_regrown k0 d os
  have e1 := fun d os => cell_regrown k1 d os
  go_enter Tryz.func88, Tryz.ntmps88
  go_upto_region 40 with (fail)
  refine wp_region_quiet_below (by kernel_rfl) (by kernel_rfl) ?_
  repeat (quiet_step (with_reducible exact Q.out _ _ _))
  refine wpQuiet_nil ?_
  intro _ hw'
  obtain ⟨⟨dq, osq⟩, hw''⟩ := hw'
  subst hw''
  go_wp2
  go_ret
  exact ⟨rfl, below_regrown w dq osq⟩

set_option maxHeartbeats 1000000 in
theorem rap15 (num x y z : Int) (v : Value) (w : World) (hv : IntsAt w v [x, y, z]) : ApC 15 num v [x, y, z] w := by
  unfold ApC
  obtain ⟨g, cap, rfl, hc⟩ := ints_cons hv
  have k0 := hc 0 x rfl
  have k1 := hc 1 y rfl
  have k2 := hc 2 z rfl
  clear hc hv
  rw [show apV 15 num [x, y, z] = flagI (bandB x y z) from rfl]
  have Q : Hid (∀ bb dq os, Calls Tryz.prog 133 #[.bool bb] (Sort.grow (redrawn w dq) os) fun e w'' => e = .returned (.int .i64 (flagI bb)) ∧ ∃ p : Regrown, w'' = Sort.grow (redrawn w p.d) p.os) := fun bb dq os => Calls.regrown_of ((rflag_any bb _).mono fun e w' h => ⟨h.1, by rw [← h.2]; exact Below.refl _ _⟩)
  have Q1 : Hid (∀ dq os, Calls Tryz.prog 134 #[.int .i64 x, .int .i64 y, .int .i64 z] (Sort.grow (redrawn w dq) os) fun e w'' => e = .returned (.bool (bandB x y z)) ∧ ∃ p : Regrown, w'' = Sort.grow (redrawn w p.d) p.os) := fun dq os => Calls.regrown_of ((rband_any x y z _).mono fun e w' h => ⟨h.1, by rw [← h.2]; exact Below.refl _ _⟩)
  generalize bandB x y z = bb at *
  have e0 := fun d os => cell_regrown k0 d os
  have e1 := fun d os => cell_regrown k1 d os
  have e2 := fun d os => cell_regrown k2 d os
  go_enter Tryz.func88, Tryz.ntmps88
  go_upto_region 34 with (fail)
  refine wp_region_quiet_below (by kernel_rfl) (by kernel_rfl) ?_
  repeat (quiet_step (with_reducible first | exact Q.out _ _ _ | exact Q1.out _ _))
  refine wpQuiet_nil ?_
  intro _ hw'
  obtain ⟨⟨dq, osq⟩, hw''⟩ := hw'
  subst hw''
  go_wp2
  go_ret
  exact ⟨rfl, below_regrown w dq osq⟩
theorem rap14 (num x y z : Int) (v : Value) (w : World) (hv : IntsAt w v [x, y, z]) (hx : x = 0 ∨ x = 1) : ApC 14 num v [x, y, z] w := by
  unfold ApC
  obtain ⟨g, cap, rfl, hc⟩ := ints_cons hv
  have k0 := hc 0 x rfl
  have k1 := hc 1 y rfl
  have k2 := hc 2 z rfl
  clear hc hv
  rcases hx with rfl | rfl
  · rw [show apV 14 num [0, y, z] = z from rfl]
    go_enter Tryz.func88, Tryz.ntmps88
    go_wp2
    go_ret
    exact ⟨rfl, Below.refl _ _⟩
  · rw [show apV 14 num [1, y, z] = y from rfl]
    go_enter Tryz.func88, Tryz.ntmps88
    go_wp2
    go_ret
    exact ⟨rfl, Below.refl _ _⟩

set_option maxHeartbeats 1000000 in
theorem rap20 (num x y : Int) (v : Value) (w : World) (hv : IntsAt w v [x, y]) (hx : x = 0 ∨ x = 1) (hy : y = 0 ∨ y = 1) : ApC 20 num v [x, y] w := by
  unfold ApC
  obtain ⟨g, cap, rfl, hc⟩ := ints_cons hv
  have k0 := hc 0 x rfl
  have k1 := hc 1 y rfl
  clear hc hv
  have Bd : Hid (Below w.heap.size w w.drew) := (Below.refl _ _).drew
  rcases hx with rfl | rfl <;> rcases hy with rfl | rfl
  · rw [show apV 20 num [0, 0] = opV 20 [0, 0] from rfl, show opV 20 [0, 0] = 0 by decide]
    go_enter Tryz.func88, Tryz.ntmps88
    go_upto_region 44 with (fail)
    go_region
    all_goals (go_wp2; go_ret; exact ⟨rfl, Bd.out⟩)
  · rw [show apV 20 num [0, 1] = opV 20 [0, 1] from rfl, show opV 20 [0, 1] = 0 by decide]
    go_enter Tryz.func88, Tryz.ntmps88
    go_upto_region 44 with (fail)
    go_region
    all_goals (go_wp2; go_ret; exact ⟨rfl, Bd.out⟩)
  · rw [show apV 20 num [1, 0] = opV 20 [1, 0] from rfl, show opV 20 [1, 0] = 0 by decide]
    go_enter Tryz.func88, Tryz.ntmps88
    go_upto_region 44 with (fail)
    go_region
    all_goals (go_wp2; go_ret; exact ⟨rfl, Bd.out⟩)
  · rw [show apV 20 num [1, 1] = opV 20 [1, 1] from rfl, show opV 20 [1, 1] = 1 by decide]
    go_enter Tryz.func88, Tryz.ntmps88
    go_upto_region 44 with (fail)
    go_region
    all_goals (go_wp2; go_ret; exact ⟨rfl, Bd.out⟩)

set_option maxHeartbeats 1000000 in
theorem rap21 (num x y : Int) (v : Value) (w : World) (hv : IntsAt w v [x, y]) (hx : x = 0 ∨ x = 1) (hy : y = 0 ∨ y = 1) : ApC 21 num v [x, y] w := by
  unfold ApC
  obtain ⟨g, cap, rfl, hc⟩ := ints_cons hv
  have k0 := hc 0 x rfl
  have k1 := hc 1 y rfl
  clear hc hv
  have Bd : Hid (Below w.heap.size w w.drew) := (Below.refl _ _).drew
  rcases hx with rfl | rfl <;> rcases hy with rfl | rfl
  · rw [show apV 21 num [0, 0] = opV 21 [0, 0] from rfl, show opV 21 [0, 0] = 0 by decide]
    go_enter Tryz.func88, Tryz.ntmps88
    go_upto_region 46 with (fail)
    go_region
    all_goals (go_wp2; go_ret; exact ⟨rfl, Bd.out⟩)
  · rw [show apV 21 num [0, 1] = opV 21 [0, 1] from rfl, show opV 21 [0, 1] = 1 by decide]
    go_enter Tryz.func88, Tryz.ntmps88
    go_upto_region 46 with (fail)
    go_region
    all_goals (go_wp2; go_ret; exact ⟨rfl, Bd.out⟩)
  · rw [show apV 21 num [1, 0] = opV 21 [1, 0] from rfl, show opV 21 [1, 0] = 1 by decide]
    go_enter Tryz.func88, Tryz.ntmps88
    go_upto_region 46 with (fail)
    go_region
    all_goals (go_wp2; go_ret; exact ⟨rfl, Bd.out⟩)
  · rw [show apV 21 num [1, 1] = opV 21 [1, 1] from rfl, show opV 21 [1, 1] = 1 by decide]
    go_enter Tryz.func88, Tryz.ntmps88
    go_upto_region 46 with (fail)
    go_region
    all_goals (go_wp2; go_ret; exact ⟨rfl, Bd.out⟩)

set_option maxHeartbeats 1000000 in
theorem rap22 (num x y : Int) (v : Value) (w : World) (hv : IntsAt w v [x, y]) (hx : x = 0 ∨ x = 1) (hy : y = 0 ∨ y = 1) : ApC 22 num v [x, y] w := by
  unfold ApC
  obtain ⟨g, cap, rfl, hc⟩ := ints_cons hv
  have k0 := hc 0 x rfl
  have k1 := hc 1 y rfl
  clear hc hv
  have Bd : Hid (Below w.heap.size w w.drew) := (Below.refl _ _).drew
  rcases hx with rfl | rfl <;> rcases hy with rfl | rfl
  · rw [show apV 22 num [0, 0] = opV 22 [0, 0] from rfl, show opV 22 [0, 0] = 1 by decide]
    go_enter Tryz.func88, Tryz.ntmps88
    go_upto_region 47 with (fail)
    go_region
    all_goals (go_wp2; go_ret; exact ⟨rfl, Bd.out⟩)
  · rw [show apV 22 num [0, 1] = opV 22 [0, 1] from rfl, show opV 22 [0, 1] = 1 by decide]
    go_enter Tryz.func88, Tryz.ntmps88
    go_upto_region 47 with (fail)
    go_region
    all_goals (go_wp2; go_ret; exact ⟨rfl, Bd.out⟩)
  · rw [show apV 22 num [1, 0] = opV 22 [1, 0] from rfl, show opV 22 [1, 0] = 0 by decide]
    go_enter Tryz.func88, Tryz.ntmps88
    go_upto_region 47 with (fail)
    go_region
    all_goals (go_wp2; go_ret; exact ⟨rfl, Bd.out⟩)
  · rw [show apV 22 num [1, 1] = opV 22 [1, 1] from rfl, show opV 22 [1, 1] = 1 by decide]
    go_enter Tryz.func88, Tryz.ntmps88
    go_upto_region 47 with (fail)
    go_region
    all_goals (go_wp2; go_ret; exact ⟨rfl, Bd.out⟩)

set_option maxHeartbeats 2000000 in
theorem rap12 (num x : Int) (L : List Int) (v : Value) (w : World) (hv : IntsAt w v (x :: L)) (hl : L.length + 1 ≤ 9223372036854775807) : ApC 12 num v (x :: L) w := by
  unfold ApC
  obtain ⟨g, cap, rfl, hc⟩ := ints_cons hv
  have k0 := hc 0 x rfl
  have HC := Lib.hid hc
  clear hc hv
  obtain ⟨R, hR⟩ : ∃ R, R = apV 12 num (x :: L) := ⟨_, rfl⟩
  rw [← hR]
  have HR : Hid (minL x L = R) := hR.symm
  clear hR
  go_enter Tryz.func88, Tryz.ntmps88
  go_wp2_with fail
  go_loop [7, 8] (fun m i => ∃ (j : Nat) (acc : Int), j ≤ L.length ∧ i = .int .i64 ((j : Int) + 1) ∧ m = .int .i64 acc ∧ Hid (minL acc (L.drop j) = R)) (fun _ i => L.length + 1 - (intOf i).toNat)
  case atStart => exact ⟨0, x, by omega, rfl, rfl, HR.out⟩
  case round =>
    obtain ⟨j, acc, hj, rfl, rfl, HS⟩ := hrel
    by_cases hlt : j < L.length
    · have kj := HC.out (j + 1) L[j] (by simp)
      have ST : Hid (minL (min acc L[j]) (L.drop (j + 1)) = R) := by
        have h9 := HS.out
        rw [List.drop_eq_getElem_cons hlt] at h9
        exact h9
      generalize L[j] = xj at *
      have hi : (j : Int) + 1 < (L.length : Int) + 1 := by omega
      have hi0 : (0 : Int) ≤ (j : Int) + 1 := by omega
      have kj2 : w.cell? ⟨g, ((j : Int) + 1).toNat, none⟩ = some (.int .i64 xj) := by rw [show ((j : Int) + 1).toNat = j + 1 by omega]; exact kj
      by_cases hq : xj < acc
      · have HQ := Lib.hid hq
        go_wp2
        all_goals (
          go_round
          case rel => exact ⟨j + 1, min acc xj, by omega, by go_num, by first | rfl | (congr 1; have := HQ.out; omega), ST.out⟩
          case measure => simp [intOf]; omega)
      · have HQ := Lib.hid hq
        go_wp2
        all_goals (
          go_round
          case rel => exact ⟨j + 1, min acc xj, by omega, by go_num, by first | rfl | (congr 1; have := HQ.out; omega), ST.out⟩
          case measure => simp [intOf]; omega)
    · have hi : ¬ (j : Int) + 1 < (L.length : Int) + 1 := by omega
      have RZ : Hid (R = acc) := by
        have h9 := HS.out
        rw [List.drop_eq_nil_of_le (by omega)] at h9
        exact h9.symm
      go_wp2
      go_ret
      exact ⟨ret_int RZ.out.symm, Below.refl _ _⟩

set_option maxHeartbeats 2000000 in
theorem rap13 (num x : Int) (L : List Int) (v : Value) (w : World) (hv : IntsAt w v (x :: L)) (hl : L.length + 1 ≤ 9223372036854775807) : ApC 13 num v (x :: L) w := by
  unfold ApC
  obtain ⟨g, cap, rfl, hc⟩ := ints_cons hv
  have k0 := hc 0 x rfl
  have HC := Lib.hid hc
  clear hc hv
  obtain ⟨R, hR⟩ : ∃ R, R = apV 13 num (x :: L) := ⟨_, rfl⟩
  rw [← hR]
  have HR : Hid (maxL x L = R) := hR.symm
  clear hR
  go_enter Tryz.func88, Tryz.ntmps88
  go_wp2_with fail
  go_loop [7, 8] (fun m i => ∃ (j : Nat) (acc : Int), j ≤ L.length ∧ i = .int .i64 ((j : Int) + 1) ∧ m = .int .i64 acc ∧ Hid (maxL acc (L.drop j) = R)) (fun _ i => L.length + 1 - (intOf i).toNat)
  case atStart => exact ⟨0, x, by omega, rfl, rfl, HR.out⟩
  case round =>
    obtain ⟨j, acc, hj, rfl, rfl, HS⟩ := hrel
    by_cases hlt : j < L.length
    · have kj := HC.out (j + 1) L[j] (by simp)
      have ST : Hid (maxL (max acc L[j]) (L.drop (j + 1)) = R) := by
        have h9 := HS.out
        rw [List.drop_eq_getElem_cons hlt] at h9
        exact h9
      generalize L[j] = xj at *
      have hi : (j : Int) + 1 < (L.length : Int) + 1 := by omega
      have hi0 : (0 : Int) ≤ (j : Int) + 1 := by omega
      have kj2 : w.cell? ⟨g, ((j : Int) + 1).toNat, none⟩ = some (.int .i64 xj) := by rw [show ((j : Int) + 1).toNat = j + 1 by omega]; exact kj
      by_cases hq : xj < acc
      · have HQ := Lib.hid hq
        go_wp2
        all_goals (
          go_round
          case rel => exact ⟨j + 1, max acc xj, by omega, by go_num, by first | rfl | (congr 1; have := HQ.out; omega), ST.out⟩
          case measure => simp [intOf]; omega)
      · have HQ := Lib.hid hq
        go_wp2
        all_goals (
          go_round
          case rel => exact ⟨j + 1, max acc xj, by omega, by go_num, by first | rfl | (congr 1; have := HQ.out; omega), ST.out⟩
          case measure => simp [intOf]; omega)
    · have hi : ¬ (j : Int) + 1 < (L.length : Int) + 1 := by omega
      have RZ : Hid (R = acc) := by
        have h9 := HS.out
        rw [List.drop_eq_nil_of_le (by omega)] at h9
        exact h9.symm
      go_wp2
      go_ret
      exact ⟨ret_int RZ.out.symm, Below.refl _ _⟩

/-- Apply, at any operator that is no name. -/
theorem rapply_any (op num : Int) (v : Value) (L : List Int) (w : World) (hv : IntsAt w v L) (hl : L.length ≤ 9223372036854775807) (h1 : 1 ≤ op) (h2 : op ≤ 22) (h6 : op ≠ 6) (ha : argB op L.length = true) (hb : boolArgs op L) (hi : ∀ x ∈ L, i64B x) : ApC op num v L w := by
  have hop : op = 1 ∨ op = 2 ∨ op = 3 ∨ op = 4 ∨ op = 5 ∨ op = 7 ∨ op = 8 ∨ op = 9 ∨ op = 10 ∨ op = 11 ∨ op = 12 ∨ op = 13 ∨ op = 14 ∨ op = 15 ∨ op = 16 ∨ op = 17 ∨ op = 18 ∨ op = 19 ∨ op = 20 ∨ op = 21 ∨ op = 22 := by omega
  obtain ⟨b14, b19, b20⟩ := hb
  rcases hop with e | e | e | e | e | e | e | e | e | e | e | e | e | e | e | e | e | e | e | e | e <;> subst e
  · exact rap1 num v L w
  · exact rap2 num v L w
  · exact rap3 num v L w
  · exact rap4 num v L w
  · exact rap5 num v L w
  · obtain ⟨x, rfl⟩ := len1 (L := L) (by simp [argB] at ha; omega)
    exact rap7 num x v w hv
  · obtain ⟨x, y, rfl⟩ := len2 (L := L) (by simp [argB] at ha; omega)
    exact rap8 num x y v w hv (hi x (by simp)) (hi y (by simp))
  · obtain ⟨x, y, rfl⟩ := len2 (L := L) (by simp [argB] at ha; omega)
    exact rap9 num x y v w hv (hi x (by simp)) (hi y (by simp))
  · obtain ⟨x, y, rfl⟩ := len2 (L := L) (by simp [argB] at ha; omega)
    exact rap10 num x y v w hv (hi x (by simp)) (hi y (by simp))
  · obtain ⟨x, y, rfl⟩ := len2 (L := L) (by simp [argB] at ha; omega)
    exact rap11 num x y v w hv (hi x (by simp)) (hi y (by simp))
  · cases L with
    | nil => simp [argB] at ha
    | cons x L => exact rap12 num x L v w hv (by simpa using hl)
  · cases L with
    | nil => simp [argB] at ha
    | cons x L => exact rap13 num x L v w hv (by simpa using hl)
  · obtain ⟨x, y, z, rfl⟩ := len3 (L := L) (by simp [argB] at ha; omega)
    exact rap14 num x y z v w hv (b14 rfl)
  · obtain ⟨x, y, z, rfl⟩ := len3 (L := L) (by simp [argB] at ha; omega)
    exact rap15 num x y z v w hv
  · obtain ⟨x, y, rfl⟩ := len2 (L := L) (by simp [argB] at ha; omega)
    exact rap16 num x y v w hv
  · obtain ⟨x, y, rfl⟩ := len2 (L := L) (by simp [argB] at ha; omega)
    exact rap17 num x y v w hv
  · obtain ⟨x, y, rfl⟩ := len2 (L := L) (by simp [argB] at ha; omega)
    exact rap18 num x y v w hv
  · obtain ⟨x, rfl⟩ := len1 (L := L) (by simp [argB] at ha; omega)
    exact rap19 num x v w hv
  · obtain ⟨x, y, rfl⟩ := len2 (L := L) (by simp [argB] at ha; omega)
    exact rap20 num x y v w hv (b20 (.inl rfl)).1 (b20 (.inl rfl)).2
  · obtain ⟨x, y, rfl⟩ := len2 (L := L) (by simp [argB] at ha; omega)
    exact rap21 num x y v w hv (b20 (.inr (.inl rfl))).1 (b20 (.inr (.inl rfl))).2
  · obtain ⟨x, y, rfl⟩ := len2 (L := L) (by simp [argB] at ha; omega)
    exact rap22 num x y v w hv (b20 (.inr (.inr rfl))).1 (b20 (.inr (.inr rfl))).2

end Go.Proofs.YtfoedbfkddoibaaGreat
