/-
  The contract of fold.neutral, at fold.isZero and at fold.isOne.
-/
import Derived.Test.YtfoedbfkddoibaaTrG
namespace Go.Proofs.Ytfoedbfkddoibaa
set_option linter.unusedVariables false
set_option linter.unusedSimpArgs false
open Go.ChangeShapes Go.WideShapes Go.ChangeAt Go.RowKit
open Go.Deep (BT)

set_option maxHeartbeats 4000000 in
theorem neutz_any (Av : Nat → Prop) (op : Int) (both : Bool) (b o cap b1 o1 : Nat) (a1 : Nd) (k1 : Fo) (b2 o2 : Nat) (a2 : Nd) (k2 : Fo) (w : World) (hx : FoAt w (.node b1 o1 a1 k1 (.node b2 o2 a2 k2 .nil)) b o) (ha : FoAv Av (.node b1 o1 a1 k1 (.node b2 o2 a2 k2 .nil)) b) :
    Calls Try.prog 68 #[.agg #[.int .i64 op, .int .i64 0, .string ⟨#[]⟩, .slice (some ⟨b, o, none⟩) 2 cap], .func (.func 69) #[] #[], .bool both] w (ReP w Av (neutE op zeroB both [ec ⟨b1, o1, a1, k1⟩, ec ⟨b2, o2, a2, k2⟩])) := by
  obtain ⟨⟨c0, c1, c2, c3⟩, hp1, hk1, ⟨d0, d1', d2', d3'⟩, hp2, hk2, -⟩ := hx
  have XX := Lib.hid (show FoAt w (.node b1 o1 a1 k1 (.node b2 o2 a2 k2 .nil)) b o from ⟨⟨c0, c1, c2, c3⟩, hp1, hk1, ⟨d0, d1', d2', d3'⟩, hp2, hk2, trivial⟩)
  have d1 : w.cell? ⟨b, o + 5, none⟩ = some (.int .i64 a2.num) := d1'
  have d2 : w.cell? ⟨b, o + 6, none⟩ = some (.string a2.name) := d2'
  have d3 : w.cell? ⟨b, o + 7, none⟩ = some (.slice a2.ptr (len k2) a2.cap) := d3'
  have X1 := Lib.hid (show ExAt w b1 o1 a1 k1 from ⟨hp1, hk1⟩)
  have X2 := Lib.hid (show ExAt w b2 o2 a2 k2 from ⟨hp2, hk2⟩)
  have AV := Lib.hid ha
  have hg := block_lt_of_cell c0
  simp at hg
  clear hp1 hk1 hp2 hk2 ha d1' d2' d3'
  have J : Hid (neutE op zeroB both [ec ⟨b1, o1, a1, k1⟩, ec ⟨b2, o2, a2, k2⟩] = if decide ((a2.op = 1 ∨ a2.op = 2) ∧ a2.num = 0) = true then ec ⟨b1, o1, a1, k1⟩ else if both = true ∧ decide ((a1.op = 1 ∨ a1.op = 2) ∧ a1.num = 0) = true then ec ⟨b2, o2, a2, k2⟩ else nE op [ec ⟨b1, o1, a1, k1⟩, ec ⟨b2, o2, a2, k2⟩]) := rfl
  generalize neutE op zeroB both [ec ⟨b1, o1, a1, k1⟩, ec ⟨b2, o2, a2, k2⟩] = R at *
  go_enter Try.func68, Try.ntmps68
  go_wp2_with fail
  refine (iszero_any _ _ _ _ _ _ _).mono ?_
  rintro e w1 ⟨rfl, hb⟩
  have hb0 : Below ((w.alloc (.cells #[.int .i64 op, .int .i64 0, .string ⟨#[]⟩, .slice (some ⟨b, o, none⟩) 2 cap] 31)).alloc (.cells #[.int .i64 0, .int .i64 0, .string ⟨#[]⟩, .slice none 0 0] 31)).heap.size ((w.alloc (.cells #[.int .i64 op, .int .i64 0, .string ⟨#[]⟩, .slice (some ⟨b, o, none⟩) 2 cap] 31)).alloc (.cells #[.int .i64 0, .int .i64 0, .string ⟨#[]⟩, .slice none 0 0] 31)) w1 := hb
  have hba : Below w.heap.size w ((w.alloc (.cells #[.int .i64 op, .int .i64 0, .string ⟨#[]⟩, .slice (some ⟨b, o, none⟩) 2 cap] 31)).alloc (.cells #[.int .i64 0, .int .i64 0, .string ⟨#[]⟩, .slice none 0 0] 31)) := by (repeat (first | exact Below.refl _ _ | refine Below.drew ?_ | refine Below.alloc ?_ (by first | exact Nat.le_refl _ | (simp <;> omega)) _ | refine Below.setCell ?_ (by first | exact Nat.le_refl _ | (simp <;> omega)) _))
  have hbw := hba.trans (hb0.mono (by simp; omega))
  have HB := Lib.hid hbw
  have hz : w.heap.size + 1 < w1.heap.size := by have := hb0.size; simp at this; omega
  have x0 : w1.cell? ⟨w.heap.size, 0, none⟩ = some (.int .i64 op) := by rw [hb0.cell (p := ⟨w.heap.size, 0, none⟩) (by simp; omega)]; simp [go_sem]
  have x1 : w1.cell? ⟨w.heap.size, 1, none⟩ = some (.int .i64 0) := by rw [hb0.cell (p := ⟨w.heap.size, 1, none⟩) (by simp; omega)]; simp [go_sem]
  have x2 : w1.cell? ⟨w.heap.size, 2, none⟩ = some (.string ⟨#[]⟩) := by rw [hb0.cell (p := ⟨w.heap.size, 2, none⟩) (by simp; omega)]; simp [go_sem]
  have x3 : w1.cell? ⟨w.heap.size, 3, none⟩ = some (.slice (some ⟨b, o, none⟩) 2 cap) := by rw [hb0.cell (p := ⟨w.heap.size, 3, none⟩) (by simp; omega)]; simp [go_sem]
  have r0 : w1.cell? ⟨w.heap.size + 1, 0, none⟩ = some (.int .i64 0) := by rw [hb0.cell (p := ⟨w.heap.size + 1, 0, none⟩) (by simp)]; simp [go_sem]
  have f0 : w1.frozen? ⟨w.heap.size + 1, 0, none⟩ = false := by rw [hb0.frozen (p := ⟨w.heap.size + 1, 0, none⟩) (by simp)]; simp [go_sem]
  have r1 : w1.cell? ⟨w.heap.size + 1, 1, none⟩ = some (.int .i64 0) := by rw [hb0.cell (p := ⟨w.heap.size + 1, 1, none⟩) (by simp)]; simp [go_sem]
  have f1 : w1.frozen? ⟨w.heap.size + 1, 1, none⟩ = false := by rw [hb0.frozen (p := ⟨w.heap.size + 1, 1, none⟩) (by simp)]; simp [go_sem]
  have r2 : w1.cell? ⟨w.heap.size + 1, 2, none⟩ = some (.string ⟨#[]⟩) := by rw [hb0.cell (p := ⟨w.heap.size + 1, 2, none⟩) (by simp)]; simp [go_sem]
  have f2 : w1.frozen? ⟨w.heap.size + 1, 2, none⟩ = false := by rw [hb0.frozen (p := ⟨w.heap.size + 1, 2, none⟩) (by simp)]; simp [go_sem]
  have r3 : w1.cell? ⟨w.heap.size + 1, 3, none⟩ = some (.slice none 0 0) := by rw [hb0.cell (p := ⟨w.heap.size + 1, 3, none⟩) (by simp)]; simp [go_sem]
  have f3 : w1.frozen? ⟨w.heap.size + 1, 3, none⟩ = false := by rw [hb0.frozen (p := ⟨w.heap.size + 1, 3, none⟩) (by simp)]; simp [go_sem]
  have y0 : w1.cell? ⟨b, o, none⟩ = some (.int .i64 a1.op) := by rw [hbw.cell (p := ⟨b, o, none⟩) hg]; exact c0
  have y1 : w1.cell? ⟨b, o + 1, none⟩ = some (.int .i64 a1.num) := by rw [hbw.cell (p := ⟨b, o + 1, none⟩) hg]; exact c1
  have y2 : w1.cell? ⟨b, o + 2, none⟩ = some (.string a1.name) := by rw [hbw.cell (p := ⟨b, o + 2, none⟩) hg]; exact c2
  have y3 : w1.cell? ⟨b, o + 3, none⟩ = some (.slice a1.ptr (len k1) a1.cap) := by rw [hbw.cell (p := ⟨b, o + 3, none⟩) hg]; exact c3
  have z0 : w1.cell? ⟨b, o + 4, none⟩ = some (.int .i64 a2.op) := by rw [hbw.cell (p := ⟨b, o + 4, none⟩) hg]; exact d0
  have z1 : w1.cell? ⟨b, o + 5, none⟩ = some (.int .i64 a2.num) := by rw [hbw.cell (p := ⟨b, o + 5, none⟩) hg]; exact d1
  have z2 : w1.cell? ⟨b, o + 6, none⟩ = some (.string a2.name) := by rw [hbw.cell (p := ⟨b, o + 6, none⟩) hg]; exact d2
  have z3 : w1.cell? ⟨b, o + 7, none⟩ = some (.slice a2.ptr (len k2) a2.cap) := by rw [hbw.cell (p := ⟨b, o + 7, none⟩) hg]; exact d3
  clear hb hb0 hba hbw c0 c1 c2 c3 d0 d1 d2 d3
  generalize hT : decide ((a2.op = 1 ∨ a2.op = 2) ∧ a2.num = 0) = T at *
  clear hT
  cases T
  · have J2 : Hid (R = if both = true ∧ decide ((a1.op = 1 ∨ a1.op = 2) ∧ a1.num = 0) = true then ec ⟨b2, o2, a2, k2⟩ else nE op [ec ⟨b1, o1, a1, k1⟩, ec ⟨b2, o2, a2, k2⟩]) := by unfold Hid; rw [J.out]; rfl
    clear J
    cases both
    · have e : Hid (R = nE op [ec ⟨b1, o1, a1, k1⟩, ec ⟨b2, o2, a2, k2⟩]) := by unfold Hid; rw [J2.out]; simp
      clear J2
      go_wp2
      refine bodyPost_ret (v := .agg #[.int .i64 op, .int .i64 0, .string ⟨#[]⟩, .slice (some ⟨b, o, none⟩) 2 cap]) ?_ rfl ?_
      · rw [results_cell1 rfl]; go_simp
      · refine ReP.mk ⟨b, o, ⟨op, 0, ⟨#[]⟩, some ⟨b, o, none⟩, cap⟩, (.node b1 o1 a1 k1 (.node b2 o2 a2 k2 .nil))⟩ (by (repeat (first | exact Below.refl _ _ | refine Below.drew ?_ | refine Below.alloc ?_ (by first | exact Nat.le_refl _ | (simp <;> omega)) _ | refine Below.setCell ?_ (by first | exact Nat.le_refl _ | (simp <;> omega)) _)); exact HB.out) ?_ (fun hB => ?_) ?_
        · rw [e.out]; rfl
        · exact ⟨fun _ => rfl, XX.out.next hB⟩
        · exact AV.out
    · go_wp2_with fail
      refine (iszero_any _ _ _ _ _ _ _).mono ?_
      rintro e2 w2 ⟨rfl, hb2⟩
      have hz2 : w.heap.size + 1 < w2.heap.size := Nat.lt_of_lt_of_le hz hb2.size
      have x0b : w2.cell? ⟨w.heap.size, 0, none⟩ = _ := (hb2.cell (p := ⟨w.heap.size, 0, none⟩) (block_lt_of_cell x0)).trans x0
      have r0b : w2.cell? ⟨w.heap.size + 1, 0, none⟩ = _ := (hb2.cell (p := ⟨w.heap.size + 1, 0, none⟩) (block_lt_of_cell r0)).trans r0
      have f0b : w2.frozen? ⟨w.heap.size + 1, 0, none⟩ = _ := (hb2.frozen (p := ⟨w.heap.size + 1, 0, none⟩) (block_lt_of_cell r0)).trans f0
      have x1b : w2.cell? ⟨w.heap.size, 1, none⟩ = _ := (hb2.cell (p := ⟨w.heap.size, 1, none⟩) (block_lt_of_cell x1)).trans x1
      have r1b : w2.cell? ⟨w.heap.size + 1, 1, none⟩ = _ := (hb2.cell (p := ⟨w.heap.size + 1, 1, none⟩) (block_lt_of_cell r1)).trans r1
      have f1b : w2.frozen? ⟨w.heap.size + 1, 1, none⟩ = _ := (hb2.frozen (p := ⟨w.heap.size + 1, 1, none⟩) (block_lt_of_cell r1)).trans f1
      have x2b : w2.cell? ⟨w.heap.size, 2, none⟩ = _ := (hb2.cell (p := ⟨w.heap.size, 2, none⟩) (block_lt_of_cell x2)).trans x2
      have r2b : w2.cell? ⟨w.heap.size + 1, 2, none⟩ = _ := (hb2.cell (p := ⟨w.heap.size + 1, 2, none⟩) (block_lt_of_cell r2)).trans r2
      have f2b : w2.frozen? ⟨w.heap.size + 1, 2, none⟩ = _ := (hb2.frozen (p := ⟨w.heap.size + 1, 2, none⟩) (block_lt_of_cell r2)).trans f2
      have x3b : w2.cell? ⟨w.heap.size, 3, none⟩ = _ := (hb2.cell (p := ⟨w.heap.size, 3, none⟩) (block_lt_of_cell x3)).trans x3
      have r3b : w2.cell? ⟨w.heap.size + 1, 3, none⟩ = _ := (hb2.cell (p := ⟨w.heap.size + 1, 3, none⟩) (block_lt_of_cell r3)).trans r3
      have f3b : w2.frozen? ⟨w.heap.size + 1, 3, none⟩ = _ := (hb2.frozen (p := ⟨w.heap.size + 1, 3, none⟩) (block_lt_of_cell r3)).trans f3
      have y0b : w2.cell? ⟨b, o, none⟩ = _ := (hb2.cell (p := ⟨b, o, none⟩) (block_lt_of_cell y0)).trans y0
      have y1b : w2.cell? ⟨b, o + 1, none⟩ = _ := (hb2.cell (p := ⟨b, o + 1, none⟩) (block_lt_of_cell y1)).trans y1
      have y2b : w2.cell? ⟨b, o + 2, none⟩ = _ := (hb2.cell (p := ⟨b, o + 2, none⟩) (block_lt_of_cell y2)).trans y2
      have y3b : w2.cell? ⟨b, o + 3, none⟩ = _ := (hb2.cell (p := ⟨b, o + 3, none⟩) (block_lt_of_cell y3)).trans y3
      have z0b : w2.cell? ⟨b, o + 4, none⟩ = _ := (hb2.cell (p := ⟨b, o + 4, none⟩) (block_lt_of_cell z0)).trans z0
      have z1b : w2.cell? ⟨b, o + 5, none⟩ = _ := (hb2.cell (p := ⟨b, o + 5, none⟩) (block_lt_of_cell z1)).trans z1
      have z2b : w2.cell? ⟨b, o + 6, none⟩ = _ := (hb2.cell (p := ⟨b, o + 6, none⟩) (block_lt_of_cell z2)).trans z2
      have z3b : w2.cell? ⟨b, o + 7, none⟩ = _ := (hb2.cell (p := ⟨b, o + 7, none⟩) (block_lt_of_cell z3)).trans z3
      have HB2 := Lib.hid (HB.out.trans (hb2.mono HB.out.size))
      clear hb2 x0 x1 x2 x3 r0 r1 r2 r3 f0 f1 f2 f3 y0 y1 y2 y3 z0 z1 z2 z3
      generalize hT : decide ((a1.op = 1 ∨ a1.op = 2) ∧ a1.num = 0) = T at *
      clear hT
      cases T
      · have e : Hid (R = nE op [ec ⟨b1, o1, a1, k1⟩, ec ⟨b2, o2, a2, k2⟩]) := by unfold Hid; rw [J2.out]; simp
        clear J2
        go_wp2
        refine bodyPost_ret (v := .agg #[.int .i64 op, .int .i64 0, .string ⟨#[]⟩, .slice (some ⟨b, o, none⟩) 2 cap]) ?_ rfl ?_
        · rw [results_cell1 rfl]; go_simp
        · refine ReP.mk ⟨b, o, ⟨op, 0, ⟨#[]⟩, some ⟨b, o, none⟩, cap⟩, (.node b1 o1 a1 k1 (.node b2 o2 a2 k2 .nil))⟩ (by (repeat (first | exact Below.refl _ _ | refine Below.drew ?_ | refine Below.alloc ?_ (by first | exact Nat.le_refl _ | (simp <;> omega)) _ | refine Below.setCell ?_ (by first | exact Nat.le_refl _ | (simp <;> omega)) _)); exact HB2.out) ?_ (fun hB => ?_) ?_
          · rw [e.out]; rfl
          · exact ⟨fun _ => rfl, XX.out.next hB⟩
          · exact AV.out
      · have e : Hid (R = ec ⟨b2, o2, a2, k2⟩) := by unfold Hid; rw [J2.out]; simp
        clear J2
        go_wp2
        refine bodyPost_ret (v := .agg #[.int .i64 a2.op, .int .i64 a2.num, .string a2.name, .slice a2.ptr (len k2) a2.cap]) ?_ rfl ?_
        · rw [results_cell1 rfl]; go_simp
        · refine ReP.mk ⟨b2, o2, a2, k2⟩ (by (repeat (first | exact Below.refl _ _ | refine Below.drew ?_ | refine Below.alloc ?_ (by first | exact Nat.le_refl _ | (simp <;> omega)) _ | refine Below.setCell ?_ (by first | exact Nat.le_refl _ | (simp <;> omega)) _)); exact HB2.out) ?_ (fun hB => ?_) ?_
          · rw [e.out]
          · exact X2.out.next hB
          · exact AV.out.2.2.2.1
  · have e : Hid (R = ec ⟨b1, o1, a1, k1⟩) := by unfold Hid; rw [J.out]; rfl
    clear J
    go_wp2
    refine bodyPost_ret (v := .agg #[.int .i64 a1.op, .int .i64 a1.num, .string a1.name, .slice a1.ptr (len k1) a1.cap]) ?_ rfl ?_
    · rw [results_cell1 rfl]; go_simp
    · refine ReP.mk ⟨b1, o1, a1, k1⟩ (by (repeat (first | exact Below.refl _ _ | refine Below.drew ?_ | refine Below.alloc ?_ (by first | exact Nat.le_refl _ | (simp <;> omega)) _ | refine Below.setCell ?_ (by first | exact Nat.le_refl _ | (simp <;> omega)) _)); exact HB.out) ?_ (fun hB => ?_) ?_
      · rw [e.out]
      · exact X1.out.next hB
      · exact AV.out.2.1
set_option maxHeartbeats 4000000 in
theorem neutu_any (Av : Nat → Prop) (op : Int) (both : Bool) (b o cap b1 o1 : Nat) (a1 : Nd) (k1 : Fo) (b2 o2 : Nat) (a2 : Nd) (k2 : Fo) (w : World) (hx : FoAt w (.node b1 o1 a1 k1 (.node b2 o2 a2 k2 .nil)) b o) (ha : FoAv Av (.node b1 o1 a1 k1 (.node b2 o2 a2 k2 .nil)) b) :
    Calls Try.prog 68 #[.agg #[.int .i64 op, .int .i64 0, .string ⟨#[]⟩, .slice (some ⟨b, o, none⟩) 2 cap], .func (.func 70) #[] #[], .bool both] w (ReP w Av (neutE op unitB both [ec ⟨b1, o1, a1, k1⟩, ec ⟨b2, o2, a2, k2⟩])) := by
  obtain ⟨⟨c0, c1, c2, c3⟩, hp1, hk1, ⟨d0, d1', d2', d3'⟩, hp2, hk2, -⟩ := hx
  have XX := Lib.hid (show FoAt w (.node b1 o1 a1 k1 (.node b2 o2 a2 k2 .nil)) b o from ⟨⟨c0, c1, c2, c3⟩, hp1, hk1, ⟨d0, d1', d2', d3'⟩, hp2, hk2, trivial⟩)
  have d1 : w.cell? ⟨b, o + 5, none⟩ = some (.int .i64 a2.num) := d1'
  have d2 : w.cell? ⟨b, o + 6, none⟩ = some (.string a2.name) := d2'
  have d3 : w.cell? ⟨b, o + 7, none⟩ = some (.slice a2.ptr (len k2) a2.cap) := d3'
  have X1 := Lib.hid (show ExAt w b1 o1 a1 k1 from ⟨hp1, hk1⟩)
  have X2 := Lib.hid (show ExAt w b2 o2 a2 k2 from ⟨hp2, hk2⟩)
  have AV := Lib.hid ha
  have hg := block_lt_of_cell c0
  simp at hg
  clear hp1 hk1 hp2 hk2 ha d1' d2' d3'
  have J : Hid (neutE op unitB both [ec ⟨b1, o1, a1, k1⟩, ec ⟨b2, o2, a2, k2⟩] = if decide (a2.op = 1 ∧ a2.num = 1) = true then ec ⟨b1, o1, a1, k1⟩ else if both = true ∧ decide (a1.op = 1 ∧ a1.num = 1) = true then ec ⟨b2, o2, a2, k2⟩ else nE op [ec ⟨b1, o1, a1, k1⟩, ec ⟨b2, o2, a2, k2⟩]) := rfl
  generalize neutE op unitB both [ec ⟨b1, o1, a1, k1⟩, ec ⟨b2, o2, a2, k2⟩] = R at *
  go_enter Try.func68, Try.ntmps68
  go_wp2_with fail
  refine (isone_any _ _ _ _ _ _ _).mono ?_
  rintro e w1 ⟨rfl, hb⟩
  have hb0 : Below ((w.alloc (.cells #[.int .i64 op, .int .i64 0, .string ⟨#[]⟩, .slice (some ⟨b, o, none⟩) 2 cap] 31)).alloc (.cells #[.int .i64 0, .int .i64 0, .string ⟨#[]⟩, .slice none 0 0] 31)).heap.size ((w.alloc (.cells #[.int .i64 op, .int .i64 0, .string ⟨#[]⟩, .slice (some ⟨b, o, none⟩) 2 cap] 31)).alloc (.cells #[.int .i64 0, .int .i64 0, .string ⟨#[]⟩, .slice none 0 0] 31)) w1 := hb
  have hba : Below w.heap.size w ((w.alloc (.cells #[.int .i64 op, .int .i64 0, .string ⟨#[]⟩, .slice (some ⟨b, o, none⟩) 2 cap] 31)).alloc (.cells #[.int .i64 0, .int .i64 0, .string ⟨#[]⟩, .slice none 0 0] 31)) := by (repeat (first | exact Below.refl _ _ | refine Below.drew ?_ | refine Below.alloc ?_ (by first | exact Nat.le_refl _ | (simp <;> omega)) _ | refine Below.setCell ?_ (by first | exact Nat.le_refl _ | (simp <;> omega)) _))
  have hbw := hba.trans (hb0.mono (by simp; omega))
  have HB := Lib.hid hbw
  have hz : w.heap.size + 1 < w1.heap.size := by have := hb0.size; simp at this; omega
  have x0 : w1.cell? ⟨w.heap.size, 0, none⟩ = some (.int .i64 op) := by rw [hb0.cell (p := ⟨w.heap.size, 0, none⟩) (by simp; omega)]; simp [go_sem]
  have x1 : w1.cell? ⟨w.heap.size, 1, none⟩ = some (.int .i64 0) := by rw [hb0.cell (p := ⟨w.heap.size, 1, none⟩) (by simp; omega)]; simp [go_sem]
  have x2 : w1.cell? ⟨w.heap.size, 2, none⟩ = some (.string ⟨#[]⟩) := by rw [hb0.cell (p := ⟨w.heap.size, 2, none⟩) (by simp; omega)]; simp [go_sem]
  have x3 : w1.cell? ⟨w.heap.size, 3, none⟩ = some (.slice (some ⟨b, o, none⟩) 2 cap) := by rw [hb0.cell (p := ⟨w.heap.size, 3, none⟩) (by simp; omega)]; simp [go_sem]
  have r0 : w1.cell? ⟨w.heap.size + 1, 0, none⟩ = some (.int .i64 0) := by rw [hb0.cell (p := ⟨w.heap.size + 1, 0, none⟩) (by simp)]; simp [go_sem]
  have f0 : w1.frozen? ⟨w.heap.size + 1, 0, none⟩ = false := by rw [hb0.frozen (p := ⟨w.heap.size + 1, 0, none⟩) (by simp)]; simp [go_sem]
  have r1 : w1.cell? ⟨w.heap.size + 1, 1, none⟩ = some (.int .i64 0) := by rw [hb0.cell (p := ⟨w.heap.size + 1, 1, none⟩) (by simp)]; simp [go_sem]
  have f1 : w1.frozen? ⟨w.heap.size + 1, 1, none⟩ = false := by rw [hb0.frozen (p := ⟨w.heap.size + 1, 1, none⟩) (by simp)]; simp [go_sem]
  have r2 : w1.cell? ⟨w.heap.size + 1, 2, none⟩ = some (.string ⟨#[]⟩) := by rw [hb0.cell (p := ⟨w.heap.size + 1, 2, none⟩) (by simp)]; simp [go_sem]
  have f2 : w1.frozen? ⟨w.heap.size + 1, 2, none⟩ = false := by rw [hb0.frozen (p := ⟨w.heap.size + 1, 2, none⟩) (by simp)]; simp [go_sem]
  have r3 : w1.cell? ⟨w.heap.size + 1, 3, none⟩ = some (.slice none 0 0) := by rw [hb0.cell (p := ⟨w.heap.size + 1, 3, none⟩) (by simp)]; simp [go_sem]
  have f3 : w1.frozen? ⟨w.heap.size + 1, 3, none⟩ = false := by rw [hb0.frozen (p := ⟨w.heap.size + 1, 3, none⟩) (by simp)]; simp [go_sem]
  have y0 : w1.cell? ⟨b, o, none⟩ = some (.int .i64 a1.op) := by rw [hbw.cell (p := ⟨b, o, none⟩) hg]; exact c0
  have y1 : w1.cell? ⟨b, o + 1, none⟩ = some (.int .i64 a1.num) := by rw [hbw.cell (p := ⟨b, o + 1, none⟩) hg]; exact c1
  have y2 : w1.cell? ⟨b, o + 2, none⟩ = some (.string a1.name) := by rw [hbw.cell (p := ⟨b, o + 2, none⟩) hg]; exact c2
  have y3 : w1.cell? ⟨b, o + 3, none⟩ = some (.slice a1.ptr (len k1) a1.cap) := by rw [hbw.cell (p := ⟨b, o + 3, none⟩) hg]; exact c3
  have z0 : w1.cell? ⟨b, o + 4, none⟩ = some (.int .i64 a2.op) := by rw [hbw.cell (p := ⟨b, o + 4, none⟩) hg]; exact d0
  have z1 : w1.cell? ⟨b, o + 5, none⟩ = some (.int .i64 a2.num) := by rw [hbw.cell (p := ⟨b, o + 5, none⟩) hg]; exact d1
  have z2 : w1.cell? ⟨b, o + 6, none⟩ = some (.string a2.name) := by rw [hbw.cell (p := ⟨b, o + 6, none⟩) hg]; exact d2
  have z3 : w1.cell? ⟨b, o + 7, none⟩ = some (.slice a2.ptr (len k2) a2.cap) := by rw [hbw.cell (p := ⟨b, o + 7, none⟩) hg]; exact d3
  clear hb hb0 hba hbw c0 c1 c2 c3 d0 d1 d2 d3
  generalize hT : decide (a2.op = 1 ∧ a2.num = 1) = T at *
  clear hT
  cases T
  · have J2 : Hid (R = if both = true ∧ decide (a1.op = 1 ∧ a1.num = 1) = true then ec ⟨b2, o2, a2, k2⟩ else nE op [ec ⟨b1, o1, a1, k1⟩, ec ⟨b2, o2, a2, k2⟩]) := by unfold Hid; rw [J.out]; rfl
    clear J
    cases both
    · have e : Hid (R = nE op [ec ⟨b1, o1, a1, k1⟩, ec ⟨b2, o2, a2, k2⟩]) := by unfold Hid; rw [J2.out]; simp
      clear J2
      go_wp2
      refine bodyPost_ret (v := .agg #[.int .i64 op, .int .i64 0, .string ⟨#[]⟩, .slice (some ⟨b, o, none⟩) 2 cap]) ?_ rfl ?_
      · rw [results_cell1 rfl]; go_simp
      · refine ReP.mk ⟨b, o, ⟨op, 0, ⟨#[]⟩, some ⟨b, o, none⟩, cap⟩, (.node b1 o1 a1 k1 (.node b2 o2 a2 k2 .nil))⟩ (by (repeat (first | exact Below.refl _ _ | refine Below.drew ?_ | refine Below.alloc ?_ (by first | exact Nat.le_refl _ | (simp <;> omega)) _ | refine Below.setCell ?_ (by first | exact Nat.le_refl _ | (simp <;> omega)) _)); exact HB.out) ?_ (fun hB => ?_) ?_
        · rw [e.out]; rfl
        · exact ⟨fun _ => rfl, XX.out.next hB⟩
        · exact AV.out
    · go_wp2_with fail
      refine (isone_any _ _ _ _ _ _ _).mono ?_
      rintro e2 w2 ⟨rfl, hb2⟩
      have hz2 : w.heap.size + 1 < w2.heap.size := Nat.lt_of_lt_of_le hz hb2.size
      have x0b : w2.cell? ⟨w.heap.size, 0, none⟩ = _ := (hb2.cell (p := ⟨w.heap.size, 0, none⟩) (block_lt_of_cell x0)).trans x0
      have r0b : w2.cell? ⟨w.heap.size + 1, 0, none⟩ = _ := (hb2.cell (p := ⟨w.heap.size + 1, 0, none⟩) (block_lt_of_cell r0)).trans r0
      have f0b : w2.frozen? ⟨w.heap.size + 1, 0, none⟩ = _ := (hb2.frozen (p := ⟨w.heap.size + 1, 0, none⟩) (block_lt_of_cell r0)).trans f0
      have x1b : w2.cell? ⟨w.heap.size, 1, none⟩ = _ := (hb2.cell (p := ⟨w.heap.size, 1, none⟩) (block_lt_of_cell x1)).trans x1
      have r1b : w2.cell? ⟨w.heap.size + 1, 1, none⟩ = _ := (hb2.cell (p := ⟨w.heap.size + 1, 1, none⟩) (block_lt_of_cell r1)).trans r1
      have f1b : w2.frozen? ⟨w.heap.size + 1, 1, none⟩ = _ := (hb2.frozen (p := ⟨w.heap.size + 1, 1, none⟩) (block_lt_of_cell r1)).trans f1
      have x2b : w2.cell? ⟨w.heap.size, 2, none⟩ = _ := (hb2.cell (p := ⟨w.heap.size, 2, none⟩) (block_lt_of_cell x2)).trans x2
      have r2b : w2.cell? ⟨w.heap.size + 1, 2, none⟩ = _ := (hb2.cell (p := ⟨w.heap.size + 1, 2, none⟩) (block_lt_of_cell r2)).trans r2
      have f2b : w2.frozen? ⟨w.heap.size + 1, 2, none⟩ = _ := (hb2.frozen (p := ⟨w.heap.size + 1, 2, none⟩) (block_lt_of_cell r2)).trans f2
      have x3b : w2.cell? ⟨w.heap.size, 3, none⟩ = _ := (hb2.cell (p := ⟨w.heap.size, 3, none⟩) (block_lt_of_cell x3)).trans x3
      have r3b : w2.cell? ⟨w.heap.size + 1, 3, none⟩ = _ := (hb2.cell (p := ⟨w.heap.size + 1, 3, none⟩) (block_lt_of_cell r3)).trans r3
      have f3b : w2.frozen? ⟨w.heap.size + 1, 3, none⟩ = _ := (hb2.frozen (p := ⟨w.heap.size + 1, 3, none⟩) (block_lt_of_cell r3)).trans f3
      have y0b : w2.cell? ⟨b, o, none⟩ = _ := (hb2.cell (p := ⟨b, o, none⟩) (block_lt_of_cell y0)).trans y0
      have y1b : w2.cell? ⟨b, o + 1, none⟩ = _ := (hb2.cell (p := ⟨b, o + 1, none⟩) (block_lt_of_cell y1)).trans y1
      have y2b : w2.cell? ⟨b, o + 2, none⟩ = _ := (hb2.cell (p := ⟨b, o + 2, none⟩) (block_lt_of_cell y2)).trans y2
      have y3b : w2.cell? ⟨b, o + 3, none⟩ = _ := (hb2.cell (p := ⟨b, o + 3, none⟩) (block_lt_of_cell y3)).trans y3
      have z0b : w2.cell? ⟨b, o + 4, none⟩ = _ := (hb2.cell (p := ⟨b, o + 4, none⟩) (block_lt_of_cell z0)).trans z0
      have z1b : w2.cell? ⟨b, o + 5, none⟩ = _ := (hb2.cell (p := ⟨b, o + 5, none⟩) (block_lt_of_cell z1)).trans z1
      have z2b : w2.cell? ⟨b, o + 6, none⟩ = _ := (hb2.cell (p := ⟨b, o + 6, none⟩) (block_lt_of_cell z2)).trans z2
      have z3b : w2.cell? ⟨b, o + 7, none⟩ = _ := (hb2.cell (p := ⟨b, o + 7, none⟩) (block_lt_of_cell z3)).trans z3
      have HB2 := Lib.hid (HB.out.trans (hb2.mono HB.out.size))
      clear hb2 x0 x1 x2 x3 r0 r1 r2 r3 f0 f1 f2 f3 y0 y1 y2 y3 z0 z1 z2 z3
      generalize hT : decide (a1.op = 1 ∧ a1.num = 1) = T at *
      clear hT
      cases T
      · have e : Hid (R = nE op [ec ⟨b1, o1, a1, k1⟩, ec ⟨b2, o2, a2, k2⟩]) := by unfold Hid; rw [J2.out]; simp
        clear J2
        go_wp2
        refine bodyPost_ret (v := .agg #[.int .i64 op, .int .i64 0, .string ⟨#[]⟩, .slice (some ⟨b, o, none⟩) 2 cap]) ?_ rfl ?_
        · rw [results_cell1 rfl]; go_simp
        · refine ReP.mk ⟨b, o, ⟨op, 0, ⟨#[]⟩, some ⟨b, o, none⟩, cap⟩, (.node b1 o1 a1 k1 (.node b2 o2 a2 k2 .nil))⟩ (by (repeat (first | exact Below.refl _ _ | refine Below.drew ?_ | refine Below.alloc ?_ (by first | exact Nat.le_refl _ | (simp <;> omega)) _ | refine Below.setCell ?_ (by first | exact Nat.le_refl _ | (simp <;> omega)) _)); exact HB2.out) ?_ (fun hB => ?_) ?_
          · rw [e.out]; rfl
          · exact ⟨fun _ => rfl, XX.out.next hB⟩
          · exact AV.out
      · have e : Hid (R = ec ⟨b2, o2, a2, k2⟩) := by unfold Hid; rw [J2.out]; simp
        clear J2
        go_wp2
        refine bodyPost_ret (v := .agg #[.int .i64 a2.op, .int .i64 a2.num, .string a2.name, .slice a2.ptr (len k2) a2.cap]) ?_ rfl ?_
        · rw [results_cell1 rfl]; go_simp
        · refine ReP.mk ⟨b2, o2, a2, k2⟩ (by (repeat (first | exact Below.refl _ _ | refine Below.drew ?_ | refine Below.alloc ?_ (by first | exact Nat.le_refl _ | (simp <;> omega)) _ | refine Below.setCell ?_ (by first | exact Nat.le_refl _ | (simp <;> omega)) _)); exact HB2.out) ?_ (fun hB => ?_) ?_
          · rw [e.out]
          · exact X2.out.next hB
          · exact AV.out.2.2.2.1
  · have e : Hid (R = ec ⟨b1, o1, a1, k1⟩) := by unfold Hid; rw [J.out]; rfl
    clear J
    go_wp2
    refine bodyPost_ret (v := .agg #[.int .i64 a1.op, .int .i64 a1.num, .string a1.name, .slice a1.ptr (len k1) a1.cap]) ?_ rfl ?_
    · rw [results_cell1 rfl]; go_simp
    · refine ReP.mk ⟨b1, o1, a1, k1⟩ (by (repeat (first | exact Below.refl _ _ | refine Below.drew ?_ | refine Below.alloc ?_ (by first | exact Nat.le_refl _ | (simp <;> omega)) _ | refine Below.setCell ?_ (by first | exact Nat.le_refl _ | (simp <;> omega)) _)); exact HB.out) ?_ (fun hB => ?_) ?_
      · rw [e.out]
      · exact X1.out.next hB
      · exact AV.out.2.1

end Go.Proofs.Ytfoedbfkddoibaa
