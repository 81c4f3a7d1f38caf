/-
  The walk of EvalLogic. Printed by wip/mkelg.py.
-/
import Derived.Test.YtinbkhchhlkjgaaEls
namespace Go.Proofs.Ytinbkhchhlkjgaa
set_option linter.unusedVariables false
set_option linter.unusedSimpArgs false
open Go.ChangeShapes Go.WideShapes Go.ChangeAt Go.RowKit
open Go.Deep (BT)

/-- What a slot holds. -/
inductive Wd where
  | eq (v : Value)
  | val (X : Kd)
  | row1 (X : Kd)
  | row2 (X Y : Kd)
  | row3 (X Y Z : Kd)
  | any
def Wd.ok : Wd → Value → World → Prop
  | .eq u, v, _ => v = u
  | .val X, v, w => valG X v w
  | .row1 X, v, w => rowG X v w
  | .row2 X Y, v, w => rowG2 X Y v w
  | .row3 X Y Z, v, w => rowG3 X Y Z v w
  | .any, _, _ => True
theorem Wd.ext {d : Wd} {v : Value} {w w' : World} (h : d.ok v w) (he : Ext w w') : d.ok v w' := by
  cases d with
  | eq u => exact h
  | val X => exact valG.ext h he
  | row1 X => exact rowG.ext h he
  | row2 X Y => exact rowG2.ext h he
  | row3 X Y Z => exact rowG3.ext h he
  | any => trivial
/-- The laws of truth values, and of order. -/
theorem logic_plain (x y p q : Int) (hx : x = 0 ∨ x = 1) (hy : y = 0 ∨ y = 1) : opV 19 [opV 20 [x, y]] = opV 21 [opV 19 [x], opV 19 [y]] ∧ opV 19 [opV 21 [x, y]] = opV 20 [opV 19 [x], opV 19 [y]] ∧ opV 22 [x, y] = opV 21 [opV 19 [x], y] ∧ opV 19 [opV 19 [x]] = x ∧
    opV 16 [p, q] = opV 19 [opV 17 [q, p]] ∧ opV 18 [p, q] = opV 20 [opV 17 [p, q], opV 17 [q, p]] ∧ opV 14 [x, p, q] = opV 14 [opV 19 [x], q, p] := by
  have n : ∀ z : Int, z = 0 ∨ z = 1 → opV 19 [z] = 1 - z := fun z hz => (bits01 z 0 hz (.inl rfl)).2.2.2
  have an : ∀ a b : Int, a = 0 ∨ a = 1 → b = 0 ∨ b = 1 → opV 20 [a, b] = min a b := fun a b ha hb => (bits01 a b ha hb).1
  have ro : ∀ a b : Int, a = 0 ∨ a = 1 → b = 0 ∨ b = 1 → opV 21 [a, b] = max a b := fun a b ha hb => (bits01 a b ha hb).2.1
  have im : opV 22 [x, y] = max (1 - x) y := (bits01 x y hx hy).2.2.1
  have fl : ∀ b : Bool, flagI b = 0 ∨ flagI b = 1 := fun b => by cases b <;> simp [flagI]
  have nx : opV 19 [x] = 1 - x := n x hx
  have ny : opV 19 [y] = 1 - y := n y hy
  refine ⟨?_, ?_, ?_, ?_, ?_, ?_, ?_⟩
  · rw [an x y hx hy, n _ (by omega), nx, ny, ro _ _ (by omega) (by omega)]; omega
  · rw [ro x y hx hy, n _ (by omega), nx, ny, an _ _ (by omega) (by omega)]; omega
  · rw [im, nx, ro _ _ (by omega) hy]
  · rw [nx, n _ (by omega)]; omega
  · have e : opV 17 [q, p] = flagI (decide (q ≤ p)) := rfl
    have e2 : opV 16 [p, q] = flagI (decide (p < q)) := rfl
    rw [e, e2, n _ (fl _)]
    by_cases h : p < q
    · have h2 : ¬ q ≤ p := by omega
      simp [flagI, h, h2]
    · have h2 : q ≤ p := by omega
      simp [flagI, h, h2]
  · have e : opV 17 [q, p] = flagI (decide (q ≤ p)) := rfl
    have e2 : opV 17 [p, q] = flagI (decide (p ≤ q)) := rfl
    have e3 : opV 18 [p, q] = flagI (decide (p = q)) := rfl
    rw [e, e2, e3, an _ _ (fl _) (fl _)]
    by_cases h1 : p ≤ q <;> by_cases h2 : q ≤ p <;> by_cases h3 : p = q <;> simp [flagI, h1, h2, h3] <;> omega
  · rw [nx]
    have e : opV 14 [x, p, q] = if x ≠ 0 then p else q := rfl
    have e2 : opV 14 [1 - x, q, p] = if 1 - x ≠ 0 then q else p := rfl
    rw [e, e2]
    rcases hx with rfl | rfl <;> simp
def lgT : List (Nat × Nat) := [(33, 0), (34, 1), (35, 2), (36, 3), (37, 4), (38, 5), (39, 6), (40, 7), (41, 8), (42, 9), (43, 10), (44, 11), (45, 12), (46, 13), (47, 14), (48, 15), (49, 16), (50, 17), (51, 18), (52, 19), (53, 20), (54, 21), (55, 22), (56, 23), (57, 24), (58, 25), (59, 26), (60, 27), (61, 28), (62, 29), (63, 30), (64, 31), (65, 32), (66, 33), (67, 34), (68, 35), (69, 36), (70, 37), (71, 38), (72, 39), (73, 40), (74, 41), (75, 42), (76, 43), (77, 44), (78, 45), (79, 46), (80, 47), (81, 48), (82, 49), (83, 50), (84, 51), (85, 52), (86, 53), (87, 54), (88, 55), (89, 56), (90, 57), (91, 58), (92, 59), (93, 60), (94, 61), (95, 62), (96, 63), (97, 64), (98, 65), (99, 66), (100, 67), (101, 68), (102, 69), (103, 70), (104, 71), (105, 72), (106, 73), (107, 74), (108, 75), (109, 76), (110, 77), (111, 78), (112, 79), (113, 80), (114, 81), (115, 82), (116, 83), (117, 84), (118, 85), (119, 86), (120, 87), (121, 88), (122, 89), (123, 90), (124, 91), (125, 92), (126, 93), (127, 94), (128, 95), (129, 96), (130, 97), (131, 98), (132, 99), (133, 100), (134, 101), (135, 102), (136, 103), (137, 104), (8, 105)]
def lgW (c0 c1 : Value) (cX cY cP cQ : Ch) : List Wd := [.eq c0, .eq c1, .val (oneK cX), .val (oneK cY), .row2 (oneK cX) (oneK cY), .val (nodK2 20 (oneK cX) (oneK cY)), .val (nodK 19 (nodK2 20 (oneK cX) (oneK cY))), .val (oneK cX), .val (nodK 19 (oneK cX)), .val (oneK cY), .val (nodK 19 (oneK cY)), .row2 (nodK 19 (oneK cX)) (nodK 19 (oneK cY)), .val (nodK2 21 (nodK 19 (oneK cX)) (nodK 19 (oneK cY))), .eq (.bool true), .eq (.bool true), .eq c0, .eq c1, .val (oneK cX), .val (oneK cY), .row2 (oneK cX) (oneK cY), .val (nodK2 21 (oneK cX) (oneK cY)), .val (nodK 19 (nodK2 21 (oneK cX) (oneK cY))), .val (oneK cX), .val (nodK 19 (oneK cX)), .val (oneK cY), .val (nodK 19 (oneK cY)), .row2 (nodK 19 (oneK cX)) (nodK 19 (oneK cY)), .val (nodK2 20 (nodK 19 (oneK cX)) (nodK 19 (oneK cY))), .eq (.bool true), .eq (.bool true), .eq (.bool true), .eq c0, .eq c1, .val (oneK cX), .val (oneK cY), .row2 (oneK cX) (oneK cY), .val (nodK2 22 (oneK cX) (oneK cY)), .val (oneK cX), .val (nodK 19 (oneK cX)), .val (oneK cY), .row2 (nodK 19 (oneK cX)) (oneK cY), .val (nodK2 21 (nodK 19 (oneK cX)) (oneK cY)), .eq (.bool true), .eq (.bool true), .eq (.bool true), .eq c0, .eq c1, .val (oneK cX), .val (nodK 19 (oneK cX)), .val (nodK 19 (nodK 19 (oneK cX))), .val (oneK cX), .eq (.bool true), .eq (.bool true), .eq (.bool true), .eq c0, .eq c1, .val (oneK cP), .val (oneK cQ), .row2 (oneK cP) (oneK cQ), .val (nodK2 16 (oneK cP) (oneK cQ)), .val (oneK cQ), .val (oneK cP), .row2 (oneK cQ) (oneK cP), .val (nodK2 17 (oneK cQ) (oneK cP)), .val (nodK 19 (nodK2 17 (oneK cQ) (oneK cP))), .eq (.bool true), .eq (.bool true), .eq (.bool true), .eq c0, .eq c1, .val (oneK cP), .val (oneK cQ), .row2 (oneK cP) (oneK cQ), .val (nodK2 18 (oneK cP) (oneK cQ)), .val (oneK cP), .val (oneK cQ), .row2 (oneK cP) (oneK cQ), .val (nodK2 17 (oneK cP) (oneK cQ)), .val (oneK cQ), .val (oneK cP), .row2 (oneK cQ) (oneK cP), .val (nodK2 17 (oneK cQ) (oneK cP)), .row2 (nodK2 17 (oneK cP) (oneK cQ)) (nodK2 17 (oneK cQ) (oneK cP)), .val (nodK2 20 (nodK2 17 (oneK cP) (oneK cQ)) (nodK2 17 (oneK cQ) (oneK cP))), .eq (.bool true), .eq (.bool true), .eq (.bool true), .eq c0, .eq c1, .val (oneK cX), .val (oneK cP), .val (oneK cQ), .row3 (oneK cX) (oneK cP) (oneK cQ), .val (nodK3 14 (oneK cX) (oneK cP) (oneK cQ)), .val (oneK cX), .val (nodK 19 (oneK cX)), .val (oneK cQ), .val (oneK cP), .row3 (nodK 19 (oneK cX)) (oneK cQ) (oneK cP), .val (nodK3 14 (nodK 19 (oneK cX)) (oneK cQ) (oneK cP)), .eq (.bool true), .eq (.bool true), .eq (.bool true), .eq (.bool true), .eq (.bool true), .eq (.bool true)]
def lgG (c0 c1 : Value) (cX cY cP cQ : Ch) (i : Nat) (v : Value) (w : World) : Prop := ((lgW c0 c1 cX cY cP cQ).getD i .any).ok v w

set_option maxHeartbeats 8000000 in
set_option maxRecDepth 100000 in
theorem walk_evalLogic (v0 : Value) (n0 : Nat) (v1 : Value) (n1 : Nat) (v2 : Value) (n2 : Nat) (a3 : Int) (w : World) (h0 : IntsL w v0 n0 w.heap.size) (h1 : IntsL w v1 n1 w.heap.size) (h2 : IntsL w v2 n2 w.heap.size) (_ : (Lit.int .i64 a3).wf = true) :
    Calls Try.prog 4 #[v0, v1, v2, .int .i64 a3] w fun e w' => e = .returned (.bool true) ∧ Below w.heap.size w w' := by
  have H0 := Lib.hid h0
  have H1 := Lib.hid h1
  have H2 := Lib.hid h2
  obtain ⟨p0, cap0, rfl, -, -⟩ := h0
  obtain ⟨p1, cap1, rfl, -, -⟩ := h1
  obtain ⟨p2, cap2, rfl, -, -⟩ := h2
  obtain ⟨z1, hz1⟩ : ∃ z, (bits BinOp.and IntKind.i64 a3 255).tmod 3 = z := ⟨_, rfl⟩
  have hz1b : 0 ≤ z1 ∧ z1 < 3 := by rw [← hz1]; exact tmod_in _ _ (by rw [and_255]; omega) (by omega)
  obtain ⟨sc, hsc, hscb⟩ : ∃ sc, IntKind.i64.wrap (1 + z1) = sc ∧ (sc = 1 ∨ sc = 2 ∨ sc = 3) := ⟨1 + z1, IntWalk.i64_in _ (by omega), by omega⟩
  have HS := Lib.hid hscb
  clear hscb hz1b
  have AW := Lib.hid eawake_any
  go_enter Try.func4, Try.ntmps4
  go_wp2_with fail
  clear hz1 hsc
  refine (battrs_any (.slice p2 n2 cap2) n2 sc w H2.out HS.out).mono ?_
  rintro e x2 ⟨L, ap, acap, rfl, hac, hav, hnm, hb⟩
  have AV2 := Lib.hid hav
  have AO := Lib.hid (attrs_ok sc L hnm)
  have B2 := Lib.hid hb
  clear hav hnm hb
  go_wp2_with fail
  refine (bExpr_any (.slice p0 n0 cap0) n0 sc 4 x2 (H0.out.fore B2.out (Nat.le_refl _)) HS.out (by decide)).mono ?_
  rintro e x3 ⟨cX, rfl, hp, hx, hb⟩
  have PX : Hid (Bx sc 4 40 4 cX) := bx_plain hp
  have XX3 := Lib.hid hx
  have AV3 := Lib.hid (AV2.out.fore hb)
  have B3 := Lib.hid (B2.out.trans (hb.mono B2.out.size))
  clear hp hx hb
  go_wp2_with fail
  refine (bExpr_any (.slice p1 n1 cap1) n1 sc 4 x3 (H1.out.fore B3.out (Nat.le_refl _)) HS.out (by decide)).mono ?_
  rintro e x4 ⟨cY, rfl, hp, hx, hb⟩
  have PY : Hid (Bx sc 4 40 4 cY) := bx_plain hp
  have XY4 := Lib.hid hx
  have XX4 := Lib.hid (XX3.out.next hb)
  have AV4 := Lib.hid (AV3.out.fore hb)
  have B4 := Lib.hid (B3.out.trans (hb.mono B3.out.size))
  clear hp hx hb
  have K0 : Hid (Below x4.heap.size x4 ((x4.alloc (.cells #[.int .i64 cX.a.op, .int .i64 cX.a.num, .string cX.a.name, .slice cX.a.ptr (len cX.k) cX.a.cap] 26)).alloc (.cells #[.int .i64 cY.a.op, .int .i64 cY.a.num, .string cY.a.name, .slice cY.a.ptr (len cY.k) cY.a.cap] 26))) := ((Below.refl _ _).alloc (Nat.le_refl _) _).alloc (by simp) _
  have BA : Hid (∀ wr, Below (x4.heap.size + 2) ((x4.alloc (.cells #[.int .i64 cX.a.op, .int .i64 cX.a.num, .string cX.a.name, .slice cX.a.ptr (len cX.k) cX.a.cap] 26)).alloc (.cells #[.int .i64 cY.a.op, .int .i64 cY.a.num, .string cY.a.name, .slice cY.a.ptr (len cY.k) cY.a.cap] 26)) wr → (wr.cell? ⟨x4.heap.size, 0, none⟩ = some (.int .i64 cX.a.op) ∧ wr.cell? ⟨x4.heap.size, 1, none⟩ = some (.int .i64 cX.a.num) ∧ wr.cell? ⟨x4.heap.size, 2, none⟩ = some (.string cX.a.name) ∧ wr.cell? ⟨x4.heap.size, 3, none⟩ = some (.slice cX.a.ptr (len cX.k) cX.a.cap)) ∧ (wr.cell? ⟨x4.heap.size + 1, 0, none⟩ = some (.int .i64 cY.a.op) ∧ wr.cell? ⟨x4.heap.size + 1, 1, none⟩ = some (.int .i64 cY.a.num) ∧ wr.cell? ⟨x4.heap.size + 1, 2, none⟩ = some (.string cY.a.name) ∧ wr.cell? ⟨x4.heap.size + 1, 3, none⟩ = some (.slice cY.a.ptr (len cY.k) cY.a.cap))) := by
    intro wr hb
    refine ⟨⟨?_, ?_, ?_, ?_⟩, ?_, ?_, ?_, ?_⟩
    · rw [hb.cell (p := ⟨x4.heap.size, 0, none⟩) (by simp)]; simp [go_sem]
    · rw [hb.cell (p := ⟨x4.heap.size, 1, none⟩) (by simp)]; simp [go_sem]
    · rw [hb.cell (p := ⟨x4.heap.size, 2, none⟩) (by simp)]; simp [go_sem]
    · rw [hb.cell (p := ⟨x4.heap.size, 3, none⟩) (by simp)]; simp [go_sem]
    · rw [hb.cell (p := ⟨x4.heap.size + 1, 0, none⟩) (by simp)]; simp [go_sem]
    · rw [hb.cell (p := ⟨x4.heap.size + 1, 1, none⟩) (by simp)]; simp [go_sem]
    · rw [hb.cell (p := ⟨x4.heap.size + 1, 2, none⟩) (by simp)]; simp [go_sem]
    · rw [hb.cell (p := ⟨x4.heap.size + 1, 3, none⟩) (by simp)]; simp [go_sem]
  have Z0 : Hid (((x4.alloc (.cells #[.int .i64 cX.a.op, .int .i64 cX.a.num, .string cX.a.name, .slice cX.a.ptr (len cX.k) cX.a.cap] 26)).alloc (.cells #[.int .i64 cY.a.op, .int .i64 cY.a.num, .string cY.a.name, .slice cY.a.ptr (len cY.k) cY.a.cap] 26)).heap.size = x4.heap.size + 2) := by unfold Hid; simp
  go_wp2_with fail
  generalize hy0 : ((x4.alloc (.cells #[.int .i64 cX.a.op, .int .i64 cX.a.num, .string cX.a.name, .slice cX.a.ptr (len cX.k) cX.a.cap] 26)).alloc (.cells #[.int .i64 cY.a.op, .int .i64 cY.a.num, .string cY.a.name, .slice cY.a.ptr (len cY.k) cY.a.cap] 26)) = y0 at *
  clear hy0
  have B4y : Hid (Below w.heap.size w y0) := B4.out.trans (K0.out.mono B4.out.size)
  refine (bExpr_any (.slice p1 n1 cap1) n1 sc 1 y0 (H1.out.fore B4y.out (Nat.le_refl _)) HS.out (by decide)).mono ?_
  rintro e x5 ⟨cP, rfl, hp, hx, hb⟩
  have PP : Hid (Bx sc 1 40 4 cP) := bx_plain hp
  have XP5 := Lib.hid hx
  have Y5 : Hid (Below (x4.heap.size + 2) y0 x5) := by rw [← Z0.out]; exact hb
  have B5 := Lib.hid (B4y.out.trans (hb.mono B4y.out.size))
  have hz5 : Hid (x4.heap.size + 2 ≤ x5.heap.size) := by unfold Hid; rw [← Z0.out]; exact hb.size
  clear hp hx hb
  go_wp2_with fail
  refine (bExpr_any (.slice p0 n0 cap0) n0 sc 1 x5 (H0.out.fore B5.out (Nat.le_refl _)) HS.out (by decide)).mono ?_
  rintro e x6 ⟨cQ, rfl, hp, hx, hb⟩
  have PQ : Hid (Bx sc 1 40 4 cQ) := bx_plain hp
  have XQ6 := Lib.hid hx
  have XP6 := Lib.hid (XP5.out.next hb)
  have Y6 : Hid (Below (x4.heap.size + 2) y0 x6) := Y5.out.trans (hb.mono hz5.out)
  have hz6 : Hid (x4.heap.size + 2 ≤ x6.heap.size) := Nat.le_trans hz5.out hb.size
  have B6 := Lib.hid (B5.out.trans (hb.mono B5.out.size))
  clear hp hx hb
  have K1 : Hid (Below x6.heap.size x6 ((x6.alloc (.cells #[.int .i64 cP.a.op, .int .i64 cP.a.num, .string cP.a.name, .slice cP.a.ptr (len cP.k) cP.a.cap] 26)).alloc (.cells #[.int .i64 cQ.a.op, .int .i64 cQ.a.num, .string cQ.a.name, .slice cQ.a.ptr (len cQ.k) cQ.a.cap] 26))) := ((Below.refl _ _).alloc (Nat.le_refl _) _).alloc (by simp) _
  have BC : Hid (∀ wr, Below (x6.heap.size + 2) ((x6.alloc (.cells #[.int .i64 cP.a.op, .int .i64 cP.a.num, .string cP.a.name, .slice cP.a.ptr (len cP.k) cP.a.cap] 26)).alloc (.cells #[.int .i64 cQ.a.op, .int .i64 cQ.a.num, .string cQ.a.name, .slice cQ.a.ptr (len cQ.k) cQ.a.cap] 26)) wr → (wr.cell? ⟨x6.heap.size, 0, none⟩ = some (.int .i64 cP.a.op) ∧ wr.cell? ⟨x6.heap.size, 1, none⟩ = some (.int .i64 cP.a.num) ∧ wr.cell? ⟨x6.heap.size, 2, none⟩ = some (.string cP.a.name) ∧ wr.cell? ⟨x6.heap.size, 3, none⟩ = some (.slice cP.a.ptr (len cP.k) cP.a.cap)) ∧ (wr.cell? ⟨x6.heap.size + 1, 0, none⟩ = some (.int .i64 cQ.a.op) ∧ wr.cell? ⟨x6.heap.size + 1, 1, none⟩ = some (.int .i64 cQ.a.num) ∧ wr.cell? ⟨x6.heap.size + 1, 2, none⟩ = some (.string cQ.a.name) ∧ wr.cell? ⟨x6.heap.size + 1, 3, none⟩ = some (.slice cQ.a.ptr (len cQ.k) cQ.a.cap))) := by
    intro wr hb
    refine ⟨⟨?_, ?_, ?_, ?_⟩, ?_, ?_, ?_, ?_⟩
    · rw [hb.cell (p := ⟨x6.heap.size, 0, none⟩) (by simp)]; simp [go_sem]
    · rw [hb.cell (p := ⟨x6.heap.size, 1, none⟩) (by simp)]; simp [go_sem]
    · rw [hb.cell (p := ⟨x6.heap.size, 2, none⟩) (by simp)]; simp [go_sem]
    · rw [hb.cell (p := ⟨x6.heap.size, 3, none⟩) (by simp)]; simp [go_sem]
    · rw [hb.cell (p := ⟨x6.heap.size + 1, 0, none⟩) (by simp)]; simp [go_sem]
    · rw [hb.cell (p := ⟨x6.heap.size + 1, 1, none⟩) (by simp)]; simp [go_sem]
    · rw [hb.cell (p := ⟨x6.heap.size + 1, 2, none⟩) (by simp)]; simp [go_sem]
    · rw [hb.cell (p := ⟨x6.heap.size + 1, 3, none⟩) (by simp)]; simp [go_sem]
  have Z1 : Hid (((x6.alloc (.cells #[.int .i64 cP.a.op, .int .i64 cP.a.num, .string cP.a.name, .slice cP.a.ptr (len cP.k) cP.a.cap] 26)).alloc (.cells #[.int .i64 cQ.a.op, .int .i64 cQ.a.num, .string cQ.a.name, .slice cQ.a.ptr (len cQ.k) cQ.a.cap] 26)).heap.size = x6.heap.size + 2) := by unfold Hid; simp
  have hzz6 := hz6.out
  go_upto_region 5 with (fail)
  generalize hy1 : ((x6.alloc (.cells #[.int .i64 cP.a.op, .int .i64 cP.a.num, .string cP.a.name, .slice cP.a.ptr (len cP.k) cP.a.cap] 26)).alloc (.cells #[.int .i64 cQ.a.op, .int .i64 cQ.a.num, .string cQ.a.name, .slice cQ.a.ptr (len cQ.k) cQ.a.cap] 26)) = y1 at *
  clear hy1 hzz6
  have ST : Hid (∀ wr, Below (x6.heap.size + 2) y1 wr → AvV wr L ap ∧ ExAt wr cX.b cX.o cX.a cX.k ∧ ExAt wr cY.b cY.o cY.a cY.k ∧ ExAt wr cP.b cP.o cP.a cP.k ∧ ExAt wr cQ.b cQ.o cQ.a cQ.k ∧ Below w.heap.size w wr ∧ Below (x4.heap.size + 2) y0 wr ∧ x6.heap.size + 2 ≤ wr.heap.size) := by
    intro wr hb
    have h9 : Below x6.heap.size x6 wr := K1.out.trans (hb.mono (by omega))
    have h8 : Below (x4.heap.size + 2) y0 wr := Y6.out.trans (h9.mono hz6.out)
    have h7 : Below x4.heap.size x4 wr := K0.out.trans (h8.mono (by omega))
    exact ⟨AV4.out.fore h7, XX4.out.next h7, XY4.out.next h7, XP6.out.next h9, XQ6.out.next h9, B6.out.trans (h9.mono B6.out.size), h8, by rw [← Z1.out]; exact hb.size⟩
  have BX : Hid (∀ wr, Below (x6.heap.size + 2) y1 wr → (wr.cell? ⟨x4.heap.size, 0, none⟩ = some (.int .i64 cX.a.op) ∧ wr.cell? ⟨x4.heap.size, 1, none⟩ = some (.int .i64 cX.a.num) ∧ wr.cell? ⟨x4.heap.size, 2, none⟩ = some (.string cX.a.name) ∧ wr.cell? ⟨x4.heap.size, 3, none⟩ = some (.slice cX.a.ptr (len cX.k) cX.a.cap)) ∧ (wr.cell? ⟨x4.heap.size + 1, 0, none⟩ = some (.int .i64 cY.a.op) ∧ wr.cell? ⟨x4.heap.size + 1, 1, none⟩ = some (.int .i64 cY.a.num) ∧ wr.cell? ⟨x4.heap.size + 1, 2, none⟩ = some (.string cY.a.name) ∧ wr.cell? ⟨x4.heap.size + 1, 3, none⟩ = some (.slice cY.a.ptr (len cY.k) cY.a.cap)) ∧ (wr.cell? ⟨x6.heap.size, 0, none⟩ = some (.int .i64 cP.a.op) ∧ wr.cell? ⟨x6.heap.size, 1, none⟩ = some (.int .i64 cP.a.num) ∧ wr.cell? ⟨x6.heap.size, 2, none⟩ = some (.string cP.a.name) ∧ wr.cell? ⟨x6.heap.size, 3, none⟩ = some (.slice cP.a.ptr (len cP.k) cP.a.cap)) ∧ (wr.cell? ⟨x6.heap.size + 1, 0, none⟩ = some (.int .i64 cQ.a.op) ∧ wr.cell? ⟨x6.heap.size + 1, 1, none⟩ = some (.int .i64 cQ.a.num) ∧ wr.cell? ⟨x6.heap.size + 1, 2, none⟩ = some (.string cQ.a.name) ∧ wr.cell? ⟨x6.heap.size + 1, 3, none⟩ = some (.slice cQ.a.ptr (len cQ.k) cQ.a.cap))) := by
    intro wr hb
    have q1 := BA.out wr (ST.out wr hb).2.2.2.2.2.2.1
    have q2 := BC.out wr hb
    exact ⟨q1.1, q1.2, q2.1, q2.2⟩
  have Y1 : Hid (Below (x6.heap.size + 2) y1 y1) := Below.refl _ _
  have YW : Hid (∀ w, Ext y1.drew w → Below (x6.heap.size + 2) y1 w) := fun w h => Y1.out.drew.trans (Below.mono h (ST.out y1 Y1.out).2.2.2.2.2.2.2)
  have KX := Lib.hid (kd_one (nm := nmB sc L) PX.out)
  have KY := Lib.hid (kd_one (nm := nmB sc L) PY.out)
  have KP := Lib.hid (kd_one (nm := nmB sc L) PP.out)
  have KQ := Lib.hid (kd_one (nm := nmB sc L) PQ.out)
  have LP : Hid _ := logic_plain (exv (nmB sc L) cX) (exv (nmB sc L) cY) (exv (nmB sc L) cP) (exv (nmB sc L) cQ) ((bx_eval (bcs 0) sc 4 40 4 L cX PX.out (by omega) (by omega) (bcs_look 0) AO.out).2.2.2 rfl) ((bx_eval (bcs 0) sc 4 40 4 L cY PY.out (by omega) (by omega) (bcs_look 0) AO.out).2.2.2 rfl)
  generalize exv (nmB sc L) cX = fX at *
  generalize exv (nmB sc L) cY = fY at *
  generalize exv (nmB sc L) cP = fP at *
  generalize exv (nmB sc L) cQ = fQ at *
  refine plan_tbl lgT (lgG (.int .i64 sc) (.slice ap L.length acap) cX cY cP cQ) 106 (fun _ _ _ => True) (by kernel_rfl) (by kernel_rfl) (fun i v w w' h he => Wd.ext h he) (fun _ _ _ _ _ _ => trivial) ?hst ?hpu ?hla ?hfin
  case hst =>
    intro i o ho hz
    match i, ho with
    | 0, ho => obtain rfl := Option.some.inj ho; intro a w hx hol hdep hwar; exact ⟨rfl, st_run (run_move a.eval _ _ _ _ _ w _ _ (hol 3 rfl)) (Ext.refl _) rfl⟩
    | 1, ho => obtain rfl := Option.some.inj ho; intro a w hx hol hdep hwar; exact ⟨rfl, st_run (run_move a.eval _ _ _ _ _ w _ _ (hol 9 rfl)) (Ext.refl _) rfl⟩
    | 2, ho => obtain rfl := Option.some.inj ho; intro a w hx hol hdep hwar; have q := (BX.out w (YW.out w hx)).1; exact ⟨rfl, st_run (run_loadE a.eval _ _ _ _ _ w _ x4.heap.size _ _ _ _ (hol 10 rfl) q.1 q.2.1 q.2.2.1 q.2.2.2) (Ext.refl _) ⟨cX, rfl, rfl, (ST.out w (YW.out w hx)).2.1⟩⟩
    | 3, ho => obtain rfl := Option.some.inj ho; intro a w hx hol hdep hwar; have q := (BX.out w (YW.out w hx)).2.1; exact ⟨rfl, st_run (run_loadE a.eval _ _ _ _ _ w _ (x4.heap.size + 1) _ _ _ _ (hol 11 rfl) q.1 q.2.1 q.2.2.1 q.2.2.2) (Ext.refl _) ⟨cY, rfl, rfl, (ST.out w (YW.out w hx)).2.2.1⟩⟩
    | 4, ho => obtain rfl := Option.some.inj ho; intro a w hx hol hdep hwar; obtain ⟨v, w', h1, h2, h3⟩ := build2 a.eval _ _ _ _ _ w (show valG (oneK cX) (a.eval (.tmp 35)) w from hdep 35 2 rfl rfl) (show valG (oneK cY) (a.eval (.tmp 36)) w from hdep 36 3 rfl rfl); exact ⟨rfl, st_run h1 h2 h3⟩
    | 5, ho => obtain rfl := Option.some.inj ho; intro a w hx hol hdep hwar; exact ⟨rfl, st_enter (run_call a.eval _ _ _ _ _ w _ _ _ Try.func18 (by kernel_rfl) rfl rfl (map2 _ _ _)) (node2 20 (show rowG2 (oneK cX) (oneK cY) (a.tmps.getD 37 undef) w from hdep 37 4 rfl rfl))⟩
    | 6, ho => obtain rfl := Option.some.inj ho; intro a w hx hol hdep hwar; exact ⟨rfl, st_enter (run_call a.eval _ _ _ _ _ w _ _ _ Try.func17 (by kernel_rfl) rfl rfl (map1 _ _)) (notG (show valG (nodK2 20 (oneK cX) (oneK cY)) (a.tmps.getD 38 undef) w from hdep 38 5 rfl rfl))⟩
    | 7, ho => obtain rfl := Option.some.inj ho; intro a w hx hol hdep hwar; have q := (BX.out w (YW.out w hx)).1; exact ⟨rfl, st_run (run_loadE a.eval _ _ _ _ _ w _ x4.heap.size _ _ _ _ (hol 10 rfl) q.1 q.2.1 q.2.2.1 q.2.2.2) (Ext.refl _) ⟨cX, rfl, rfl, (ST.out w (YW.out w hx)).2.1⟩⟩
    | 8, ho => obtain rfl := Option.some.inj ho; intro a w hx hol hdep hwar; exact ⟨rfl, st_enter (run_call a.eval _ _ _ _ _ w _ _ _ Try.func17 (by kernel_rfl) rfl rfl (map1 _ _)) (notG (show valG (oneK cX) (a.tmps.getD 40 undef) w from hdep 40 7 rfl rfl))⟩
    | 9, ho => obtain rfl := Option.some.inj ho; intro a w hx hol hdep hwar; have q := (BX.out w (YW.out w hx)).2.1; exact ⟨rfl, st_run (run_loadE a.eval _ _ _ _ _ w _ (x4.heap.size + 1) _ _ _ _ (hol 11 rfl) q.1 q.2.1 q.2.2.1 q.2.2.2) (Ext.refl _) ⟨cY, rfl, rfl, (ST.out w (YW.out w hx)).2.2.1⟩⟩
    | 10, ho => obtain rfl := Option.some.inj ho; intro a w hx hol hdep hwar; exact ⟨rfl, st_enter (run_call a.eval _ _ _ _ _ w _ _ _ Try.func17 (by kernel_rfl) rfl rfl (map1 _ _)) (notG (show valG (oneK cY) (a.tmps.getD 42 undef) w from hdep 42 9 rfl rfl))⟩
    | 11, ho => obtain rfl := Option.some.inj ho; intro a w hx hol hdep hwar; obtain ⟨v, w', h1, h2, h3⟩ := build2 a.eval _ _ _ _ _ w (show valG (nodK 19 (oneK cX)) (a.eval (.tmp 41)) w from hdep 41 8 rfl rfl) (show valG (nodK 19 (oneK cY)) (a.eval (.tmp 43)) w from hdep 43 10 rfl rfl); exact ⟨rfl, st_run h1 h2 h3⟩
    | 12, ho => obtain rfl := Option.some.inj ho; intro a w hx hol hdep hwar; exact ⟨rfl, st_enter (run_call a.eval _ _ _ _ _ w _ _ _ Try.func18 (by kernel_rfl) rfl rfl (map2 _ _ _)) (node2 21 (show rowG2 (nodK 19 (oneK cX)) (nodK 19 (oneK cY)) (a.tmps.getD 44 undef) w from hdep 44 11 rfl rfl))⟩
    | 13, ho =>
      obtain rfl := Option.some.inj ho
      intro a w hx hol hdep hwar
      have hs1 : a.tmps.getD 33 undef = .int .i64 sc := hdep 33 0 rfl rfl
      have hs2 : a.tmps.getD 34 undef = .slice ap L.length acap := hdep 34 1 rfl rfl
      exact ⟨rfl, st_enter (run_call a.eval _ _ _ _ _ w _ #[.int .i64 sc, .slice ap L.length acap, a.tmps.getD 39 undef, a.tmps.getD 45 undef] _ Try.func16 (by kernel_rfl) rfl rfl (by rw [map4]; show #[a.tmps.getD 33 undef, a.tmps.getD 34 undef, a.tmps.getD 39 undef, a.tmps.getD 45 undef] = _; rw [hs1, hs2])) (sameG (S := 190) (D := 8) (ST.out w (YW.out w hx)).1 ((kd_nod 19 4 (kd_nod2 20 4 (KX.out.mono (Nat.le_refl _) (show 4 ≤ 6 by decide)) (KY.out.mono (Nat.le_refl _) (show 4 ≤ 6 by decide)) (by decide) rfl rfl (by decide)) (by decide) rfl rfl (by decide)).mono (by decide) (by decide)) ((kd_nod2 21 4 (kd_nod 19 4 (KX.out.mono (Nat.le_refl _) (show 4 ≤ 6 by decide)) (by decide) rfl rfl (by decide)) (kd_nod 19 4 (KY.out.mono (Nat.le_refl _) (show 4 ≤ 6 by decide)) (by decide) rfl rfl (by decide)) (by decide) rfl rfl (by decide)).mono (by decide) (by decide)) LP.out.1 (by decide) (by decide) AO.out (show valG (nodK 19 (nodK2 20 (oneK cX) (oneK cY))) (a.tmps.getD 39 undef) w from hdep 39 6 rfl rfl) (show valG (nodK2 21 (nodK 19 (oneK cX)) (nodK 19 (oneK cY))) (a.tmps.getD 45 undef) w from hdep 45 12 rfl rfl))⟩
    | 14, ho => obtain rfl := Option.some.inj ho; intro a w hx hol hdep hwar; exact ⟨rfl, st_run (run_move a.eval _ _ _ _ _ w _ _ (hdep 46 13 rfl rfl)) (Ext.refl _) rfl⟩
    | 15, ho => obtain rfl := Option.some.inj ho; intro a w hx hol hdep hwar; exact ⟨want_of rfl rfl rfl (hdep 47 14 rfl rfl), st_run (run_move a.eval _ _ _ _ _ w _ _ (hol 3 rfl)) (Ext.refl _) rfl⟩
    | 16, ho => obtain rfl := Option.some.inj ho; intro a w hx hol hdep hwar; exact ⟨want_of rfl rfl rfl (hdep 47 14 rfl rfl), st_run (run_move a.eval _ _ _ _ _ w _ _ (hol 9 rfl)) (Ext.refl _) rfl⟩
    | 17, ho => obtain rfl := Option.some.inj ho; intro a w hx hol hdep hwar; have q := (BX.out w (YW.out w hx)).1; exact ⟨want_of rfl rfl rfl (hdep 47 14 rfl rfl), st_run (run_loadE a.eval _ _ _ _ _ w _ x4.heap.size _ _ _ _ (hol 10 rfl) q.1 q.2.1 q.2.2.1 q.2.2.2) (Ext.refl _) ⟨cX, rfl, rfl, (ST.out w (YW.out w hx)).2.1⟩⟩
    | 18, ho => obtain rfl := Option.some.inj ho; intro a w hx hol hdep hwar; have q := (BX.out w (YW.out w hx)).2.1; exact ⟨want_of rfl rfl rfl (hdep 47 14 rfl rfl), st_run (run_loadE a.eval _ _ _ _ _ w _ (x4.heap.size + 1) _ _ _ _ (hol 11 rfl) q.1 q.2.1 q.2.2.1 q.2.2.2) (Ext.refl _) ⟨cY, rfl, rfl, (ST.out w (YW.out w hx)).2.2.1⟩⟩
    | 19, ho => obtain rfl := Option.some.inj ho; intro a w hx hol hdep hwar; obtain ⟨v, w', h1, h2, h3⟩ := build2 a.eval _ _ _ _ _ w (show valG (oneK cX) (a.eval (.tmp 50)) w from hdep 50 17 rfl rfl) (show valG (oneK cY) (a.eval (.tmp 51)) w from hdep 51 18 rfl rfl); exact ⟨want_of rfl rfl rfl (hdep 47 14 rfl rfl), st_run h1 h2 h3⟩
    | 20, ho => obtain rfl := Option.some.inj ho; intro a w hx hol hdep hwar; exact ⟨want_of rfl rfl rfl (hdep 47 14 rfl rfl), st_enter (run_call a.eval _ _ _ _ _ w _ _ _ Try.func18 (by kernel_rfl) rfl rfl (map2 _ _ _)) (node2 21 (show rowG2 (oneK cX) (oneK cY) (a.tmps.getD 52 undef) w from hdep 52 19 rfl rfl))⟩
    | 21, ho => obtain rfl := Option.some.inj ho; intro a w hx hol hdep hwar; exact ⟨want_of rfl rfl rfl (hdep 47 14 rfl rfl), st_enter (run_call a.eval _ _ _ _ _ w _ _ _ Try.func17 (by kernel_rfl) rfl rfl (map1 _ _)) (notG (show valG (nodK2 21 (oneK cX) (oneK cY)) (a.tmps.getD 53 undef) w from hdep 53 20 rfl rfl))⟩
    | 22, ho => obtain rfl := Option.some.inj ho; intro a w hx hol hdep hwar; have q := (BX.out w (YW.out w hx)).1; exact ⟨want_of rfl rfl rfl (hdep 47 14 rfl rfl), st_run (run_loadE a.eval _ _ _ _ _ w _ x4.heap.size _ _ _ _ (hol 10 rfl) q.1 q.2.1 q.2.2.1 q.2.2.2) (Ext.refl _) ⟨cX, rfl, rfl, (ST.out w (YW.out w hx)).2.1⟩⟩
    | 23, ho => obtain rfl := Option.some.inj ho; intro a w hx hol hdep hwar; exact ⟨want_of rfl rfl rfl (hdep 47 14 rfl rfl), st_enter (run_call a.eval _ _ _ _ _ w _ _ _ Try.func17 (by kernel_rfl) rfl rfl (map1 _ _)) (notG (show valG (oneK cX) (a.tmps.getD 55 undef) w from hdep 55 22 rfl rfl))⟩
    | 24, ho => obtain rfl := Option.some.inj ho; intro a w hx hol hdep hwar; have q := (BX.out w (YW.out w hx)).2.1; exact ⟨want_of rfl rfl rfl (hdep 47 14 rfl rfl), st_run (run_loadE a.eval _ _ _ _ _ w _ (x4.heap.size + 1) _ _ _ _ (hol 11 rfl) q.1 q.2.1 q.2.2.1 q.2.2.2) (Ext.refl _) ⟨cY, rfl, rfl, (ST.out w (YW.out w hx)).2.2.1⟩⟩
    | 25, ho => obtain rfl := Option.some.inj ho; intro a w hx hol hdep hwar; exact ⟨want_of rfl rfl rfl (hdep 47 14 rfl rfl), st_enter (run_call a.eval _ _ _ _ _ w _ _ _ Try.func17 (by kernel_rfl) rfl rfl (map1 _ _)) (notG (show valG (oneK cY) (a.tmps.getD 57 undef) w from hdep 57 24 rfl rfl))⟩
    | 26, ho => obtain rfl := Option.some.inj ho; intro a w hx hol hdep hwar; obtain ⟨v, w', h1, h2, h3⟩ := build2 a.eval _ _ _ _ _ w (show valG (nodK 19 (oneK cX)) (a.eval (.tmp 56)) w from hdep 56 23 rfl rfl) (show valG (nodK 19 (oneK cY)) (a.eval (.tmp 58)) w from hdep 58 25 rfl rfl); exact ⟨want_of rfl rfl rfl (hdep 47 14 rfl rfl), st_run h1 h2 h3⟩
    | 27, ho => obtain rfl := Option.some.inj ho; intro a w hx hol hdep hwar; exact ⟨want_of rfl rfl rfl (hdep 47 14 rfl rfl), st_enter (run_call a.eval _ _ _ _ _ w _ _ _ Try.func18 (by kernel_rfl) rfl rfl (map2 _ _ _)) (node2 20 (show rowG2 (nodK 19 (oneK cX)) (nodK 19 (oneK cY)) (a.tmps.getD 59 undef) w from hdep 59 26 rfl rfl))⟩
    | 28, ho =>
      obtain rfl := Option.some.inj ho
      intro a w hx hol hdep hwar
      have hs1 : a.tmps.getD 48 undef = .int .i64 sc := hdep 48 15 rfl rfl
      have hs2 : a.tmps.getD 49 undef = .slice ap L.length acap := hdep 49 16 rfl rfl
      exact ⟨want_of rfl rfl rfl (hdep 47 14 rfl rfl), st_enter (run_call a.eval _ _ _ _ _ w _ #[.int .i64 sc, .slice ap L.length acap, a.tmps.getD 54 undef, a.tmps.getD 60 undef] _ Try.func16 (by kernel_rfl) rfl rfl (by rw [map4]; show #[a.tmps.getD 48 undef, a.tmps.getD 49 undef, a.tmps.getD 54 undef, a.tmps.getD 60 undef] = _; rw [hs1, hs2])) (sameG (S := 190) (D := 8) (ST.out w (YW.out w hx)).1 ((kd_nod 19 4 (kd_nod2 21 4 (KX.out.mono (Nat.le_refl _) (show 4 ≤ 6 by decide)) (KY.out.mono (Nat.le_refl _) (show 4 ≤ 6 by decide)) (by decide) rfl rfl (by decide)) (by decide) rfl rfl (by decide)).mono (by decide) (by decide)) ((kd_nod2 20 4 (kd_nod 19 4 (KX.out.mono (Nat.le_refl _) (show 4 ≤ 6 by decide)) (by decide) rfl rfl (by decide)) (kd_nod 19 4 (KY.out.mono (Nat.le_refl _) (show 4 ≤ 6 by decide)) (by decide) rfl rfl (by decide)) (by decide) rfl rfl (by decide)).mono (by decide) (by decide)) LP.out.2.1 (by decide) (by decide) AO.out (show valG (nodK 19 (nodK2 21 (oneK cX) (oneK cY))) (a.tmps.getD 54 undef) w from hdep 54 21 rfl rfl) (show valG (nodK2 20 (nodK 19 (oneK cX)) (nodK 19 (oneK cY))) (a.tmps.getD 60 undef) w from hdep 60 27 rfl rfl))⟩
    | 29, ho => obtain rfl := Option.some.inj ho; intro a w hx hol hdep hwar; exact ⟨rfl, st_run (run_pick a.eval _ _ _ _ _ w _ _ _ (hdep 47 14 rfl rfl) (hdep 61 28 rfl rfl)) (Ext.refl _) rfl⟩
    | 30, ho => obtain rfl := Option.some.inj ho; intro a w hx hol hdep hwar; exact ⟨rfl, st_run (run_move a.eval _ _ _ _ _ w _ _ (hdep 62 29 rfl rfl)) (Ext.refl _) rfl⟩
    | 31, ho => obtain rfl := Option.some.inj ho; intro a w hx hol hdep hwar; exact ⟨want_of rfl rfl rfl (hdep 63 30 rfl rfl), st_run (run_move a.eval _ _ _ _ _ w _ _ (hol 3 rfl)) (Ext.refl _) rfl⟩
    | 32, ho => obtain rfl := Option.some.inj ho; intro a w hx hol hdep hwar; exact ⟨want_of rfl rfl rfl (hdep 63 30 rfl rfl), st_run (run_move a.eval _ _ _ _ _ w _ _ (hol 9 rfl)) (Ext.refl _) rfl⟩
    | 33, ho => obtain rfl := Option.some.inj ho; intro a w hx hol hdep hwar; have q := (BX.out w (YW.out w hx)).1; exact ⟨want_of rfl rfl rfl (hdep 63 30 rfl rfl), st_run (run_loadE a.eval _ _ _ _ _ w _ x4.heap.size _ _ _ _ (hol 10 rfl) q.1 q.2.1 q.2.2.1 q.2.2.2) (Ext.refl _) ⟨cX, rfl, rfl, (ST.out w (YW.out w hx)).2.1⟩⟩
    | 34, ho => obtain rfl := Option.some.inj ho; intro a w hx hol hdep hwar; have q := (BX.out w (YW.out w hx)).2.1; exact ⟨want_of rfl rfl rfl (hdep 63 30 rfl rfl), st_run (run_loadE a.eval _ _ _ _ _ w _ (x4.heap.size + 1) _ _ _ _ (hol 11 rfl) q.1 q.2.1 q.2.2.1 q.2.2.2) (Ext.refl _) ⟨cY, rfl, rfl, (ST.out w (YW.out w hx)).2.2.1⟩⟩
    | 35, ho => obtain rfl := Option.some.inj ho; intro a w hx hol hdep hwar; obtain ⟨v, w', h1, h2, h3⟩ := build2 a.eval _ _ _ _ _ w (show valG (oneK cX) (a.eval (.tmp 66)) w from hdep 66 33 rfl rfl) (show valG (oneK cY) (a.eval (.tmp 67)) w from hdep 67 34 rfl rfl); exact ⟨want_of rfl rfl rfl (hdep 63 30 rfl rfl), st_run h1 h2 h3⟩
    | 36, ho => obtain rfl := Option.some.inj ho; intro a w hx hol hdep hwar; exact ⟨want_of rfl rfl rfl (hdep 63 30 rfl rfl), st_enter (run_call a.eval _ _ _ _ _ w _ _ _ Try.func18 (by kernel_rfl) rfl rfl (map2 _ _ _)) (node2 22 (show rowG2 (oneK cX) (oneK cY) (a.tmps.getD 68 undef) w from hdep 68 35 rfl rfl))⟩
    | 37, ho => obtain rfl := Option.some.inj ho; intro a w hx hol hdep hwar; have q := (BX.out w (YW.out w hx)).1; exact ⟨want_of rfl rfl rfl (hdep 63 30 rfl rfl), st_run (run_loadE a.eval _ _ _ _ _ w _ x4.heap.size _ _ _ _ (hol 10 rfl) q.1 q.2.1 q.2.2.1 q.2.2.2) (Ext.refl _) ⟨cX, rfl, rfl, (ST.out w (YW.out w hx)).2.1⟩⟩
    | 38, ho => obtain rfl := Option.some.inj ho; intro a w hx hol hdep hwar; exact ⟨want_of rfl rfl rfl (hdep 63 30 rfl rfl), st_enter (run_call a.eval _ _ _ _ _ w _ _ _ Try.func17 (by kernel_rfl) rfl rfl (map1 _ _)) (notG (show valG (oneK cX) (a.tmps.getD 70 undef) w from hdep 70 37 rfl rfl))⟩
    | 39, ho => obtain rfl := Option.some.inj ho; intro a w hx hol hdep hwar; have q := (BX.out w (YW.out w hx)).2.1; exact ⟨want_of rfl rfl rfl (hdep 63 30 rfl rfl), st_run (run_loadE a.eval _ _ _ _ _ w _ (x4.heap.size + 1) _ _ _ _ (hol 11 rfl) q.1 q.2.1 q.2.2.1 q.2.2.2) (Ext.refl _) ⟨cY, rfl, rfl, (ST.out w (YW.out w hx)).2.2.1⟩⟩
    | 40, ho => obtain rfl := Option.some.inj ho; intro a w hx hol hdep hwar; obtain ⟨v, w', h1, h2, h3⟩ := build2 a.eval _ _ _ _ _ w (show valG (nodK 19 (oneK cX)) (a.eval (.tmp 71)) w from hdep 71 38 rfl rfl) (show valG (oneK cY) (a.eval (.tmp 72)) w from hdep 72 39 rfl rfl); exact ⟨want_of rfl rfl rfl (hdep 63 30 rfl rfl), st_run h1 h2 h3⟩
    | 41, ho => obtain rfl := Option.some.inj ho; intro a w hx hol hdep hwar; exact ⟨want_of rfl rfl rfl (hdep 63 30 rfl rfl), st_enter (run_call a.eval _ _ _ _ _ w _ _ _ Try.func18 (by kernel_rfl) rfl rfl (map2 _ _ _)) (node2 21 (show rowG2 (nodK 19 (oneK cX)) (oneK cY) (a.tmps.getD 73 undef) w from hdep 73 40 rfl rfl))⟩
    | 42, ho =>
      obtain rfl := Option.some.inj ho
      intro a w hx hol hdep hwar
      have hs1 : a.tmps.getD 64 undef = .int .i64 sc := hdep 64 31 rfl rfl
      have hs2 : a.tmps.getD 65 undef = .slice ap L.length acap := hdep 65 32 rfl rfl
      exact ⟨want_of rfl rfl rfl (hdep 63 30 rfl rfl), st_enter (run_call a.eval _ _ _ _ _ w _ #[.int .i64 sc, .slice ap L.length acap, a.tmps.getD 69 undef, a.tmps.getD 74 undef] _ Try.func16 (by kernel_rfl) rfl rfl (by rw [map4]; show #[a.tmps.getD 64 undef, a.tmps.getD 65 undef, a.tmps.getD 69 undef, a.tmps.getD 74 undef] = _; rw [hs1, hs2])) (sameG (S := 190) (D := 8) (ST.out w (YW.out w hx)).1 ((kd_nod2 22 4 (KX.out.mono (Nat.le_refl _) (show 4 ≤ 7 by decide)) (KY.out.mono (Nat.le_refl _) (show 4 ≤ 7 by decide)) (by decide) rfl rfl (by decide)).mono (by decide) (by decide)) ((kd_nod2 21 4 (kd_nod 19 4 (KX.out.mono (Nat.le_refl _) (show 4 ≤ 6 by decide)) (by decide) rfl rfl (by decide)) (KY.out.mono (Nat.le_refl _) (show 4 ≤ 7 by decide)) (by decide) rfl rfl (by decide)).mono (by decide) (by decide)) LP.out.2.2.1 (by decide) (by decide) AO.out (show valG (nodK2 22 (oneK cX) (oneK cY)) (a.tmps.getD 69 undef) w from hdep 69 36 rfl rfl) (show valG (nodK2 21 (nodK 19 (oneK cX)) (oneK cY)) (a.tmps.getD 74 undef) w from hdep 74 41 rfl rfl))⟩
    | 43, ho => obtain rfl := Option.some.inj ho; intro a w hx hol hdep hwar; exact ⟨rfl, st_run (run_pick a.eval _ _ _ _ _ w _ _ _ (hdep 63 30 rfl rfl) (hdep 75 42 rfl rfl)) (Ext.refl _) rfl⟩
    | 44, ho => obtain rfl := Option.some.inj ho; intro a w hx hol hdep hwar; exact ⟨rfl, st_run (run_move a.eval _ _ _ _ _ w _ _ (hdep 76 43 rfl rfl)) (Ext.refl _) rfl⟩
    | 45, ho => obtain rfl := Option.some.inj ho; intro a w hx hol hdep hwar; exact ⟨want_of rfl rfl rfl (hdep 77 44 rfl rfl), st_run (run_move a.eval _ _ _ _ _ w _ _ (hol 3 rfl)) (Ext.refl _) rfl⟩
    | 46, ho => obtain rfl := Option.some.inj ho; intro a w hx hol hdep hwar; exact ⟨want_of rfl rfl rfl (hdep 77 44 rfl rfl), st_run (run_move a.eval _ _ _ _ _ w _ _ (hol 9 rfl)) (Ext.refl _) rfl⟩
    | 47, ho => obtain rfl := Option.some.inj ho; intro a w hx hol hdep hwar; have q := (BX.out w (YW.out w hx)).1; exact ⟨want_of rfl rfl rfl (hdep 77 44 rfl rfl), st_run (run_loadE a.eval _ _ _ _ _ w _ x4.heap.size _ _ _ _ (hol 10 rfl) q.1 q.2.1 q.2.2.1 q.2.2.2) (Ext.refl _) ⟨cX, rfl, rfl, (ST.out w (YW.out w hx)).2.1⟩⟩
    | 48, ho => obtain rfl := Option.some.inj ho; intro a w hx hol hdep hwar; exact ⟨want_of rfl rfl rfl (hdep 77 44 rfl rfl), st_enter (run_call a.eval _ _ _ _ _ w _ _ _ Try.func17 (by kernel_rfl) rfl rfl (map1 _ _)) (notG (show valG (oneK cX) (a.tmps.getD 80 undef) w from hdep 80 47 rfl rfl))⟩
    | 49, ho => obtain rfl := Option.some.inj ho; intro a w hx hol hdep hwar; exact ⟨want_of rfl rfl rfl (hdep 77 44 rfl rfl), st_enter (run_call a.eval _ _ _ _ _ w _ _ _ Try.func17 (by kernel_rfl) rfl rfl (map1 _ _)) (notG (show valG (nodK 19 (oneK cX)) (a.tmps.getD 81 undef) w from hdep 81 48 rfl rfl))⟩
    | 50, ho => obtain rfl := Option.some.inj ho; intro a w hx hol hdep hwar; have q := (BX.out w (YW.out w hx)).1; exact ⟨want_of rfl rfl rfl (hdep 77 44 rfl rfl), st_run (run_loadE a.eval _ _ _ _ _ w _ x4.heap.size _ _ _ _ (hol 10 rfl) q.1 q.2.1 q.2.2.1 q.2.2.2) (Ext.refl _) ⟨cX, rfl, rfl, (ST.out w (YW.out w hx)).2.1⟩⟩
    | 51, ho =>
      obtain rfl := Option.some.inj ho
      intro a w hx hol hdep hwar
      have hs1 : a.tmps.getD 78 undef = .int .i64 sc := hdep 78 45 rfl rfl
      have hs2 : a.tmps.getD 79 undef = .slice ap L.length acap := hdep 79 46 rfl rfl
      exact ⟨want_of rfl rfl rfl (hdep 77 44 rfl rfl), st_enter (run_call a.eval _ _ _ _ _ w _ #[.int .i64 sc, .slice ap L.length acap, a.tmps.getD 82 undef, a.tmps.getD 83 undef] _ Try.func16 (by kernel_rfl) rfl rfl (by rw [map4]; show #[a.tmps.getD 78 undef, a.tmps.getD 79 undef, a.tmps.getD 82 undef, a.tmps.getD 83 undef] = _; rw [hs1, hs2])) (sameG (S := 190) (D := 8) (ST.out w (YW.out w hx)).1 ((kd_nod 19 4 (kd_nod 19 4 (KX.out.mono (Nat.le_refl _) (show 4 ≤ 6 by decide)) (by decide) rfl rfl (by decide)) (by decide) rfl rfl (by decide)).mono (by decide) (by decide)) ((KX.out.mono (Nat.le_refl _) (show 4 ≤ 8 by decide)).mono (by decide) (by decide)) LP.out.2.2.2.1 (by decide) (by decide) AO.out (show valG (nodK 19 (nodK 19 (oneK cX))) (a.tmps.getD 82 undef) w from hdep 82 49 rfl rfl) (show valG (oneK cX) (a.tmps.getD 83 undef) w from hdep 83 50 rfl rfl))⟩
    | 52, ho => obtain rfl := Option.some.inj ho; intro a w hx hol hdep hwar; exact ⟨rfl, st_run (run_pick a.eval _ _ _ _ _ w _ _ _ (hdep 77 44 rfl rfl) (hdep 84 51 rfl rfl)) (Ext.refl _) rfl⟩
    | 53, ho => obtain rfl := Option.some.inj ho; intro a w hx hol hdep hwar; exact ⟨rfl, st_run (run_move a.eval _ _ _ _ _ w _ _ (hdep 85 52 rfl rfl)) (Ext.refl _) rfl⟩
    | 54, ho => obtain rfl := Option.some.inj ho; intro a w hx hol hdep hwar; exact ⟨want_of rfl rfl rfl (hdep 86 53 rfl rfl), st_run (run_move a.eval _ _ _ _ _ w _ _ (hol 3 rfl)) (Ext.refl _) rfl⟩
    | 55, ho => obtain rfl := Option.some.inj ho; intro a w hx hol hdep hwar; exact ⟨want_of rfl rfl rfl (hdep 86 53 rfl rfl), st_run (run_move a.eval _ _ _ _ _ w _ _ (hol 9 rfl)) (Ext.refl _) rfl⟩
    | 56, ho => obtain rfl := Option.some.inj ho; intro a w hx hol hdep hwar; have q := (BX.out w (YW.out w hx)).2.2.1; exact ⟨want_of rfl rfl rfl (hdep 86 53 rfl rfl), st_run (run_loadE a.eval _ _ _ _ _ w _ x6.heap.size _ _ _ _ (hol 12 rfl) q.1 q.2.1 q.2.2.1 q.2.2.2) (Ext.refl _) ⟨cP, rfl, rfl, (ST.out w (YW.out w hx)).2.2.2.1⟩⟩
    | 57, ho => obtain rfl := Option.some.inj ho; intro a w hx hol hdep hwar; have q := (BX.out w (YW.out w hx)).2.2.2; exact ⟨want_of rfl rfl rfl (hdep 86 53 rfl rfl), st_run (run_loadE a.eval _ _ _ _ _ w _ (x6.heap.size + 1) _ _ _ _ (hol 13 rfl) q.1 q.2.1 q.2.2.1 q.2.2.2) (Ext.refl _) ⟨cQ, rfl, rfl, (ST.out w (YW.out w hx)).2.2.2.2.1⟩⟩
    | 58, ho => obtain rfl := Option.some.inj ho; intro a w hx hol hdep hwar; obtain ⟨v, w', h1, h2, h3⟩ := build2 a.eval _ _ _ _ _ w (show valG (oneK cP) (a.eval (.tmp 89)) w from hdep 89 56 rfl rfl) (show valG (oneK cQ) (a.eval (.tmp 90)) w from hdep 90 57 rfl rfl); exact ⟨want_of rfl rfl rfl (hdep 86 53 rfl rfl), st_run h1 h2 h3⟩
    | 59, ho => obtain rfl := Option.some.inj ho; intro a w hx hol hdep hwar; exact ⟨want_of rfl rfl rfl (hdep 86 53 rfl rfl), st_enter (run_call a.eval _ _ _ _ _ w _ _ _ Try.func18 (by kernel_rfl) rfl rfl (map2 _ _ _)) (node2 16 (show rowG2 (oneK cP) (oneK cQ) (a.tmps.getD 91 undef) w from hdep 91 58 rfl rfl))⟩
    | 60, ho => obtain rfl := Option.some.inj ho; intro a w hx hol hdep hwar; have q := (BX.out w (YW.out w hx)).2.2.2; exact ⟨want_of rfl rfl rfl (hdep 86 53 rfl rfl), st_run (run_loadE a.eval _ _ _ _ _ w _ (x6.heap.size + 1) _ _ _ _ (hol 13 rfl) q.1 q.2.1 q.2.2.1 q.2.2.2) (Ext.refl _) ⟨cQ, rfl, rfl, (ST.out w (YW.out w hx)).2.2.2.2.1⟩⟩
    | 61, ho => obtain rfl := Option.some.inj ho; intro a w hx hol hdep hwar; have q := (BX.out w (YW.out w hx)).2.2.1; exact ⟨want_of rfl rfl rfl (hdep 86 53 rfl rfl), st_run (run_loadE a.eval _ _ _ _ _ w _ x6.heap.size _ _ _ _ (hol 12 rfl) q.1 q.2.1 q.2.2.1 q.2.2.2) (Ext.refl _) ⟨cP, rfl, rfl, (ST.out w (YW.out w hx)).2.2.2.1⟩⟩
    | 62, ho => obtain rfl := Option.some.inj ho; intro a w hx hol hdep hwar; obtain ⟨v, w', h1, h2, h3⟩ := build2 a.eval _ _ _ _ _ w (show valG (oneK cQ) (a.eval (.tmp 93)) w from hdep 93 60 rfl rfl) (show valG (oneK cP) (a.eval (.tmp 94)) w from hdep 94 61 rfl rfl); exact ⟨want_of rfl rfl rfl (hdep 86 53 rfl rfl), st_run h1 h2 h3⟩
    | 63, ho => obtain rfl := Option.some.inj ho; intro a w hx hol hdep hwar; exact ⟨want_of rfl rfl rfl (hdep 86 53 rfl rfl), st_enter (run_call a.eval _ _ _ _ _ w _ _ _ Try.func18 (by kernel_rfl) rfl rfl (map2 _ _ _)) (node2 17 (show rowG2 (oneK cQ) (oneK cP) (a.tmps.getD 95 undef) w from hdep 95 62 rfl rfl))⟩
    | 64, ho => obtain rfl := Option.some.inj ho; intro a w hx hol hdep hwar; exact ⟨want_of rfl rfl rfl (hdep 86 53 rfl rfl), st_enter (run_call a.eval _ _ _ _ _ w _ _ _ Try.func17 (by kernel_rfl) rfl rfl (map1 _ _)) (notG (show valG (nodK2 17 (oneK cQ) (oneK cP)) (a.tmps.getD 96 undef) w from hdep 96 63 rfl rfl))⟩
    | 65, ho =>
      obtain rfl := Option.some.inj ho
      intro a w hx hol hdep hwar
      have hs1 : a.tmps.getD 87 undef = .int .i64 sc := hdep 87 54 rfl rfl
      have hs2 : a.tmps.getD 88 undef = .slice ap L.length acap := hdep 88 55 rfl rfl
      exact ⟨want_of rfl rfl rfl (hdep 86 53 rfl rfl), st_enter (run_call a.eval _ _ _ _ _ w _ #[.int .i64 sc, .slice ap L.length acap, a.tmps.getD 92 undef, a.tmps.getD 97 undef] _ Try.func16 (by kernel_rfl) rfl rfl (by rw [map4]; show #[a.tmps.getD 87 undef, a.tmps.getD 88 undef, a.tmps.getD 92 undef, a.tmps.getD 97 undef] = _; rw [hs1, hs2])) (sameG (S := 190) (D := 8) (ST.out w (YW.out w hx)).1 ((kd_nod2 16 4 (KP.out.mono (Nat.le_refl _) (show 4 ≤ 7 by decide)) (KQ.out.mono (Nat.le_refl _) (show 4 ≤ 7 by decide)) (by decide) rfl rfl (by decide)).mono (by decide) (by decide)) ((kd_nod 19 4 (kd_nod2 17 4 (KQ.out.mono (Nat.le_refl _) (show 4 ≤ 6 by decide)) (KP.out.mono (Nat.le_refl _) (show 4 ≤ 6 by decide)) (by decide) rfl rfl (by decide)) (by decide) rfl rfl (by decide)).mono (by decide) (by decide)) LP.out.2.2.2.2.1 (by decide) (by decide) AO.out (show valG (nodK2 16 (oneK cP) (oneK cQ)) (a.tmps.getD 92 undef) w from hdep 92 59 rfl rfl) (show valG (nodK 19 (nodK2 17 (oneK cQ) (oneK cP))) (a.tmps.getD 97 undef) w from hdep 97 64 rfl rfl))⟩
    | 66, ho => obtain rfl := Option.some.inj ho; intro a w hx hol hdep hwar; exact ⟨rfl, st_run (run_pick a.eval _ _ _ _ _ w _ _ _ (hdep 86 53 rfl rfl) (hdep 98 65 rfl rfl)) (Ext.refl _) rfl⟩
    | 67, ho => obtain rfl := Option.some.inj ho; intro a w hx hol hdep hwar; exact ⟨rfl, st_run (run_move a.eval _ _ _ _ _ w _ _ (hdep 99 66 rfl rfl)) (Ext.refl _) rfl⟩
    | 68, ho => obtain rfl := Option.some.inj ho; intro a w hx hol hdep hwar; exact ⟨want_of rfl rfl rfl (hdep 100 67 rfl rfl), st_run (run_move a.eval _ _ _ _ _ w _ _ (hol 3 rfl)) (Ext.refl _) rfl⟩
    | 69, ho => obtain rfl := Option.some.inj ho; intro a w hx hol hdep hwar; exact ⟨want_of rfl rfl rfl (hdep 100 67 rfl rfl), st_run (run_move a.eval _ _ _ _ _ w _ _ (hol 9 rfl)) (Ext.refl _) rfl⟩
    | 70, ho => obtain rfl := Option.some.inj ho; intro a w hx hol hdep hwar; have q := (BX.out w (YW.out w hx)).2.2.1; exact ⟨want_of rfl rfl rfl (hdep 100 67 rfl rfl), st_run (run_loadE a.eval _ _ _ _ _ w _ x6.heap.size _ _ _ _ (hol 12 rfl) q.1 q.2.1 q.2.2.1 q.2.2.2) (Ext.refl _) ⟨cP, rfl, rfl, (ST.out w (YW.out w hx)).2.2.2.1⟩⟩
    | 71, ho => obtain rfl := Option.some.inj ho; intro a w hx hol hdep hwar; have q := (BX.out w (YW.out w hx)).2.2.2; exact ⟨want_of rfl rfl rfl (hdep 100 67 rfl rfl), st_run (run_loadE a.eval _ _ _ _ _ w _ (x6.heap.size + 1) _ _ _ _ (hol 13 rfl) q.1 q.2.1 q.2.2.1 q.2.2.2) (Ext.refl _) ⟨cQ, rfl, rfl, (ST.out w (YW.out w hx)).2.2.2.2.1⟩⟩
    | 72, ho => obtain rfl := Option.some.inj ho; intro a w hx hol hdep hwar; obtain ⟨v, w', h1, h2, h3⟩ := build2 a.eval _ _ _ _ _ w (show valG (oneK cP) (a.eval (.tmp 103)) w from hdep 103 70 rfl rfl) (show valG (oneK cQ) (a.eval (.tmp 104)) w from hdep 104 71 rfl rfl); exact ⟨want_of rfl rfl rfl (hdep 100 67 rfl rfl), st_run h1 h2 h3⟩
    | 73, ho => obtain rfl := Option.some.inj ho; intro a w hx hol hdep hwar; exact ⟨want_of rfl rfl rfl (hdep 100 67 rfl rfl), st_enter (run_call a.eval _ _ _ _ _ w _ _ _ Try.func18 (by kernel_rfl) rfl rfl (map2 _ _ _)) (node2 18 (show rowG2 (oneK cP) (oneK cQ) (a.tmps.getD 105 undef) w from hdep 105 72 rfl rfl))⟩
    | 74, ho => obtain rfl := Option.some.inj ho; intro a w hx hol hdep hwar; have q := (BX.out w (YW.out w hx)).2.2.1; exact ⟨want_of rfl rfl rfl (hdep 100 67 rfl rfl), st_run (run_loadE a.eval _ _ _ _ _ w _ x6.heap.size _ _ _ _ (hol 12 rfl) q.1 q.2.1 q.2.2.1 q.2.2.2) (Ext.refl _) ⟨cP, rfl, rfl, (ST.out w (YW.out w hx)).2.2.2.1⟩⟩
    | 75, ho => obtain rfl := Option.some.inj ho; intro a w hx hol hdep hwar; have q := (BX.out w (YW.out w hx)).2.2.2; exact ⟨want_of rfl rfl rfl (hdep 100 67 rfl rfl), st_run (run_loadE a.eval _ _ _ _ _ w _ (x6.heap.size + 1) _ _ _ _ (hol 13 rfl) q.1 q.2.1 q.2.2.1 q.2.2.2) (Ext.refl _) ⟨cQ, rfl, rfl, (ST.out w (YW.out w hx)).2.2.2.2.1⟩⟩
    | 76, ho => obtain rfl := Option.some.inj ho; intro a w hx hol hdep hwar; obtain ⟨v, w', h1, h2, h3⟩ := build2 a.eval _ _ _ _ _ w (show valG (oneK cP) (a.eval (.tmp 107)) w from hdep 107 74 rfl rfl) (show valG (oneK cQ) (a.eval (.tmp 108)) w from hdep 108 75 rfl rfl); exact ⟨want_of rfl rfl rfl (hdep 100 67 rfl rfl), st_run h1 h2 h3⟩
    | 77, ho => obtain rfl := Option.some.inj ho; intro a w hx hol hdep hwar; exact ⟨want_of rfl rfl rfl (hdep 100 67 rfl rfl), st_enter (run_call a.eval _ _ _ _ _ w _ _ _ Try.func18 (by kernel_rfl) rfl rfl (map2 _ _ _)) (node2 17 (show rowG2 (oneK cP) (oneK cQ) (a.tmps.getD 109 undef) w from hdep 109 76 rfl rfl))⟩
    | 78, ho => obtain rfl := Option.some.inj ho; intro a w hx hol hdep hwar; have q := (BX.out w (YW.out w hx)).2.2.2; exact ⟨want_of rfl rfl rfl (hdep 100 67 rfl rfl), st_run (run_loadE a.eval _ _ _ _ _ w _ (x6.heap.size + 1) _ _ _ _ (hol 13 rfl) q.1 q.2.1 q.2.2.1 q.2.2.2) (Ext.refl _) ⟨cQ, rfl, rfl, (ST.out w (YW.out w hx)).2.2.2.2.1⟩⟩
    | 79, ho => obtain rfl := Option.some.inj ho; intro a w hx hol hdep hwar; have q := (BX.out w (YW.out w hx)).2.2.1; exact ⟨want_of rfl rfl rfl (hdep 100 67 rfl rfl), st_run (run_loadE a.eval _ _ _ _ _ w _ x6.heap.size _ _ _ _ (hol 12 rfl) q.1 q.2.1 q.2.2.1 q.2.2.2) (Ext.refl _) ⟨cP, rfl, rfl, (ST.out w (YW.out w hx)).2.2.2.1⟩⟩
    | 80, ho => obtain rfl := Option.some.inj ho; intro a w hx hol hdep hwar; obtain ⟨v, w', h1, h2, h3⟩ := build2 a.eval _ _ _ _ _ w (show valG (oneK cQ) (a.eval (.tmp 111)) w from hdep 111 78 rfl rfl) (show valG (oneK cP) (a.eval (.tmp 112)) w from hdep 112 79 rfl rfl); exact ⟨want_of rfl rfl rfl (hdep 100 67 rfl rfl), st_run h1 h2 h3⟩
    | 81, ho => obtain rfl := Option.some.inj ho; intro a w hx hol hdep hwar; exact ⟨want_of rfl rfl rfl (hdep 100 67 rfl rfl), st_enter (run_call a.eval _ _ _ _ _ w _ _ _ Try.func18 (by kernel_rfl) rfl rfl (map2 _ _ _)) (node2 17 (show rowG2 (oneK cQ) (oneK cP) (a.tmps.getD 113 undef) w from hdep 113 80 rfl rfl))⟩
    | 82, ho => obtain rfl := Option.some.inj ho; intro a w hx hol hdep hwar; obtain ⟨v, w', h1, h2, h3⟩ := build2 a.eval _ _ _ _ _ w (show valG (nodK2 17 (oneK cP) (oneK cQ)) (a.eval (.tmp 110)) w from hdep 110 77 rfl rfl) (show valG (nodK2 17 (oneK cQ) (oneK cP)) (a.eval (.tmp 114)) w from hdep 114 81 rfl rfl); exact ⟨want_of rfl rfl rfl (hdep 100 67 rfl rfl), st_run h1 h2 h3⟩
    | 83, ho => obtain rfl := Option.some.inj ho; intro a w hx hol hdep hwar; exact ⟨want_of rfl rfl rfl (hdep 100 67 rfl rfl), st_enter (run_call a.eval _ _ _ _ _ w _ _ _ Try.func18 (by kernel_rfl) rfl rfl (map2 _ _ _)) (node2 20 (show rowG2 (nodK2 17 (oneK cP) (oneK cQ)) (nodK2 17 (oneK cQ) (oneK cP)) (a.tmps.getD 115 undef) w from hdep 115 82 rfl rfl))⟩
    | 84, ho =>
      obtain rfl := Option.some.inj ho
      intro a w hx hol hdep hwar
      have hs1 : a.tmps.getD 101 undef = .int .i64 sc := hdep 101 68 rfl rfl
      have hs2 : a.tmps.getD 102 undef = .slice ap L.length acap := hdep 102 69 rfl rfl
      exact ⟨want_of rfl rfl rfl (hdep 100 67 rfl rfl), st_enter (run_call a.eval _ _ _ _ _ w _ #[.int .i64 sc, .slice ap L.length acap, a.tmps.getD 106 undef, a.tmps.getD 116 undef] _ Try.func16 (by kernel_rfl) rfl rfl (by rw [map4]; show #[a.tmps.getD 101 undef, a.tmps.getD 102 undef, a.tmps.getD 106 undef, a.tmps.getD 116 undef] = _; rw [hs1, hs2])) (sameG (S := 190) (D := 8) (ST.out w (YW.out w hx)).1 ((kd_nod2 18 4 (KP.out.mono (Nat.le_refl _) (show 4 ≤ 7 by decide)) (KQ.out.mono (Nat.le_refl _) (show 4 ≤ 7 by decide)) (by decide) rfl rfl (by decide)).mono (by decide) (by decide)) ((kd_nod2 20 4 (kd_nod2 17 4 (KP.out.mono (Nat.le_refl _) (show 4 ≤ 6 by decide)) (KQ.out.mono (Nat.le_refl _) (show 4 ≤ 6 by decide)) (by decide) rfl rfl (by decide)) (kd_nod2 17 4 (KQ.out.mono (Nat.le_refl _) (show 4 ≤ 6 by decide)) (KP.out.mono (Nat.le_refl _) (show 4 ≤ 6 by decide)) (by decide) rfl rfl (by decide)) (by decide) rfl rfl (by decide)).mono (by decide) (by decide)) LP.out.2.2.2.2.2.1 (by decide) (by decide) AO.out (show valG (nodK2 18 (oneK cP) (oneK cQ)) (a.tmps.getD 106 undef) w from hdep 106 73 rfl rfl) (show valG (nodK2 20 (nodK2 17 (oneK cP) (oneK cQ)) (nodK2 17 (oneK cQ) (oneK cP))) (a.tmps.getD 116 undef) w from hdep 116 83 rfl rfl))⟩
    | 85, ho => obtain rfl := Option.some.inj ho; intro a w hx hol hdep hwar; exact ⟨rfl, st_run (run_pick a.eval _ _ _ _ _ w _ _ _ (hdep 100 67 rfl rfl) (hdep 117 84 rfl rfl)) (Ext.refl _) rfl⟩
    | 86, ho => obtain rfl := Option.some.inj ho; intro a w hx hol hdep hwar; exact ⟨rfl, st_run (run_move a.eval _ _ _ _ _ w _ _ (hdep 118 85 rfl rfl)) (Ext.refl _) rfl⟩
    | 87, ho => obtain rfl := Option.some.inj ho; intro a w hx hol hdep hwar; exact ⟨want_of rfl rfl rfl (hdep 119 86 rfl rfl), st_run (run_move a.eval _ _ _ _ _ w _ _ (hol 3 rfl)) (Ext.refl _) rfl⟩
    | 88, ho => obtain rfl := Option.some.inj ho; intro a w hx hol hdep hwar; exact ⟨want_of rfl rfl rfl (hdep 119 86 rfl rfl), st_run (run_move a.eval _ _ _ _ _ w _ _ (hol 9 rfl)) (Ext.refl _) rfl⟩
    | 89, ho => obtain rfl := Option.some.inj ho; intro a w hx hol hdep hwar; have q := (BX.out w (YW.out w hx)).1; exact ⟨want_of rfl rfl rfl (hdep 119 86 rfl rfl), st_run (run_loadE a.eval _ _ _ _ _ w _ x4.heap.size _ _ _ _ (hol 10 rfl) q.1 q.2.1 q.2.2.1 q.2.2.2) (Ext.refl _) ⟨cX, rfl, rfl, (ST.out w (YW.out w hx)).2.1⟩⟩
    | 90, ho => obtain rfl := Option.some.inj ho; intro a w hx hol hdep hwar; have q := (BX.out w (YW.out w hx)).2.2.1; exact ⟨want_of rfl rfl rfl (hdep 119 86 rfl rfl), st_run (run_loadE a.eval _ _ _ _ _ w _ x6.heap.size _ _ _ _ (hol 12 rfl) q.1 q.2.1 q.2.2.1 q.2.2.2) (Ext.refl _) ⟨cP, rfl, rfl, (ST.out w (YW.out w hx)).2.2.2.1⟩⟩
    | 91, ho => obtain rfl := Option.some.inj ho; intro a w hx hol hdep hwar; have q := (BX.out w (YW.out w hx)).2.2.2; exact ⟨want_of rfl rfl rfl (hdep 119 86 rfl rfl), st_run (run_loadE a.eval _ _ _ _ _ w _ (x6.heap.size + 1) _ _ _ _ (hol 13 rfl) q.1 q.2.1 q.2.2.1 q.2.2.2) (Ext.refl _) ⟨cQ, rfl, rfl, (ST.out w (YW.out w hx)).2.2.2.2.1⟩⟩
    | 92, ho => obtain rfl := Option.some.inj ho; intro a w hx hol hdep hwar; obtain ⟨v, w', h1, h2, h3⟩ := build3 a.eval _ _ _ _ _ w (show valG (oneK cX) (a.eval (.tmp 122)) w from hdep 122 89 rfl rfl) (show valG (oneK cP) (a.eval (.tmp 123)) w from hdep 123 90 rfl rfl) (show valG (oneK cQ) (a.eval (.tmp 124)) w from hdep 124 91 rfl rfl); exact ⟨want_of rfl rfl rfl (hdep 119 86 rfl rfl), st_run h1 h2 h3⟩
    | 93, ho => obtain rfl := Option.some.inj ho; intro a w hx hol hdep hwar; exact ⟨want_of rfl rfl rfl (hdep 119 86 rfl rfl), st_enter (run_call a.eval _ _ _ _ _ w _ _ _ Try.func18 (by kernel_rfl) rfl rfl (map2 _ _ _)) (node3 14 (show rowG3 (oneK cX) (oneK cP) (oneK cQ) (a.tmps.getD 125 undef) w from hdep 125 92 rfl rfl))⟩
    | 94, ho => obtain rfl := Option.some.inj ho; intro a w hx hol hdep hwar; have q := (BX.out w (YW.out w hx)).1; exact ⟨want_of rfl rfl rfl (hdep 119 86 rfl rfl), st_run (run_loadE a.eval _ _ _ _ _ w _ x4.heap.size _ _ _ _ (hol 10 rfl) q.1 q.2.1 q.2.2.1 q.2.2.2) (Ext.refl _) ⟨cX, rfl, rfl, (ST.out w (YW.out w hx)).2.1⟩⟩
    | 95, ho => obtain rfl := Option.some.inj ho; intro a w hx hol hdep hwar; exact ⟨want_of rfl rfl rfl (hdep 119 86 rfl rfl), st_enter (run_call a.eval _ _ _ _ _ w _ _ _ Try.func17 (by kernel_rfl) rfl rfl (map1 _ _)) (notG (show valG (oneK cX) (a.tmps.getD 127 undef) w from hdep 127 94 rfl rfl))⟩
    | 96, ho => obtain rfl := Option.some.inj ho; intro a w hx hol hdep hwar; have q := (BX.out w (YW.out w hx)).2.2.2; exact ⟨want_of rfl rfl rfl (hdep 119 86 rfl rfl), st_run (run_loadE a.eval _ _ _ _ _ w _ (x6.heap.size + 1) _ _ _ _ (hol 13 rfl) q.1 q.2.1 q.2.2.1 q.2.2.2) (Ext.refl _) ⟨cQ, rfl, rfl, (ST.out w (YW.out w hx)).2.2.2.2.1⟩⟩
    | 97, ho => obtain rfl := Option.some.inj ho; intro a w hx hol hdep hwar; have q := (BX.out w (YW.out w hx)).2.2.1; exact ⟨want_of rfl rfl rfl (hdep 119 86 rfl rfl), st_run (run_loadE a.eval _ _ _ _ _ w _ x6.heap.size _ _ _ _ (hol 12 rfl) q.1 q.2.1 q.2.2.1 q.2.2.2) (Ext.refl _) ⟨cP, rfl, rfl, (ST.out w (YW.out w hx)).2.2.2.1⟩⟩
    | 98, ho => obtain rfl := Option.some.inj ho; intro a w hx hol hdep hwar; obtain ⟨v, w', h1, h2, h3⟩ := build3 a.eval _ _ _ _ _ w (show valG (nodK 19 (oneK cX)) (a.eval (.tmp 128)) w from hdep 128 95 rfl rfl) (show valG (oneK cQ) (a.eval (.tmp 129)) w from hdep 129 96 rfl rfl) (show valG (oneK cP) (a.eval (.tmp 130)) w from hdep 130 97 rfl rfl); exact ⟨want_of rfl rfl rfl (hdep 119 86 rfl rfl), st_run h1 h2 h3⟩
    | 99, ho => obtain rfl := Option.some.inj ho; intro a w hx hol hdep hwar; exact ⟨want_of rfl rfl rfl (hdep 119 86 rfl rfl), st_enter (run_call a.eval _ _ _ _ _ w _ _ _ Try.func18 (by kernel_rfl) rfl rfl (map2 _ _ _)) (node3 14 (show rowG3 (nodK 19 (oneK cX)) (oneK cQ) (oneK cP) (a.tmps.getD 131 undef) w from hdep 131 98 rfl rfl))⟩
    | 100, ho =>
      obtain rfl := Option.some.inj ho
      intro a w hx hol hdep hwar
      have hs1 : a.tmps.getD 120 undef = .int .i64 sc := hdep 120 87 rfl rfl
      have hs2 : a.tmps.getD 121 undef = .slice ap L.length acap := hdep 121 88 rfl rfl
      exact ⟨want_of rfl rfl rfl (hdep 119 86 rfl rfl), st_enter (run_call a.eval _ _ _ _ _ w _ #[.int .i64 sc, .slice ap L.length acap, a.tmps.getD 126 undef, a.tmps.getD 132 undef] _ Try.func16 (by kernel_rfl) rfl rfl (by rw [map4]; show #[a.tmps.getD 120 undef, a.tmps.getD 121 undef, a.tmps.getD 126 undef, a.tmps.getD 132 undef] = _; rw [hs1, hs2])) (sameG (S := 190) (D := 8) (ST.out w (YW.out w hx)).1 ((kd_nod3 14 1 (KX.out.mono (Nat.le_refl _) (show 4 ≤ 7 by decide)) (KP.out.mono (Nat.le_refl _) (show 4 ≤ 7 by decide)) (KQ.out.mono (Nat.le_refl _) (show 4 ≤ 7 by decide)) (by decide) rfl rfl (by decide)).mono (by decide) (by decide)) ((kd_nod3 14 1 (kd_nod 19 4 (KX.out.mono (Nat.le_refl _) (show 4 ≤ 6 by decide)) (by decide) rfl rfl (by decide)) (KQ.out.mono (Nat.le_refl _) (show 4 ≤ 7 by decide)) (KP.out.mono (Nat.le_refl _) (show 4 ≤ 7 by decide)) (by decide) rfl rfl (by decide)).mono (by decide) (by decide)) LP.out.2.2.2.2.2.2 (by decide) (by decide) AO.out (show valG (nodK3 14 (oneK cX) (oneK cP) (oneK cQ)) (a.tmps.getD 126 undef) w from hdep 126 93 rfl rfl) (show valG (nodK3 14 (nodK 19 (oneK cX)) (oneK cQ) (oneK cP)) (a.tmps.getD 132 undef) w from hdep 132 99 rfl rfl))⟩
    | 101, ho => obtain rfl := Option.some.inj ho; intro a w hx hol hdep hwar; exact ⟨rfl, st_run (run_pick a.eval _ _ _ _ _ w _ _ _ (hdep 119 86 rfl rfl) (hdep 133 100 rfl rfl)) (Ext.refl _) rfl⟩
    | 102, ho => obtain rfl := Option.some.inj ho; intro a w hx hol hdep hwar; exact ⟨rfl, st_run (run_move a.eval _ _ _ _ _ w _ _ (hdep 134 101 rfl rfl)) (Ext.refl _) rfl⟩
    | 103, ho =>
      obtain rfl := Option.some.inj ho
      intro a w hx hol hdep hwar
      refine ⟨want_of rfl rfl rfl (hdep 135 102 rfl rfl), st_enter (run_call a.eval _ _ _ _ _ w _ _ _ Try.func11 (by kernel_rfl) rfl rfl (map0 _)) ((AW.out w).mono ?_)⟩
      rintro e w' ⟨rfl, hb⟩
      exact ⟨_, rfl, hb, rfl⟩
    | 104, ho => obtain rfl := Option.some.inj ho; intro a w hx hol hdep hwar; exact ⟨rfl, st_run (run_pick a.eval _ _ _ _ _ w _ _ _ (hdep 135 102 rfl rfl) (hdep 136 103 rfl rfl)) (Ext.refl _) rfl⟩
    | 105, ho => obtain rfl := Option.some.inj ho; intro a w hx hol hdep hwar; exact ⟨rfl, st_run (run_assign a.eval _ _ _ _ _ w _ _ (hdep 137 104 rfl rfl)) (Ext.refl _) rfl⟩
    | n + 106, ho => cases ho
  case hpu => exact fun i o ho hz => .inr (.inl (of_decide_eq_true (by kernel_rfl)))
  case hla => intro o ho; cases ho
  case hfin =>
    rintro x w1 w' h1 h2 - h4
    obtain rfl := h4 (of_decide_eq_true (by kernel_rfl))
    have hx8 : x 8 = .bool true := h2 8 105 rfl
    have BW := Lib.hid (ST.out w' (YW.out w' h1)).2.2.2.2.2.1
    clear h2 h1
    dsimp only [frameT, lgT, List.foldl]
    rw [hx8]
    clear hx8
    generalize x 33 = q33
    generalize x 34 = q34
    generalize x 35 = q35
    generalize x 36 = q36
    generalize x 37 = q37
    generalize x 38 = q38
    generalize x 39 = q39
    generalize x 40 = q40
    generalize x 41 = q41
    generalize x 42 = q42
    generalize x 43 = q43
    generalize x 44 = q44
    generalize x 45 = q45
    generalize x 46 = q46
    generalize x 47 = q47
    generalize x 48 = q48
    generalize x 49 = q49
    generalize x 50 = q50
    generalize x 51 = q51
    generalize x 52 = q52
    generalize x 53 = q53
    generalize x 54 = q54
    generalize x 55 = q55
    generalize x 56 = q56
    generalize x 57 = q57
    generalize x 58 = q58
    generalize x 59 = q59
    generalize x 60 = q60
    generalize x 61 = q61
    generalize x 62 = q62
    generalize x 63 = q63
    generalize x 64 = q64
    generalize x 65 = q65
    generalize x 66 = q66
    generalize x 67 = q67
    generalize x 68 = q68
    generalize x 69 = q69
    generalize x 70 = q70
    generalize x 71 = q71
    generalize x 72 = q72
    generalize x 73 = q73
    generalize x 74 = q74
    generalize x 75 = q75
    generalize x 76 = q76
    generalize x 77 = q77
    generalize x 78 = q78
    generalize x 79 = q79
    generalize x 80 = q80
    generalize x 81 = q81
    generalize x 82 = q82
    generalize x 83 = q83
    generalize x 84 = q84
    generalize x 85 = q85
    generalize x 86 = q86
    generalize x 87 = q87
    generalize x 88 = q88
    generalize x 89 = q89
    generalize x 90 = q90
    generalize x 91 = q91
    generalize x 92 = q92
    generalize x 93 = q93
    generalize x 94 = q94
    generalize x 95 = q95
    generalize x 96 = q96
    generalize x 97 = q97
    generalize x 98 = q98
    generalize x 99 = q99
    generalize x 100 = q100
    generalize x 101 = q101
    generalize x 102 = q102
    generalize x 103 = q103
    generalize x 104 = q104
    generalize x 105 = q105
    generalize x 106 = q106
    generalize x 107 = q107
    generalize x 108 = q108
    generalize x 109 = q109
    generalize x 110 = q110
    generalize x 111 = q111
    generalize x 112 = q112
    generalize x 113 = q113
    generalize x 114 = q114
    generalize x 115 = q115
    generalize x 116 = q116
    generalize x 117 = q117
    generalize x 118 = q118
    generalize x 119 = q119
    generalize x 120 = q120
    generalize x 121 = q121
    generalize x 122 = q122
    generalize x 123 = q123
    generalize x 124 = q124
    generalize x 125 = q125
    generalize x 126 = q126
    generalize x 127 = q127
    generalize x 128 = q128
    generalize x 129 = q129
    generalize x 130 = q130
    generalize x 131 = q131
    generalize x 132 = q132
    generalize x 133 = q133
    generalize x 134 = q134
    generalize x 135 = q135
    generalize x 136 = q136
    generalize x 137 = q137
    go_simp
    go_wp2
    go_ret
    exact ⟨rfl, BW.out⟩

end Go.Proofs.Ytinbkhchhlkjgaa
