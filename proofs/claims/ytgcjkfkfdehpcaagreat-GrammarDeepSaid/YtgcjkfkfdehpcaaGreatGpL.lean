/-
  The walk of GrammarParses; pairinglaw12's awake.
-/
import Derived.Test.YtgcjkfkfdehpcaaGreatRzW
import Derived.Test.YtgcjkfkfdehpcaaGreatSam
namespace Go.Proofs.YtgcjkfkfdehpcaaGreat
set_option linter.unusedVariables false
set_option linter.unusedSimpArgs false
open Go.ChangeShapes Go.WideShapes Go.ChangeAt Go.RowKit
open Go.Deep (BT)

namespace Pz
theorem exok_nr {c : Ch} (h : ExOk (nr c).a (nr c).k) : ExOk c.a c.k := by
  unfold nr ExOk NdOk at h
  dsimp only at h
  rw [len_nrm, ok_nrm] at h
  exact h
theorem z0_ok : ExOk z0.a z0.k := ⟨⟨by decide, by decide, by decide, by decide⟩, trivial⟩
theorem px_ok (s : ByteArray) : ExOk (pxT s).1.a (pxT s).1.k := by
  unfold pxT
  split
  · exact z0_ok
  · split
    · rename_i x j hx
      split
      · exact z0_ok
      · split
        · exact (ex_good (scanT_valid s) (scanT_len s) hx).ok
        · exact z0_ok
    · exact z0_ok
end Pz
def awG : ByteArray := ⟨#[49, 32, 43, 32, 50, 32, 42, 32, 108, 101, 103, 115]⟩
theorem awg_scan : Tk.scanT awG = ([⟨⟨2, ⟨#[]⟩, 1⟩, 0⟩, ⟨⟨5, ⟨#[43]⟩, 0⟩, 2⟩, ⟨⟨2, ⟨#[]⟩, 2⟩, 4⟩, ⟨⟨5, ⟨#[42]⟩, 0⟩, 6⟩, ⟨⟨1, ⟨#[108, 101, 103, 115]⟩, 0⟩, 8⟩], 0, 0) := by kernel_rfl
theorem awg_px : Pz.pxT awG = (Pz.tn 8 [Pz.lf 1 1 ⟨#[]⟩, Pz.tn 10 [Pz.lf 1 2 ⟨#[]⟩, Pz.lf 6 0 ⟨#[108, 101, 103, 115]⟩]], 0, 0) := by kernel_rfl
theorem aw_shape {c x y z : Ch} (h : Pz.nr c = Pz.tn 8 [x, Pz.tn 10 [y, z]]) : c.a.op = 8 ∧ ∃ b1 o1 a1 k1 b2 o2 a2 k2, c.k = .node b1 o1 a1 k1 (.node b2 o2 a2 k2 .nil) ∧ a2.op = 10 := by
  obtain ⟨b, o, a, k⟩ := c
  unfold Pz.nr Pz.tn at h
  injection h with n1 n2 n3 n4
  injection n3 with m1 m2 m3
  refine ⟨m1, ?_⟩
  cases k with
  | nil => simp [Pz.nrm, rowF] at n4
  | node b1 o1 a1 k1 r =>
    simp only [Pz.nrm, rowF] at n4
    injection n4 with q1 q2 q3 q4 q5
    cases r with
    | nil => simp [Pz.nrm] at q5
    | node b2 o2 a2 k2 r2 =>
      simp only [Pz.nrm] at q5
      injection q5 with p1 p2 p3 p4 p5
      cases r2 with
      | nil =>
        injection p3 with t1 t2 t3
        exact ⟨b1, o1, a1, k1, b2, o2, a2, k2, rfl, t1⟩
      | node => simp [Pz.nrm] at p5

set_option maxHeartbeats 1000000 in
set_option maxRecDepth 100000 in
theorem gawake_any (w : World) : Calls Tryz.prog 6 #[] w fun e w' => e = .returned (.bool true) ∧ Below w.heap.size w w' := by
  go_enter Tryz.func6, Tryz.ntmps6
  go_wp2_with fail
  refine (pparse_any awG w (by decide)).mono ?_
  rintro e w1 ⟨c, rfl, hc, hx, hb⟩
  rw [awg_px] at hc ⊢
  dsimp only at hc ⊢
  obtain ⟨h8, b1, o1, a1, k1, b2, o2, a2, k2, hk, h10⟩ := aw_shape hc
  have B := Lib.hid hb
  obtain ⟨b, o, a, k⟩ := c
  dsimp only at h8 hk hx ⊢
  subst hk
  obtain ⟨op, num, name, ptr, cap⟩ := a
  dsimp only at h8 hx ⊢
  subst h8
  obtain ⟨hp, hf⟩ := hx
  obtain rfl : ptr = some ⟨b, o, none⟩ := hp (by simp)
  obtain ⟨-, -, -, ⟨d0, d1, d2, d3⟩, -⟩ := hf
  rw [h10] at d0
  have hl : len (BT.node b1 o1 a1 k1 (BT.node b2 o2 a2 k2 .nil)) = 2 := rfl
  rw [hl]
  have hbl := block_lt_of_cell d0
  simp at hbl
  clear hc hb hp d1 d2 d3 h10 hl
  go_wp2
  go_ret
  exact ⟨rfl, by first | exact B.out.alloc B.out.size _ | exact B.out⟩

set_option maxHeartbeats 1000000 in
set_option maxRecDepth 100000 in
theorem walk_grammarParses (s0 : ByteArray) (w : World) (w0 : s0.size ≤ 9223372036854775807) :
    Calls Tryz.prog 3 #[.string s0] w fun e w' => e = .returned (.bool true) ∧ Below w.heap.size w w' := by
  by_cases hs : 2000 < s0.size
  · have hs2 : (2000 : Int) < (s0.size : Int) := by omega
    go_enter Tryz.func3, Tryz.ntmps3
    go_wp2_with fail
    refine (gawake_any w).mono ?_
    rintro e w1 ⟨rfl, hb⟩
    have B := Lib.hid hb
    clear hb
    go_wp2
    go_ret
    exact ⟨rfl, B.out⟩
  · have hs2 : ¬ (2000 : Int) < (s0.size : Int) := by omega
    have OK := Lib.hid (Pz.px_ok s0)
    go_enter Tryz.func3, Tryz.ntmps3
    go_wp2_with fail
    refine (pparse_any s0 w w0).mono ?_
    have RP := Lib.hid (fun w => rparse_any s0 w w0)
    unfold PxP
    unfold PxP at RP
    generalize Pz.pxT s0 = r at *
    obtain ⟨x, at0, er⟩ := r
    dsimp only at OK RP ⊢
    rintro e w1 ⟨c, rfl, hc, hx, hb⟩
    have HC := Lib.hid hc
    have X1 := Lib.hid hx
    have B1 := Lib.hid hb
    clear hc hx hb
    go_upto_region 4 with (fail)
    have N1 : Hid (Below w1.heap.size w1 (w1.alloc (.cells #[.int .i64 c.a.op, .int .i64 c.a.num, .string c.a.name, .slice c.a.ptr (len c.k) c.a.cap] 25))) := (Below.refl _ _).alloc (Nat.le_refl _) _
    have C2 : Hid (Pz.B4 (w1.alloc (.cells #[.int .i64 c.a.op, .int .i64 c.a.num, .string c.a.name, .slice c.a.ptr (len c.k) c.a.cap] 25)) w1.heap.size c) := Pz.b4_alloc w1 c _ rfl _
    have X2 := Lib.hid (X1.out.next N1.out)
    have B2 := Lib.hid (B1.out.trans (N1.out.mono B1.out.size))
    generalize w1.heap.size = xb at *
    generalize w1.alloc (.cells #[.int .i64 c.a.op, .int .i64 c.a.num, .string c.a.name, .slice c.a.ptr (len c.k) c.a.cap] 25) = w2 at *
    clear N1 X1 B1
    go_wp2_with fail
    refine (RP.out w2).mono ?_
    rintro e w3 ⟨d, rfl, hd, hy, hb⟩
    have HD := Lib.hid hd
    have Y3 := Lib.hid hy
    have X3 := Lib.hid (X2.out.next hb)
    have C3 := Lib.hid (C2.out.next hb)
    have B3 := Lib.hid (B2.out.trans (hb.mono B2.out.size))
    clear hd hy hb X2 C2 B2 RP
    go_upto_region 5 with (fail)
    have N1 : Hid (Below w3.heap.size w3 (w3.alloc (.cells #[.int .i64 d.a.op, .int .i64 d.a.num, .string d.a.name, .slice d.a.ptr (len d.k) d.a.cap] 25))) := (Below.refl _ _).alloc (Nat.le_refl _) _
    have D4 : Hid (Pz.B4 (w3.alloc (.cells #[.int .i64 d.a.op, .int .i64 d.a.num, .string d.a.name, .slice d.a.ptr (len d.k) d.a.cap] 25)) w3.heap.size d) := Pz.b4_alloc w3 d _ rfl _
    have X4 := Lib.hid (X3.out.next N1.out)
    have Y4 := Lib.hid (Y3.out.next N1.out)
    have C4 := Lib.hid (C3.out.next N1.out)
    have B4 := Lib.hid (B3.out.trans (N1.out.mono B3.out.size))
    generalize w3.heap.size = yb at *
    generalize w3.alloc (.cells #[.int .i64 d.a.op, .int .i64 d.a.num, .string d.a.name, .slice d.a.ptr (len d.k) d.a.cap] 25) = w4 at *
    clear N1 X3 Y3 C3 B3
    obtain ⟨x0, x1, x2, x3, -, -, -, -, xl⟩ := C4.out
    obtain ⟨y0, y1, y2, y3, -, -, -, -, yl⟩ := D4.out
    have E : Hid (Pz.nr c = Pz.nr d) := HC.out.trans HD.out.symm
    have OC : Hid (ExOk c.a c.k) := Pz.exok_nr (by rw [HC.out]; exact OK.out)
    clear HC HD OK
    go_wp2_with fail
    refine (same_any17 c d w4 X4.out Y4.out OC.out E.out).mono ?_
    rintro e w5 ⟨rfl, hb⟩
    have B5 := Lib.hid (B4.out.trans (hb.mono B4.out.size))
    clear hb x0 x1 x2 x3 xl y0 y1 y2 y3 yl
    go_wp2_with fail
    refine (gawake_any w5).mono ?_
    rintro e w6 ⟨rfl, hb⟩
    have B6 := Lib.hid (B5.out.trans (hb.mono B5.out.size))
    clear hb
    go_wp2
    go_ret
    exact ⟨rfl, B6.out⟩

end Go.Proofs.YtgcjkfkfdehpcaaGreat
