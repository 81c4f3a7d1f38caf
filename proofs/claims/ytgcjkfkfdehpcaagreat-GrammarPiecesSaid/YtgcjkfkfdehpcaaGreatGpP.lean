/-
  The walk of GrammarPieces. Printed by wip/mkgp.py.
-/
import Derived.Test.YtgcjkfkfdehpcaaGreatGpL
import Derived.Test.YtgcjkfkfdehpcaaGreatAtb
namespace Go.Proofs.YtgcjkfkfdehpcaaGreat
set_option linter.unusedVariables false
set_option linter.unusedSimpArgs false
open Go.ChangeShapes Go.WideShapes Go.ChangeAt Go.RowKit
open Go.Deep (BT)

def pcW : List ByteArray := [⟨#[49]⟩, ⟨#[108, 101, 103, 115]⟩, ⟨#[98, 101, 102, 111, 114, 101, 46, 115, 112, 97, 110]⟩, ⟨#[55, 58, 51, 48]⟩, ⟨#[64, 48, 54, 58, 48, 48]⟩, ⟨#[43]⟩, ⟨#[45]⟩, ⟨#[42]⟩, ⟨#[47]⟩, ⟨#[40]⟩, ⟨#[41]⟩, ⟨#[44]⟩, ⟨#[60]⟩, ⟨#[60, 61]⟩, ⟨#[61]⟩, ⟨#[97, 110, 100]⟩, ⟨#[111, 114]⟩, ⟨#[110, 111, 116]⟩, ⟨#[105, 109, 112, 108, 105, 101, 115]⟩, ⟨#[105, 110]⟩, ⟨#[116, 111]⟩, ⟨#[105, 102]⟩, ⟨#[116, 104, 101, 110]⟩, ⟨#[101, 108, 115, 101]⟩, ⟨#[109, 105, 110]⟩, ⟨#[109, 97, 120]⟩, ⟨#[116, 114, 117, 101]⟩, ⟨#[102, 97, 108, 115, 101]⟩, ⟨#[40]⟩, ⟨#[41]⟩, ⟨#[108, 101, 103, 115]⟩, ⟨#[50]⟩]
theorem pc_cells : (#[Value.string ⟨#[49]⟩, Value.string ⟨#[108, 101, 103, 115]⟩, Value.string ⟨#[98, 101, 102, 111, 114, 101, 46, 115, 112, 97, 110]⟩, Value.string ⟨#[55, 58, 51, 48]⟩, Value.string ⟨#[64, 48, 54, 58, 48, 48]⟩, Value.string ⟨#[43]⟩, Value.string ⟨#[45]⟩, Value.string ⟨#[42]⟩, Value.string ⟨#[47]⟩, Value.string ⟨#[40]⟩, Value.string ⟨#[41]⟩, Value.string ⟨#[44]⟩, Value.string ⟨#[60]⟩, Value.string ⟨#[60, 61]⟩, Value.string ⟨#[61]⟩, Value.string ⟨#[97, 110, 100]⟩, Value.string ⟨#[111, 114]⟩, Value.string ⟨#[110, 111, 116]⟩, Value.string ⟨#[105, 109, 112, 108, 105, 101, 115]⟩, Value.string ⟨#[105, 110]⟩, Value.string ⟨#[116, 111]⟩, Value.string ⟨#[105, 102]⟩, Value.string ⟨#[116, 104, 101, 110]⟩, Value.string ⟨#[101, 108, 115, 101]⟩, Value.string ⟨#[109, 105, 110]⟩, Value.string ⟨#[109, 97, 120]⟩, Value.string ⟨#[116, 114, 117, 101]⟩, Value.string ⟨#[102, 97, 108, 115, 101]⟩, Value.string ⟨#[40]⟩, Value.string ⟨#[41]⟩, Value.string ⟨#[108, 101, 103, 115]⟩, Value.string ⟨#[50]⟩] : Array Value) = (pcW.map Value.string).toArray := rfl
theorem pc_small : ∀ x ∈ pcW, x.size ≤ 11 := by decide +kernel
set_option maxHeartbeats 2000000 in
set_option maxRecDepth 100000 in
theorem walk_grammarPieces (v0 : Value) (n0 : Nat) (w : World) (hl : IntsLA w v0 n0 w.heap.size) :
    Calls Tryz.prog 4 #[v0] w fun e w' => e = .returned (.bool true) ∧ Below w.heap.size w w' := by
  have HI := Lib.hid hl
  obtain ⟨p0, cap0, rfl, hn0, -⟩ := hl
  have WC : Hid (∀ i, i < 32 → ∃ x, pcW[i]? = some x ∧ x.size ≤ 11 ∧ (w.alloc (.cells #[.string ⟨#[49]⟩, .string ⟨#[108, 101, 103, 115]⟩, .string ⟨#[98, 101, 102, 111, 114, 101, 46, 115, 112, 97, 110]⟩, .string ⟨#[55, 58, 51, 48]⟩, .string ⟨#[64, 48, 54, 58, 48, 48]⟩, .string ⟨#[43]⟩, .string ⟨#[45]⟩, .string ⟨#[42]⟩, .string ⟨#[47]⟩, .string ⟨#[40]⟩, .string ⟨#[41]⟩, .string ⟨#[44]⟩, .string ⟨#[60]⟩, .string ⟨#[60, 61]⟩, .string ⟨#[61]⟩, .string ⟨#[97, 110, 100]⟩, .string ⟨#[111, 114]⟩, .string ⟨#[110, 111, 116]⟩, .string ⟨#[105, 109, 112, 108, 105, 101, 115]⟩, .string ⟨#[105, 110]⟩, .string ⟨#[116, 111]⟩, .string ⟨#[105, 102]⟩, .string ⟨#[116, 104, 101, 110]⟩, .string ⟨#[101, 108, 115, 101]⟩, .string ⟨#[109, 105, 110]⟩, .string ⟨#[109, 97, 120]⟩, .string ⟨#[116, 114, 117, 101]⟩, .string ⟨#[102, 97, 108, 115, 101]⟩, .string ⟨#[40]⟩, .string ⟨#[41]⟩, .string ⟨#[108, 101, 103, 115]⟩, .string ⟨#[50]⟩] 9)).cell? ⟨w.heap.size, i, none⟩ = some (.string x)) := by
    intro i hi
    have hlen : pcW.length = 32 := rfl
    refine ⟨pcW[i]'(by rw [hlen]; exact hi), List.getElem?_eq_getElem _, pc_small _ (List.getElem_mem _), ?_⟩
    rw [World.cell?_alloc_new, pc_cells, List.getElem?_toArray, List.getElem?_map, List.getElem?_eq_getElem (by rw [hlen]; exact hi)]
    rfl
  have B0 : Hid (Below w.heap.size w (w.alloc (.cells #[.string ⟨#[49]⟩, .string ⟨#[108, 101, 103, 115]⟩, .string ⟨#[98, 101, 102, 111, 114, 101, 46, 115, 112, 97, 110]⟩, .string ⟨#[55, 58, 51, 48]⟩, .string ⟨#[64, 48, 54, 58, 48, 48]⟩, .string ⟨#[43]⟩, .string ⟨#[45]⟩, .string ⟨#[42]⟩, .string ⟨#[47]⟩, .string ⟨#[40]⟩, .string ⟨#[41]⟩, .string ⟨#[44]⟩, .string ⟨#[60]⟩, .string ⟨#[60, 61]⟩, .string ⟨#[61]⟩, .string ⟨#[97, 110, 100]⟩, .string ⟨#[111, 114]⟩, .string ⟨#[110, 111, 116]⟩, .string ⟨#[105, 109, 112, 108, 105, 101, 115]⟩, .string ⟨#[105, 110]⟩, .string ⟨#[116, 111]⟩, .string ⟨#[105, 102]⟩, .string ⟨#[116, 104, 101, 110]⟩, .string ⟨#[101, 108, 115, 101]⟩, .string ⟨#[109, 105, 110]⟩, .string ⟨#[109, 97, 120]⟩, .string ⟨#[116, 114, 117, 101]⟩, .string ⟨#[102, 97, 108, 115, 101]⟩, .string ⟨#[40]⟩, .string ⟨#[41]⟩, .string ⟨#[108, 101, 103, 115]⟩, .string ⟨#[50]⟩] 9))) := (Below.refl _ _).alloc (Nat.le_refl _) _
  have hz0 : w.heap.size < (w.alloc (.cells #[.string ⟨#[49]⟩, .string ⟨#[108, 101, 103, 115]⟩, .string ⟨#[98, 101, 102, 111, 114, 101, 46, 115, 112, 97, 110]⟩, .string ⟨#[55, 58, 51, 48]⟩, .string ⟨#[64, 48, 54, 58, 48, 48]⟩, .string ⟨#[43]⟩, .string ⟨#[45]⟩, .string ⟨#[42]⟩, .string ⟨#[47]⟩, .string ⟨#[40]⟩, .string ⟨#[41]⟩, .string ⟨#[44]⟩, .string ⟨#[60]⟩, .string ⟨#[60, 61]⟩, .string ⟨#[61]⟩, .string ⟨#[97, 110, 100]⟩, .string ⟨#[111, 114]⟩, .string ⟨#[110, 111, 116]⟩, .string ⟨#[105, 109, 112, 108, 105, 101, 115]⟩, .string ⟨#[105, 110]⟩, .string ⟨#[116, 111]⟩, .string ⟨#[105, 102]⟩, .string ⟨#[116, 104, 101, 110]⟩, .string ⟨#[101, 108, 115, 101]⟩, .string ⟨#[109, 105, 110]⟩, .string ⟨#[109, 97, 120]⟩, .string ⟨#[116, 114, 117, 101]⟩, .string ⟨#[102, 97, 108, 115, 101]⟩, .string ⟨#[40]⟩, .string ⟨#[41]⟩, .string ⟨#[108, 101, 103, 115]⟩, .string ⟨#[50]⟩] 9)).heap.size := by simp
  go_enter Tryz.func4, Tryz.ntmps4
  go_wp2_with fail
  generalize w.alloc (.cells #[.string ⟨#[49]⟩, .string ⟨#[108, 101, 103, 115]⟩, .string ⟨#[98, 101, 102, 111, 114, 101, 46, 115, 112, 97, 110]⟩, .string ⟨#[55, 58, 51, 48]⟩, .string ⟨#[64, 48, 54, 58, 48, 48]⟩, .string ⟨#[43]⟩, .string ⟨#[45]⟩, .string ⟨#[42]⟩, .string ⟨#[47]⟩, .string ⟨#[40]⟩, .string ⟨#[41]⟩, .string ⟨#[44]⟩, .string ⟨#[60]⟩, .string ⟨#[60, 61]⟩, .string ⟨#[61]⟩, .string ⟨#[97, 110, 100]⟩, .string ⟨#[111, 114]⟩, .string ⟨#[110, 111, 116]⟩, .string ⟨#[105, 109, 112, 108, 105, 101, 115]⟩, .string ⟨#[105, 110]⟩, .string ⟨#[116, 111]⟩, .string ⟨#[105, 102]⟩, .string ⟨#[116, 104, 101, 110]⟩, .string ⟨#[101, 108, 115, 101]⟩, .string ⟨#[109, 105, 110]⟩, .string ⟨#[109, 97, 120]⟩, .string ⟨#[116, 114, 117, 101]⟩, .string ⟨#[102, 97, 108, 115, 101]⟩, .string ⟨#[40]⟩, .string ⟨#[41]⟩, .string ⟨#[108, 101, 103, 115]⟩, .string ⟨#[50]⟩] 9) = w1 at *
  go_loopg [4, 5] 16 (fun g s i wr => ∃ (S : ByteArray) (j : Nat), s = .string S ∧ i = .int .i64 j ∧ Hid (g = 16 - j ∧ j ≤ 16 ∧ S.size ≤ 12 * j ∧ Below w1.heap.size w1 wr))
  case atStart => exact ⟨⟨#[]⟩, 0, rfl, rfl, rfl, by omega, Nat.le_refl _, Below.refl _ _⟩
  case round =>
    obtain ⟨S, j, rfl, rfl, HR⟩ := hrel
    obtain ⟨hg0, hj, hS, hb⟩ := HR.out
    have HG := Lib.hid hg0
    have BR := Lib.hid hb
    clear HR hg0 hb
    have hj0 : (0 : Int) ≤ (j : Int) := by omega
    by_cases hc : j < n0 ∧ j < 16
    · obtain ⟨hc1, hc2⟩ := hc
      have h1 : (j : Int) < (n0 : Int) := by omega
      have h2 : (j : Int) < 16 := by omega
      go_wp2_with fail
      refine (at_anyA (.slice p0 n0 cap0) n0 w.heap.size j (j : Int) wr ((HI.out.below B0.out (Nat.le_refl _)).below BR.out (Nat.le_of_lt hz0)) (by omega) rfl).mono ?_
      rintro e w2 ⟨⟨m, rfl⟩, hb⟩
      have B2 := Lib.hid (BR.out.trans (hb.mono BR.out.size))
      obtain ⟨x, -, hx1, hx2⟩ := WC.out (m % 32) (Nat.mod_lt _ (by omega))
      have q1 : ((m : Nat) : Int).tmod 32 = ((m % 32 : Nat) : Int) := by rw [Int.tmod_eq_emod_of_nonneg (by omega)]; rfl
      have hi0 : (0 : Int) ≤ ((m % 32 : Nat) : Int) := by omega
      have hi1 : ((m % 32 : Nat) : Int) < 32 := by omega
      have hi2 : m % 32 < 32 := Nat.mod_lt _ (by omega)
      have hx : w2.cell? ⟨w.heap.size, m % 32, none⟩ = some (.string x) := by rw [B2.out.cell (p := ⟨w.heap.size, m % 32, none⟩) hz0]; exact hx2
      clear hb hx2
      generalize m % 32 = q at *
      go_wp2
      go_roundg (16 - (j + 1))
      case rel =>
        refine ⟨_, j + 1, rfl, by go_num, rfl, by omega, ?_, B2.out⟩
        rw [ByteArray.size_append, ByteArray.size_append]
        show S.size + x.size + 1 ≤ 12 * (j + 1)
        omega
      case measure => have := HG.out; omega
    · have hS2 : S.size ≤ 9223372036854775807 := by omega
      have OK := Lib.hid (Pz.px_ok S)
      by_cases hc1 : j < n0
      · have h1 : (j : Int) < (n0 : Int) := by omega
        have h2 : ¬ (j : Int) < 16 := by omega
        clear hc
        have B9 := Lib.hid (B0.out.trans (BR.out.mono B0.out.size))
        go_wp2_with fail
        refine (pparse_any S _ hS2).mono ?_
        have RP := Lib.hid (fun w => rparse_any S w hS2)
        unfold PxP
        unfold PxP at RP
        generalize Pz.pxT S = r at *
        obtain ⟨x, at0, er⟩ := r
        dsimp only at OK RP ⊢
        rintro e w1a ⟨c, rfl, hc, hx, hb⟩
        have HC := Lib.hid hc
        have X1 := Lib.hid hx
        have B1 := Lib.hid (B9.out.trans (hb.mono B9.out.size))
        clear hc hx hb
        go_upto_region 8 with (fail)
        have N1 : Hid (Below w1a.heap.size w1a (w1a.alloc (.cells #[.int .i64 c.a.op, .int .i64 c.a.num, .string c.a.name, .slice c.a.ptr (len c.k) c.a.cap] 25))) := (Below.refl _ _).alloc (Nat.le_refl _) _
        have C2 : Hid (Pz.B4 (w1a.alloc (.cells #[.int .i64 c.a.op, .int .i64 c.a.num, .string c.a.name, .slice c.a.ptr (len c.k) c.a.cap] 25)) w1a.heap.size c) := Pz.b4_alloc w1a c _ rfl _
        have X2 := Lib.hid (X1.out.next N1.out)
        have B2 := Lib.hid (B1.out.trans (N1.out.mono B1.out.size))
        generalize w1a.heap.size = xb at *
        generalize w1a.alloc (.cells #[.int .i64 c.a.op, .int .i64 c.a.num, .string c.a.name, .slice c.a.ptr (len c.k) c.a.cap] 25) = w2a at *
        clear N1 X1 B1 B9
        go_wp2_with fail
        refine (RP.out w2a).mono ?_
        rintro e w3 ⟨d, rfl, hd, hy, hb⟩
        have HD := Lib.hid hd
        have Y3 := Lib.hid hy
        have X3 := Lib.hid (X2.out.next hb)
        have C3 := Lib.hid (C2.out.next hb)
        have B3 := Lib.hid (B2.out.trans (hb.mono B2.out.size))
        clear hd hy hb X2 C2 B2 RP
        go_upto_region 9 with (fail)
        have N1 : Hid (Below w3.heap.size w3 (w3.alloc (.cells #[.int .i64 d.a.op, .int .i64 d.a.num, .string d.a.name, .slice d.a.ptr (len d.k) d.a.cap] 25))) := (Below.refl _ _).alloc (Nat.le_refl _) _
        have D4 : Hid (Pz.B4 (w3.alloc (.cells #[.int .i64 d.a.op, .int .i64 d.a.num, .string d.a.name, .slice d.a.ptr (len d.k) d.a.cap] 25)) w3.heap.size d) := Pz.b4_alloc w3 d _ rfl _
        have X4 := Lib.hid (X3.out.next N1.out)
        have Y4 := Lib.hid (Y3.out.next N1.out)
        have C4 := Lib.hid (C3.out.next N1.out)
        have B4 := Lib.hid (B3.out.trans (N1.out.mono B3.out.size))
        generalize w3.heap.size = yb at *
        generalize w3.alloc (.cells #[.int .i64 d.a.op, .int .i64 d.a.num, .string d.a.name, .slice d.a.ptr (len d.k) d.a.cap] 25) = w4 at *
        clear N1 X3 Y3 C3 B3
        obtain ⟨x0, x1, x2, x3, -, -, -, -, xl⟩ := C4.out
        obtain ⟨y0, y1, y2, y3, -, -, -, -, yl⟩ := D4.out
        have E : Hid (Pz.nr c = Pz.nr d) := HC.out.trans HD.out.symm
        have OC : Hid (ExOk c.a c.k) := Pz.exok_nr (by rw [HC.out]; exact OK.out)
        clear HC HD OK
        go_wp2_with fail
        refine (same_any17 c d w4 X4.out Y4.out OC.out E.out).mono ?_
        rintro e w5 ⟨rfl, hb⟩
        have B5 := Lib.hid (B4.out.trans (hb.mono B4.out.size))
        clear hb x0 x1 x2 x3 xl y0 y1 y2 y3 yl
        go_wp2_with fail
        refine (gawake_any w5).mono ?_
        rintro e w6 ⟨rfl, hb⟩
        have B6 := Lib.hid (B5.out.trans (hb.mono B5.out.size))
        clear hb
        go_wp2
        go_ret
        exact ⟨rfl, B6.out⟩
      · have h1 : ¬ (j : Int) < (n0 : Int) := by omega
        clear hc
        have B9 := Lib.hid (B0.out.trans (BR.out.mono B0.out.size))
        go_wp2_with fail
        refine (pparse_any S _ hS2).mono ?_
        have RP := Lib.hid (fun w => rparse_any S w hS2)
        unfold PxP
        unfold PxP at RP
        generalize Pz.pxT S = r at *
        obtain ⟨x, at0, er⟩ := r
        dsimp only at OK RP ⊢
        rintro e w1a ⟨c, rfl, hc, hx, hb⟩
        have HC := Lib.hid hc
        have X1 := Lib.hid hx
        have B1 := Lib.hid (B9.out.trans (hb.mono B9.out.size))
        clear hc hx hb
        go_upto_region 8 with (fail)
        have N1 : Hid (Below w1a.heap.size w1a (w1a.alloc (.cells #[.int .i64 c.a.op, .int .i64 c.a.num, .string c.a.name, .slice c.a.ptr (len c.k) c.a.cap] 25))) := (Below.refl _ _).alloc (Nat.le_refl _) _
        have C2 : Hid (Pz.B4 (w1a.alloc (.cells #[.int .i64 c.a.op, .int .i64 c.a.num, .string c.a.name, .slice c.a.ptr (len c.k) c.a.cap] 25)) w1a.heap.size c) := Pz.b4_alloc w1a c _ rfl _
        have X2 := Lib.hid (X1.out.next N1.out)
        have B2 := Lib.hid (B1.out.trans (N1.out.mono B1.out.size))
        generalize w1a.heap.size = xb at *
        generalize w1a.alloc (.cells #[.int .i64 c.a.op, .int .i64 c.a.num, .string c.a.name, .slice c.a.ptr (len c.k) c.a.cap] 25) = w2a at *
        clear N1 X1 B1 B9
        go_wp2_with fail
        refine (RP.out w2a).mono ?_
        rintro e w3 ⟨d, rfl, hd, hy, hb⟩
        have HD := Lib.hid hd
        have Y3 := Lib.hid hy
        have X3 := Lib.hid (X2.out.next hb)
        have C3 := Lib.hid (C2.out.next hb)
        have B3 := Lib.hid (B2.out.trans (hb.mono B2.out.size))
        clear hd hy hb X2 C2 B2 RP
        go_upto_region 9 with (fail)
        have N1 : Hid (Below w3.heap.size w3 (w3.alloc (.cells #[.int .i64 d.a.op, .int .i64 d.a.num, .string d.a.name, .slice d.a.ptr (len d.k) d.a.cap] 25))) := (Below.refl _ _).alloc (Nat.le_refl _) _
        have D4 : Hid (Pz.B4 (w3.alloc (.cells #[.int .i64 d.a.op, .int .i64 d.a.num, .string d.a.name, .slice d.a.ptr (len d.k) d.a.cap] 25)) w3.heap.size d) := Pz.b4_alloc w3 d _ rfl _
        have X4 := Lib.hid (X3.out.next N1.out)
        have Y4 := Lib.hid (Y3.out.next N1.out)
        have C4 := Lib.hid (C3.out.next N1.out)
        have B4 := Lib.hid (B3.out.trans (N1.out.mono B3.out.size))
        generalize w3.heap.size = yb at *
        generalize w3.alloc (.cells #[.int .i64 d.a.op, .int .i64 d.a.num, .string d.a.name, .slice d.a.ptr (len d.k) d.a.cap] 25) = w4 at *
        clear N1 X3 Y3 C3 B3
        obtain ⟨x0, x1, x2, x3, -, -, -, -, xl⟩ := C4.out
        obtain ⟨y0, y1, y2, y3, -, -, -, -, yl⟩ := D4.out
        have E : Hid (Pz.nr c = Pz.nr d) := HC.out.trans HD.out.symm
        have OC : Hid (ExOk c.a c.k) := Pz.exok_nr (by rw [HC.out]; exact OK.out)
        clear HC HD OK
        go_wp2_with fail
        refine (same_any17 c d w4 X4.out Y4.out OC.out E.out).mono ?_
        rintro e w5 ⟨rfl, hb⟩
        have B5 := Lib.hid (B4.out.trans (hb.mono B4.out.size))
        clear hb x0 x1 x2 x3 xl y0 y1 y2 y3 yl
        go_wp2_with fail
        refine (gawake_any w5).mono ?_
        rintro e w6 ⟨rfl, hb⟩
        have B6 := Lib.hid (B5.out.trans (hb.mono B5.out.size))
        clear hb
        go_wp2
        go_ret
        exact ⟨rfl, B6.out⟩

end Go.Proofs.YtgcjkfkfdehpcaaGreat
