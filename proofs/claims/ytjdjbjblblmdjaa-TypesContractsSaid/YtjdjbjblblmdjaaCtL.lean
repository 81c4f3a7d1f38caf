/-
  The contract of Light; the walk of TypesContracts. Printed by wip/mkcr.py.
-/
import Derived.Test.YtjdjbjblblmdjaaCrC
import Derived.Test.YtjdjbjblblmdjaaAwa
import Derived.Test.YtjdjbjblblmdjaaLgs
namespace Go.Proofs.Ytjdjbjblblmdjaa
set_option linter.unusedVariables false
set_option linter.unusedSimpArgs false
set_option maxRecDepth 100000
open Go.ChangeShapes Go.WideShapes Go.ChangeAt Go.RowKit
open Go.Deep (BT)

set_option maxHeartbeats 8000000 in
theorem light_any (c : Ct) (p : Cp) (w : World) (hv : CtV w c p) : Calls Try.prog 4 #[.agg #[.int .i64 c.rep, .int .i64 c.rel, .int .i64 c.con, .int .i64 c.sit, .int .i64 c.lay, .int .i64 c.nf, .int .i64 c.nt, .slice p.cs c.cs.length p.ccs, .slice p.rs c.rs.length p.crs, .slice p.os c.os.length p.cos, .slice p.cr (len c.cr) p.ccr, .slice p.ls c.ls.length p.cls, .slice p.fs c.fs.length p.cfs, .int .i64 c.gua]] w (SomeB w) := by
  have HV := Lib.hid hv
  have n1 := hv.cs.1
  have n2 := hv.rs.1
  have n3 := hv.os.1
  have n4 := hv.cr.1
  clear hv
  go_enter Try.func4, Try.ntmps4
  go_upto_region 1 with (fail)
  have XW := Lib.hid (CtBox.start w c p)
  have BW : Hid (Below w.heap.size w (w.alloc (.cells #[.int .i64 c.rep, .int .i64 c.rel, .int .i64 c.con, .int .i64 c.sit, .int .i64 c.lay, .int .i64 c.nf, .int .i64 c.nt, .slice p.cs c.cs.length p.ccs, .slice p.rs c.rs.length p.crs, .slice p.os c.os.length p.cos, .slice p.cr (len c.cr) p.ccr, .slice p.ls c.ls.length p.cls, .slice p.fs c.fs.length p.cfs, .int .i64 c.gua] 29))) := (Below.refl _ _).alloc (Nat.le_refl _) _
  generalize w.alloc (.cells #[.int .i64 c.rep, .int .i64 c.rel, .int .i64 c.con, .int .i64 c.sit, .int .i64 c.lay, .int .i64 c.nf, .int .i64 c.nt, .slice p.cs c.cs.length p.ccs, .slice p.rs c.rs.length p.crs, .slice p.os c.os.length p.cos, .slice p.cr (len c.cr) p.ccr, .slice p.ls c.ls.length p.cls, .slice p.fs c.fs.length p.cfs, .int .i64 c.gua] 29) = w0 at *
  have c11 := XW.out.c11
  have c12 := XW.out.c12
  go_wp2_with fail
  clear c11 c12
  go_loopw [3, 4] (fun n i wr => ∃ (j : Nat) (m : Int), j ≤ c.cs.length ∧ i = .int .i64 j ∧ n = .int .i64 m ∧ Hid (Below w.heap.size w wr ∧ CtBox wr w.heap.size c p)) (fun _ i _ => c.cs.length - (intOf i).toNat)
  case atStart => exact ⟨0, _, Nat.zero_le _, rfl, rfl, BW.out, XW.out⟩
  case round =>
    clear BW XW
    obtain ⟨j, m, hj, rfl, rfl, HR⟩ := hrel
    by_cases hgo : j < c.cs.length ∧ m < 3000
    · obtain ⟨hlt, hm⟩ := hgo
      obtain ⟨x, hc⟩ : ∃ x, c.cs[j]? = some x := ⟨_, List.getElem?_eq_getElem (by omega)⟩
      obtain ⟨-, BC, OC, hpp, hrow⟩ := HV.out.cs
      have HPr := Lib.hid (hpp (by intro q; rw [q] at hc; simp at hc))
      have PX := Lib.hid (hrow j x hc)
      obtain ⟨d1, d2, d3, d4⟩ := (PX.out.2.1.next HR.out.1).1
      have hj1 : (j : Int) < (c.cs.length : Int) := by omega
      have hj0 : (0 : Int) ≤ (j : Int) := by omega
      have c7 : wr.cell? ⟨w.heap.size, 7, none⟩ = some (.slice (some ⟨BC, OC, none⟩) c.cs.length p.ccs) := by rw [← HPr.out]; exact HR.out.2.c7
      clear hc hpp hrow
      go_wp2_with fail
      refine (size_any x.b x.o x.a x.k wr (PX.out.2.1.2.1.next HR.out.1) PX.out.2.1.2.2).mono ?_
      rintro e w1 ⟨m1, -, rfl, hb⟩
      have B1 := Lib.hid (HR.out.1.trans (hb.mono HR.out.1.size))
      have X1 := Lib.hid (HR.out.2.next hb)
      clear hb d1 d2 d3 d4 c7
      go_wp2
      go_roundw
      case rel => exact ⟨j + 1, _, by omega, by go_num, rfl, B1.out, X1.out⟩
      case measure => simp [intOf]; omega
    have BW := Lib.hid HR.out.1
    have XW := Lib.hid HR.out.2
    have c7 := XW.out.c7
    clear HR
    obtain ⟨bb, hbb⟩ : ∃ bb : Bool, decide ((j : Int) < (c.cs.length : Int)) = bb := ⟨_, rfl⟩
    have hq : ¬ ((j : Int) < (c.cs.length : Int)) ∨ ((j : Int) < (c.cs.length : Int) ∧ ¬ m < 3000) := by omega
    clear hgo hbb
    rcases hq with hq | ⟨hq, hq2⟩
    · go_wp2_with fail
      clear c7
      go_loopw [3, 5] (fun n i wr => ∃ (j : Nat) (m : Int), j ≤ c.rs.length ∧ i = .int .i64 j ∧ n = .int .i64 m ∧ Hid (Below w.heap.size w wr ∧ CtBox wr w.heap.size c p)) (fun _ i _ => c.rs.length - (intOf i).toNat)
      case atStart => exact ⟨0, _, Nat.zero_le _, rfl, rfl, BW.out, XW.out⟩
      case round =>
        clear BW XW
        obtain ⟨j, m, hj, rfl, rfl, HR⟩ := hrel
        by_cases hgo : j < c.rs.length ∧ m < 3000
        · obtain ⟨hlt, hm⟩ := hgo
          obtain ⟨x, hc⟩ : ∃ x, c.rs[j]? = some x := ⟨_, List.getElem?_eq_getElem (by omega)⟩
          obtain ⟨-, BR, OR, hpp, hrow⟩ := HV.out.rs
          have HPr := Lib.hid (hpp (by intro q; rw [q] at hc; simp at hc))
          have PX := Lib.hid (hrow j x hc)
          obtain ⟨d1, d2, d3, d4⟩ := (PX.out.2.2.1.next HR.out.1).1
          have hj1 : (j : Int) < (c.rs.length : Int) := by omega
          have hj0 : (0 : Int) ≤ (j : Int) := by omega
          have c8 : wr.cell? ⟨w.heap.size, 8, none⟩ = some (.slice (some ⟨BR, OR, none⟩) c.rs.length p.crs) := by rw [← HPr.out]; exact HR.out.2.c8
          clear hc hpp hrow
          go_wp2_with fail
          refine (size_any x.b x.o x.a x.k wr (PX.out.2.2.1.2.1.next HR.out.1) PX.out.2.2.1.2.2).mono ?_
          rintro e w1 ⟨m1, -, rfl, hb⟩
          have B1 := Lib.hid (HR.out.1.trans (hb.mono HR.out.1.size))
          have X1 := Lib.hid (HR.out.2.next hb)
          clear hb d1 d2 d3 d4 c8
          go_wp2
          go_roundw
          case rel => exact ⟨j + 1, _, by omega, by go_num, rfl, B1.out, X1.out⟩
          case measure => simp [intOf]; omega
        have BW := Lib.hid HR.out.1
        have XW := Lib.hid HR.out.2
        have c8 := XW.out.c8
        clear HR
        obtain ⟨bb, hbb⟩ : ∃ bb : Bool, decide ((j : Int) < (c.rs.length : Int)) = bb := ⟨_, rfl⟩
        have hq : ¬ ((j : Int) < (c.rs.length : Int)) ∨ ((j : Int) < (c.rs.length : Int) ∧ ¬ m < 3000) := by omega
        clear hgo hbb
        rcases hq with hq | ⟨hq, hq2⟩
        · go_wp2_with fail
          clear c8
          go_loopw [3, 6] (fun n i wr => ∃ (j : Nat) (m : Int), j ≤ c.os.length ∧ i = .int .i64 j ∧ n = .int .i64 m ∧ Hid (Below w.heap.size w wr ∧ CtBox wr w.heap.size c p)) (fun _ i _ => c.os.length - (intOf i).toNat)
          case atStart => exact ⟨0, _, Nat.zero_le _, rfl, rfl, BW.out, XW.out⟩
          case round =>
            clear BW XW
            obtain ⟨j, m, hj, rfl, rfl, HR⟩ := hrel
            by_cases hgo : j < c.os.length ∧ m < 3000
            · obtain ⟨hlt, hm⟩ := hgo
              obtain ⟨x, hc⟩ : ∃ x, c.os[j]? = some x := ⟨_, List.getElem?_eq_getElem (by omega)⟩
              obtain ⟨-, BO, OO, hpp, hrow⟩ := HV.out.os
              have HPr := Lib.hid (hpp (by intro q; rw [q] at hc; simp at hc))
              have PX := Lib.hid (hrow j x hc)
              obtain ⟨d1, d2, d3, d4⟩ := (PX.out.2.1.next HR.out.1).1
              have hj1 : (j : Int) < (c.os.length : Int) := by omega
              have hj0 : (0 : Int) ≤ (j : Int) := by omega
              have c9 : wr.cell? ⟨w.heap.size, 9, none⟩ = some (.slice (some ⟨BO, OO, none⟩) c.os.length p.cos) := by rw [← HPr.out]; exact HR.out.2.c9
              clear hc hpp hrow
              go_wp2_with fail
              refine (size_any x.b x.o x.a x.k wr (PX.out.2.1.2.1.next HR.out.1) PX.out.2.1.2.2).mono ?_
              rintro e w1 ⟨m1, -, rfl, hb⟩
              have B1 := Lib.hid (HR.out.1.trans (hb.mono HR.out.1.size))
              have X1 := Lib.hid (HR.out.2.next hb)
              clear hb d1 d2 d3 d4 c9
              go_wp2
              go_roundw
              case rel => exact ⟨j + 1, _, by omega, by go_num, rfl, B1.out, X1.out⟩
              case measure => simp [intOf]; omega
            have BW := Lib.hid HR.out.1
            have XW := Lib.hid HR.out.2
            have c9 := XW.out.c9
            clear HR
            obtain ⟨bb, hbb⟩ : ∃ bb : Bool, decide ((j : Int) < (c.os.length : Int)) = bb := ⟨_, rfl⟩
            have hq : ¬ ((j : Int) < (c.os.length : Int)) ∨ ((j : Int) < (c.os.length : Int) ∧ ¬ m < 3000) := by omega
            clear hgo hbb
            rcases hq with hq | ⟨hq, hq2⟩
            · go_wp2_with fail
              clear c9
              go_loopw [3, 7] (fun n i wr => ∃ (j : Nat) (r : Fo) (m : Int), i = .int .i64 j ∧ n = .int .i64 m ∧ Hid (j + len r = len c.cr ∧ (∃ b o, (r ≠ .nil → p.cr = some ⟨b, o, none⟩) ∧ FoAt wr r b (o + j * 4)) ∧ FoOk r ∧ Below w.heap.size w wr ∧ CtBox wr w.heap.size c p)) (fun _ i _ => len c.cr - (intOf i).toNat)
              case atStart =>
                obtain ⟨-, q1, b, o, q2, q3⟩ := (HV.out.next BW.out).cr
                exact ⟨0, c.cr, _, rfl, rfl, by omega, ⟨b, o, q2, by rw [Nat.zero_mul, Nat.add_zero]; exact q3⟩, q1, BW.out, XW.out⟩
              case round =>
                obtain ⟨j, r, m, rfl, rfl, HR⟩ := hrel
                cases r with
                | nil =>
                  have hj : ¬ (j : Int) < (len c.cr : Int) := by have := HR.out.1; simp [len] at this; omega
                  have c10 := HR.out.2.2.2.2.c10
                  go_wp2
                  go_ret
                  exact ⟨_, rfl, HR.out.2.2.2.1⟩
                | node b1 o1 a1 k1 r1 =>
                  have hj : j < len c.cr := by have := HR.out.1; simp [len] at this; omega
                  have hj1 : (j : Int) < (len c.cr : Int) := by omega
                  have hj0 : (0 : Int) ≤ (j : Int) := by omega
                  obtain ⟨kb, ko, hkp, ⟨d0, d1, d2, d3⟩, hp1, hk1, hr1⟩ := HR.out.2.1
                  have HPr := Lib.hid (hkp (by simp))
                  have HX : Hid (ExAt wr b1 o1 a1 k1) := ⟨hp1, hk1⟩
                  have HN := Lib.hid hr1
                  have HOK := Lib.hid HR.out.2.2.1
                  have c10 : wr.cell? ⟨w.heap.size, 10, none⟩ = some (.slice (some ⟨kb, ko, none⟩) (len c.cr) p.ccr) := by rw [← HPr.out]; exact HR.out.2.2.2.2.c10
                  clear hkp hp1 hk1 hr1
                  by_cases hm : m < 3000
                  · go_wp2_with fail
                    refine (size_any b1 o1 a1 k1 wr HX.out ⟨HOK.out.1, HOK.out.2.1⟩).mono ?_
                    rintro e w1 ⟨m1, -, rfl, hb⟩
                    have B1 := Lib.hid (HR.out.2.2.2.1.trans (hb.mono HR.out.2.2.2.1.size))
                    have X1 := Lib.hid (HR.out.2.2.2.2.next hb)
                    have N1 := Lib.hid (HN.out.next hb)
                    clear hb d0 d1 d2 d3 c10
                    go_wp2
                    go_roundw
                    case rel =>
                      have q1 := HR.out.1
                      simp [len] at q1
                      refine ⟨j + 1, r1, _, by go_num, rfl, by omega, ⟨kb, ko, fun _ => HPr.out, ?_⟩, HOK.out.2.2, B1.out, X1.out⟩
                      rw [Nat.add_mul, Nat.one_mul, ← Nat.add_assoc]; exact N1.out
                    case measure => simp [intOf]; omega
                  · go_wp2
                    go_ret
                    exact ⟨_, rfl, HR.out.2.2.2.1⟩
            · go_wp2_with fail
              clear c9
              go_loopw [3, 7] (fun n i wr => ∃ (j : Nat) (r : Fo) (m : Int), i = .int .i64 j ∧ n = .int .i64 m ∧ Hid (j + len r = len c.cr ∧ (∃ b o, (r ≠ .nil → p.cr = some ⟨b, o, none⟩) ∧ FoAt wr r b (o + j * 4)) ∧ FoOk r ∧ Below w.heap.size w wr ∧ CtBox wr w.heap.size c p)) (fun _ i _ => len c.cr - (intOf i).toNat)
              case atStart =>
                obtain ⟨-, q1, b, o, q2, q3⟩ := (HV.out.next BW.out).cr
                exact ⟨0, c.cr, _, rfl, rfl, by omega, ⟨b, o, q2, by rw [Nat.zero_mul, Nat.add_zero]; exact q3⟩, q1, BW.out, XW.out⟩
              case round =>
                obtain ⟨j, r, m, rfl, rfl, HR⟩ := hrel
                cases r with
                | nil =>
                  have hj : ¬ (j : Int) < (len c.cr : Int) := by have := HR.out.1; simp [len] at this; omega
                  have c10 := HR.out.2.2.2.2.c10
                  go_wp2
                  go_ret
                  exact ⟨_, rfl, HR.out.2.2.2.1⟩
                | node b1 o1 a1 k1 r1 =>
                  have hj : j < len c.cr := by have := HR.out.1; simp [len] at this; omega
                  have hj1 : (j : Int) < (len c.cr : Int) := by omega
                  have hj0 : (0 : Int) ≤ (j : Int) := by omega
                  obtain ⟨kb, ko, hkp, ⟨d0, d1, d2, d3⟩, hp1, hk1, hr1⟩ := HR.out.2.1
                  have HPr := Lib.hid (hkp (by simp))
                  have HX : Hid (ExAt wr b1 o1 a1 k1) := ⟨hp1, hk1⟩
                  have HN := Lib.hid hr1
                  have HOK := Lib.hid HR.out.2.2.1
                  have c10 : wr.cell? ⟨w.heap.size, 10, none⟩ = some (.slice (some ⟨kb, ko, none⟩) (len c.cr) p.ccr) := by rw [← HPr.out]; exact HR.out.2.2.2.2.c10
                  clear hkp hp1 hk1 hr1
                  by_cases hm : m < 3000
                  · go_wp2_with fail
                    refine (size_any b1 o1 a1 k1 wr HX.out ⟨HOK.out.1, HOK.out.2.1⟩).mono ?_
                    rintro e w1 ⟨m1, -, rfl, hb⟩
                    have B1 := Lib.hid (HR.out.2.2.2.1.trans (hb.mono HR.out.2.2.2.1.size))
                    have X1 := Lib.hid (HR.out.2.2.2.2.next hb)
                    have N1 := Lib.hid (HN.out.next hb)
                    clear hb d0 d1 d2 d3 c10
                    go_wp2
                    go_roundw
                    case rel =>
                      have q1 := HR.out.1
                      simp [len] at q1
                      refine ⟨j + 1, r1, _, by go_num, rfl, by omega, ⟨kb, ko, fun _ => HPr.out, ?_⟩, HOK.out.2.2, B1.out, X1.out⟩
                      rw [Nat.add_mul, Nat.one_mul, ← Nat.add_assoc]; exact N1.out
                    case measure => simp [intOf]; omega
                  · go_wp2
                    go_ret
                    exact ⟨_, rfl, HR.out.2.2.2.1⟩
        · go_wp2_with fail
          clear c8
          go_loopw [3, 6] (fun n i wr => ∃ (j : Nat) (m : Int), j ≤ c.os.length ∧ i = .int .i64 j ∧ n = .int .i64 m ∧ Hid (Below w.heap.size w wr ∧ CtBox wr w.heap.size c p)) (fun _ i _ => c.os.length - (intOf i).toNat)
          case atStart => exact ⟨0, _, Nat.zero_le _, rfl, rfl, BW.out, XW.out⟩
          case round =>
            clear BW XW
            obtain ⟨j, m, hj, rfl, rfl, HR⟩ := hrel
            by_cases hgo : j < c.os.length ∧ m < 3000
            · obtain ⟨hlt, hm⟩ := hgo
              obtain ⟨x, hc⟩ : ∃ x, c.os[j]? = some x := ⟨_, List.getElem?_eq_getElem (by omega)⟩
              obtain ⟨-, BO, OO, hpp, hrow⟩ := HV.out.os
              have HPr := Lib.hid (hpp (by intro q; rw [q] at hc; simp at hc))
              have PX := Lib.hid (hrow j x hc)
              obtain ⟨d1, d2, d3, d4⟩ := (PX.out.2.1.next HR.out.1).1
              have hj1 : (j : Int) < (c.os.length : Int) := by omega
              have hj0 : (0 : Int) ≤ (j : Int) := by omega
              have c9 : wr.cell? ⟨w.heap.size, 9, none⟩ = some (.slice (some ⟨BO, OO, none⟩) c.os.length p.cos) := by rw [← HPr.out]; exact HR.out.2.c9
              clear hc hpp hrow
              go_wp2_with fail
              refine (size_any x.b x.o x.a x.k wr (PX.out.2.1.2.1.next HR.out.1) PX.out.2.1.2.2).mono ?_
              rintro e w1 ⟨m1, -, rfl, hb⟩
              have B1 := Lib.hid (HR.out.1.trans (hb.mono HR.out.1.size))
              have X1 := Lib.hid (HR.out.2.next hb)
              clear hb d1 d2 d3 d4 c9
              go_wp2
              go_roundw
              case rel => exact ⟨j + 1, _, by omega, by go_num, rfl, B1.out, X1.out⟩
              case measure => simp [intOf]; omega
            have BW := Lib.hid HR.out.1
            have XW := Lib.hid HR.out.2
            have c9 := XW.out.c9
            clear HR
            obtain ⟨bb, hbb⟩ : ∃ bb : Bool, decide ((j : Int) < (c.os.length : Int)) = bb := ⟨_, rfl⟩
            have hq : ¬ ((j : Int) < (c.os.length : Int)) ∨ ((j : Int) < (c.os.length : Int) ∧ ¬ m < 3000) := by omega
            clear hgo hbb
            rcases hq with hq | ⟨hq, hq2⟩
            · go_wp2_with fail
              clear c9
              go_loopw [3, 7] (fun n i wr => ∃ (j : Nat) (r : Fo) (m : Int), i = .int .i64 j ∧ n = .int .i64 m ∧ Hid (j + len r = len c.cr ∧ (∃ b o, (r ≠ .nil → p.cr = some ⟨b, o, none⟩) ∧ FoAt wr r b (o + j * 4)) ∧ FoOk r ∧ Below w.heap.size w wr ∧ CtBox wr w.heap.size c p)) (fun _ i _ => len c.cr - (intOf i).toNat)
              case atStart =>
                obtain ⟨-, q1, b, o, q2, q3⟩ := (HV.out.next BW.out).cr
                exact ⟨0, c.cr, _, rfl, rfl, by omega, ⟨b, o, q2, by rw [Nat.zero_mul, Nat.add_zero]; exact q3⟩, q1, BW.out, XW.out⟩
              case round =>
                obtain ⟨j, r, m, rfl, rfl, HR⟩ := hrel
                cases r with
                | nil =>
                  have hj : ¬ (j : Int) < (len c.cr : Int) := by have := HR.out.1; simp [len] at this; omega
                  have c10 := HR.out.2.2.2.2.c10
                  go_wp2
                  go_ret
                  exact ⟨_, rfl, HR.out.2.2.2.1⟩
                | node b1 o1 a1 k1 r1 =>
                  have hj : j < len c.cr := by have := HR.out.1; simp [len] at this; omega
                  have hj1 : (j : Int) < (len c.cr : Int) := by omega
                  have hj0 : (0 : Int) ≤ (j : Int) := by omega
                  obtain ⟨kb, ko, hkp, ⟨d0, d1, d2, d3⟩, hp1, hk1, hr1⟩ := HR.out.2.1
                  have HPr := Lib.hid (hkp (by simp))
                  have HX : Hid (ExAt wr b1 o1 a1 k1) := ⟨hp1, hk1⟩
                  have HN := Lib.hid hr1
                  have HOK := Lib.hid HR.out.2.2.1
                  have c10 : wr.cell? ⟨w.heap.size, 10, none⟩ = some (.slice (some ⟨kb, ko, none⟩) (len c.cr) p.ccr) := by rw [← HPr.out]; exact HR.out.2.2.2.2.c10
                  clear hkp hp1 hk1 hr1
                  by_cases hm : m < 3000
                  · go_wp2_with fail
                    refine (size_any b1 o1 a1 k1 wr HX.out ⟨HOK.out.1, HOK.out.2.1⟩).mono ?_
                    rintro e w1 ⟨m1, -, rfl, hb⟩
                    have B1 := Lib.hid (HR.out.2.2.2.1.trans (hb.mono HR.out.2.2.2.1.size))
                    have X1 := Lib.hid (HR.out.2.2.2.2.next hb)
                    have N1 := Lib.hid (HN.out.next hb)
                    clear hb d0 d1 d2 d3 c10
                    go_wp2
                    go_roundw
                    case rel =>
                      have q1 := HR.out.1
                      simp [len] at q1
                      refine ⟨j + 1, r1, _, by go_num, rfl, by omega, ⟨kb, ko, fun _ => HPr.out, ?_⟩, HOK.out.2.2, B1.out, X1.out⟩
                      rw [Nat.add_mul, Nat.one_mul, ← Nat.add_assoc]; exact N1.out
                    case measure => simp [intOf]; omega
                  · go_wp2
                    go_ret
                    exact ⟨_, rfl, HR.out.2.2.2.1⟩
            · go_wp2_with fail
              clear c9
              go_loopw [3, 7] (fun n i wr => ∃ (j : Nat) (r : Fo) (m : Int), i = .int .i64 j ∧ n = .int .i64 m ∧ Hid (j + len r = len c.cr ∧ (∃ b o, (r ≠ .nil → p.cr = some ⟨b, o, none⟩) ∧ FoAt wr r b (o + j * 4)) ∧ FoOk r ∧ Below w.heap.size w wr ∧ CtBox wr w.heap.size c p)) (fun _ i _ => len c.cr - (intOf i).toNat)
              case atStart =>
                obtain ⟨-, q1, b, o, q2, q3⟩ := (HV.out.next BW.out).cr
                exact ⟨0, c.cr, _, rfl, rfl, by omega, ⟨b, o, q2, by rw [Nat.zero_mul, Nat.add_zero]; exact q3⟩, q1, BW.out, XW.out⟩
              case round =>
                obtain ⟨j, r, m, rfl, rfl, HR⟩ := hrel
                cases r with
                | nil =>
                  have hj : ¬ (j : Int) < (len c.cr : Int) := by have := HR.out.1; simp [len] at this; omega
                  have c10 := HR.out.2.2.2.2.c10
                  go_wp2
                  go_ret
                  exact ⟨_, rfl, HR.out.2.2.2.1⟩
                | node b1 o1 a1 k1 r1 =>
                  have hj : j < len c.cr := by have := HR.out.1; simp [len] at this; omega
                  have hj1 : (j : Int) < (len c.cr : Int) := by omega
                  have hj0 : (0 : Int) ≤ (j : Int) := by omega
                  obtain ⟨kb, ko, hkp, ⟨d0, d1, d2, d3⟩, hp1, hk1, hr1⟩ := HR.out.2.1
                  have HPr := Lib.hid (hkp (by simp))
                  have HX : Hid (ExAt wr b1 o1 a1 k1) := ⟨hp1, hk1⟩
                  have HN := Lib.hid hr1
                  have HOK := Lib.hid HR.out.2.2.1
                  have c10 : wr.cell? ⟨w.heap.size, 10, none⟩ = some (.slice (some ⟨kb, ko, none⟩) (len c.cr) p.ccr) := by rw [← HPr.out]; exact HR.out.2.2.2.2.c10
                  clear hkp hp1 hk1 hr1
                  by_cases hm : m < 3000
                  · go_wp2_with fail
                    refine (size_any b1 o1 a1 k1 wr HX.out ⟨HOK.out.1, HOK.out.2.1⟩).mono ?_
                    rintro e w1 ⟨m1, -, rfl, hb⟩
                    have B1 := Lib.hid (HR.out.2.2.2.1.trans (hb.mono HR.out.2.2.2.1.size))
                    have X1 := Lib.hid (HR.out.2.2.2.2.next hb)
                    have N1 := Lib.hid (HN.out.next hb)
                    clear hb d0 d1 d2 d3 c10
                    go_wp2
                    go_roundw
                    case rel =>
                      have q1 := HR.out.1
                      simp [len] at q1
                      refine ⟨j + 1, r1, _, by go_num, rfl, by omega, ⟨kb, ko, fun _ => HPr.out, ?_⟩, HOK.out.2.2, B1.out, X1.out⟩
                      rw [Nat.add_mul, Nat.one_mul, ← Nat.add_assoc]; exact N1.out
                    case measure => simp [intOf]; omega
                  · go_wp2
                    go_ret
                    exact ⟨_, rfl, HR.out.2.2.2.1⟩
    · go_wp2_with fail
      clear c7
      go_loopw [3, 5] (fun n i wr => ∃ (j : Nat) (m : Int), j ≤ c.rs.length ∧ i = .int .i64 j ∧ n = .int .i64 m ∧ Hid (Below w.heap.size w wr ∧ CtBox wr w.heap.size c p)) (fun _ i _ => c.rs.length - (intOf i).toNat)
      case atStart => exact ⟨0, _, Nat.zero_le _, rfl, rfl, BW.out, XW.out⟩
      case round =>
        clear BW XW
        obtain ⟨j, m, hj, rfl, rfl, HR⟩ := hrel
        by_cases hgo : j < c.rs.length ∧ m < 3000
        · obtain ⟨hlt, hm⟩ := hgo
          obtain ⟨x, hc⟩ : ∃ x, c.rs[j]? = some x := ⟨_, List.getElem?_eq_getElem (by omega)⟩
          obtain ⟨-, BR, OR, hpp, hrow⟩ := HV.out.rs
          have HPr := Lib.hid (hpp (by intro q; rw [q] at hc; simp at hc))
          have PX := Lib.hid (hrow j x hc)
          obtain ⟨d1, d2, d3, d4⟩ := (PX.out.2.2.1.next HR.out.1).1
          have hj1 : (j : Int) < (c.rs.length : Int) := by omega
          have hj0 : (0 : Int) ≤ (j : Int) := by omega
          have c8 : wr.cell? ⟨w.heap.size, 8, none⟩ = some (.slice (some ⟨BR, OR, none⟩) c.rs.length p.crs) := by rw [← HPr.out]; exact HR.out.2.c8
          clear hc hpp hrow
          go_wp2_with fail
          refine (size_any x.b x.o x.a x.k wr (PX.out.2.2.1.2.1.next HR.out.1) PX.out.2.2.1.2.2).mono ?_
          rintro e w1 ⟨m1, -, rfl, hb⟩
          have B1 := Lib.hid (HR.out.1.trans (hb.mono HR.out.1.size))
          have X1 := Lib.hid (HR.out.2.next hb)
          clear hb d1 d2 d3 d4 c8
          go_wp2
          go_roundw
          case rel => exact ⟨j + 1, _, by omega, by go_num, rfl, B1.out, X1.out⟩
          case measure => simp [intOf]; omega
        have BW := Lib.hid HR.out.1
        have XW := Lib.hid HR.out.2
        have c8 := XW.out.c8
        clear HR
        obtain ⟨bb, hbb⟩ : ∃ bb : Bool, decide ((j : Int) < (c.rs.length : Int)) = bb := ⟨_, rfl⟩
        have hq : ¬ ((j : Int) < (c.rs.length : Int)) ∨ ((j : Int) < (c.rs.length : Int) ∧ ¬ m < 3000) := by omega
        clear hgo hbb
        rcases hq with hq | ⟨hq, hq2⟩
        · go_wp2_with fail
          clear c8
          go_loopw [3, 6] (fun n i wr => ∃ (j : Nat) (m : Int), j ≤ c.os.length ∧ i = .int .i64 j ∧ n = .int .i64 m ∧ Hid (Below w.heap.size w wr ∧ CtBox wr w.heap.size c p)) (fun _ i _ => c.os.length - (intOf i).toNat)
          case atStart => exact ⟨0, _, Nat.zero_le _, rfl, rfl, BW.out, XW.out⟩
          case round =>
            clear BW XW
            obtain ⟨j, m, hj, rfl, rfl, HR⟩ := hrel
            by_cases hgo : j < c.os.length ∧ m < 3000
            · obtain ⟨hlt, hm⟩ := hgo
              obtain ⟨x, hc⟩ : ∃ x, c.os[j]? = some x := ⟨_, List.getElem?_eq_getElem (by omega)⟩
              obtain ⟨-, BO, OO, hpp, hrow⟩ := HV.out.os
              have HPr := Lib.hid (hpp (by intro q; rw [q] at hc; simp at hc))
              have PX := Lib.hid (hrow j x hc)
              obtain ⟨d1, d2, d3, d4⟩ := (PX.out.2.1.next HR.out.1).1
              have hj1 : (j : Int) < (c.os.length : Int) := by omega
              have hj0 : (0 : Int) ≤ (j : Int) := by omega
              have c9 : wr.cell? ⟨w.heap.size, 9, none⟩ = some (.slice (some ⟨BO, OO, none⟩) c.os.length p.cos) := by rw [← HPr.out]; exact HR.out.2.c9
              clear hc hpp hrow
              go_wp2_with fail
              refine (size_any x.b x.o x.a x.k wr (PX.out.2.1.2.1.next HR.out.1) PX.out.2.1.2.2).mono ?_
              rintro e w1 ⟨m1, -, rfl, hb⟩
              have B1 := Lib.hid (HR.out.1.trans (hb.mono HR.out.1.size))
              have X1 := Lib.hid (HR.out.2.next hb)
              clear hb d1 d2 d3 d4 c9
              go_wp2
              go_roundw
              case rel => exact ⟨j + 1, _, by omega, by go_num, rfl, B1.out, X1.out⟩
              case measure => simp [intOf]; omega
            have BW := Lib.hid HR.out.1
            have XW := Lib.hid HR.out.2
            have c9 := XW.out.c9
            clear HR
            obtain ⟨bb, hbb⟩ : ∃ bb : Bool, decide ((j : Int) < (c.os.length : Int)) = bb := ⟨_, rfl⟩
            have hq : ¬ ((j : Int) < (c.os.length : Int)) ∨ ((j : Int) < (c.os.length : Int) ∧ ¬ m < 3000) := by omega
            clear hgo hbb
            rcases hq with hq | ⟨hq, hq2⟩
            · go_wp2_with fail
              clear c9
              go_loopw [3, 7] (fun n i wr => ∃ (j : Nat) (r : Fo) (m : Int), i = .int .i64 j ∧ n = .int .i64 m ∧ Hid (j + len r = len c.cr ∧ (∃ b o, (r ≠ .nil → p.cr = some ⟨b, o, none⟩) ∧ FoAt wr r b (o + j * 4)) ∧ FoOk r ∧ Below w.heap.size w wr ∧ CtBox wr w.heap.size c p)) (fun _ i _ => len c.cr - (intOf i).toNat)
              case atStart =>
                obtain ⟨-, q1, b, o, q2, q3⟩ := (HV.out.next BW.out).cr
                exact ⟨0, c.cr, _, rfl, rfl, by omega, ⟨b, o, q2, by rw [Nat.zero_mul, Nat.add_zero]; exact q3⟩, q1, BW.out, XW.out⟩
              case round =>
                obtain ⟨j, r, m, rfl, rfl, HR⟩ := hrel
                cases r with
                | nil =>
                  have hj : ¬ (j : Int) < (len c.cr : Int) := by have := HR.out.1; simp [len] at this; omega
                  have c10 := HR.out.2.2.2.2.c10
                  go_wp2
                  go_ret
                  exact ⟨_, rfl, HR.out.2.2.2.1⟩
                | node b1 o1 a1 k1 r1 =>
                  have hj : j < len c.cr := by have := HR.out.1; simp [len] at this; omega
                  have hj1 : (j : Int) < (len c.cr : Int) := by omega
                  have hj0 : (0 : Int) ≤ (j : Int) := by omega
                  obtain ⟨kb, ko, hkp, ⟨d0, d1, d2, d3⟩, hp1, hk1, hr1⟩ := HR.out.2.1
                  have HPr := Lib.hid (hkp (by simp))
                  have HX : Hid (ExAt wr b1 o1 a1 k1) := ⟨hp1, hk1⟩
                  have HN := Lib.hid hr1
                  have HOK := Lib.hid HR.out.2.2.1
                  have c10 : wr.cell? ⟨w.heap.size, 10, none⟩ = some (.slice (some ⟨kb, ko, none⟩) (len c.cr) p.ccr) := by rw [← HPr.out]; exact HR.out.2.2.2.2.c10
                  clear hkp hp1 hk1 hr1
                  by_cases hm : m < 3000
                  · go_wp2_with fail
                    refine (size_any b1 o1 a1 k1 wr HX.out ⟨HOK.out.1, HOK.out.2.1⟩).mono ?_
                    rintro e w1 ⟨m1, -, rfl, hb⟩
                    have B1 := Lib.hid (HR.out.2.2.2.1.trans (hb.mono HR.out.2.2.2.1.size))
                    have X1 := Lib.hid (HR.out.2.2.2.2.next hb)
                    have N1 := Lib.hid (HN.out.next hb)
                    clear hb d0 d1 d2 d3 c10
                    go_wp2
                    go_roundw
                    case rel =>
                      have q1 := HR.out.1
                      simp [len] at q1
                      refine ⟨j + 1, r1, _, by go_num, rfl, by omega, ⟨kb, ko, fun _ => HPr.out, ?_⟩, HOK.out.2.2, B1.out, X1.out⟩
                      rw [Nat.add_mul, Nat.one_mul, ← Nat.add_assoc]; exact N1.out
                    case measure => simp [intOf]; omega
                  · go_wp2
                    go_ret
                    exact ⟨_, rfl, HR.out.2.2.2.1⟩
            · go_wp2_with fail
              clear c9
              go_loopw [3, 7] (fun n i wr => ∃ (j : Nat) (r : Fo) (m : Int), i = .int .i64 j ∧ n = .int .i64 m ∧ Hid (j + len r = len c.cr ∧ (∃ b o, (r ≠ .nil → p.cr = some ⟨b, o, none⟩) ∧ FoAt wr r b (o + j * 4)) ∧ FoOk r ∧ Below w.heap.size w wr ∧ CtBox wr w.heap.size c p)) (fun _ i _ => len c.cr - (intOf i).toNat)
              case atStart =>
                obtain ⟨-, q1, b, o, q2, q3⟩ := (HV.out.next BW.out).cr
                exact ⟨0, c.cr, _, rfl, rfl, by omega, ⟨b, o, q2, by rw [Nat.zero_mul, Nat.add_zero]; exact q3⟩, q1, BW.out, XW.out⟩
              case round =>
                obtain ⟨j, r, m, rfl, rfl, HR⟩ := hrel
                cases r with
                | nil =>
                  have hj : ¬ (j : Int) < (len c.cr : Int) := by have := HR.out.1; simp [len] at this; omega
                  have c10 := HR.out.2.2.2.2.c10
                  go_wp2
                  go_ret
                  exact ⟨_, rfl, HR.out.2.2.2.1⟩
                | node b1 o1 a1 k1 r1 =>
                  have hj : j < len c.cr := by have := HR.out.1; simp [len] at this; omega
                  have hj1 : (j : Int) < (len c.cr : Int) := by omega
                  have hj0 : (0 : Int) ≤ (j : Int) := by omega
                  obtain ⟨kb, ko, hkp, ⟨d0, d1, d2, d3⟩, hp1, hk1, hr1⟩ := HR.out.2.1
                  have HPr := Lib.hid (hkp (by simp))
                  have HX : Hid (ExAt wr b1 o1 a1 k1) := ⟨hp1, hk1⟩
                  have HN := Lib.hid hr1
                  have HOK := Lib.hid HR.out.2.2.1
                  have c10 : wr.cell? ⟨w.heap.size, 10, none⟩ = some (.slice (some ⟨kb, ko, none⟩) (len c.cr) p.ccr) := by rw [← HPr.out]; exact HR.out.2.2.2.2.c10
                  clear hkp hp1 hk1 hr1
                  by_cases hm : m < 3000
                  · go_wp2_with fail
                    refine (size_any b1 o1 a1 k1 wr HX.out ⟨HOK.out.1, HOK.out.2.1⟩).mono ?_
                    rintro e w1 ⟨m1, -, rfl, hb⟩
                    have B1 := Lib.hid (HR.out.2.2.2.1.trans (hb.mono HR.out.2.2.2.1.size))
                    have X1 := Lib.hid (HR.out.2.2.2.2.next hb)
                    have N1 := Lib.hid (HN.out.next hb)
                    clear hb d0 d1 d2 d3 c10
                    go_wp2
                    go_roundw
                    case rel =>
                      have q1 := HR.out.1
                      simp [len] at q1
                      refine ⟨j + 1, r1, _, by go_num, rfl, by omega, ⟨kb, ko, fun _ => HPr.out, ?_⟩, HOK.out.2.2, B1.out, X1.out⟩
                      rw [Nat.add_mul, Nat.one_mul, ← Nat.add_assoc]; exact N1.out
                    case measure => simp [intOf]; omega
                  · go_wp2
                    go_ret
                    exact ⟨_, rfl, HR.out.2.2.2.1⟩
        · go_wp2_with fail
          clear c8
          go_loopw [3, 6] (fun n i wr => ∃ (j : Nat) (m : Int), j ≤ c.os.length ∧ i = .int .i64 j ∧ n = .int .i64 m ∧ Hid (Below w.heap.size w wr ∧ CtBox wr w.heap.size c p)) (fun _ i _ => c.os.length - (intOf i).toNat)
          case atStart => exact ⟨0, _, Nat.zero_le _, rfl, rfl, BW.out, XW.out⟩
          case round =>
            clear BW XW
            obtain ⟨j, m, hj, rfl, rfl, HR⟩ := hrel
            by_cases hgo : j < c.os.length ∧ m < 3000
            · obtain ⟨hlt, hm⟩ := hgo
              obtain ⟨x, hc⟩ : ∃ x, c.os[j]? = some x := ⟨_, List.getElem?_eq_getElem (by omega)⟩
              obtain ⟨-, BO, OO, hpp, hrow⟩ := HV.out.os
              have HPr := Lib.hid (hpp (by intro q; rw [q] at hc; simp at hc))
              have PX := Lib.hid (hrow j x hc)
              obtain ⟨d1, d2, d3, d4⟩ := (PX.out.2.1.next HR.out.1).1
              have hj1 : (j : Int) < (c.os.length : Int) := by omega
              have hj0 : (0 : Int) ≤ (j : Int) := by omega
              have c9 : wr.cell? ⟨w.heap.size, 9, none⟩ = some (.slice (some ⟨BO, OO, none⟩) c.os.length p.cos) := by rw [← HPr.out]; exact HR.out.2.c9
              clear hc hpp hrow
              go_wp2_with fail
              refine (size_any x.b x.o x.a x.k wr (PX.out.2.1.2.1.next HR.out.1) PX.out.2.1.2.2).mono ?_
              rintro e w1 ⟨m1, -, rfl, hb⟩
              have B1 := Lib.hid (HR.out.1.trans (hb.mono HR.out.1.size))
              have X1 := Lib.hid (HR.out.2.next hb)
              clear hb d1 d2 d3 d4 c9
              go_wp2
              go_roundw
              case rel => exact ⟨j + 1, _, by omega, by go_num, rfl, B1.out, X1.out⟩
              case measure => simp [intOf]; omega
            have BW := Lib.hid HR.out.1
            have XW := Lib.hid HR.out.2
            have c9 := XW.out.c9
            clear HR
            obtain ⟨bb, hbb⟩ : ∃ bb : Bool, decide ((j : Int) < (c.os.length : Int)) = bb := ⟨_, rfl⟩
            have hq : ¬ ((j : Int) < (c.os.length : Int)) ∨ ((j : Int) < (c.os.length : Int) ∧ ¬ m < 3000) := by omega
            clear hgo hbb
            rcases hq with hq | ⟨hq, hq2⟩
            · go_wp2_with fail
              clear c9
              go_loopw [3, 7] (fun n i wr => ∃ (j : Nat) (r : Fo) (m : Int), i = .int .i64 j ∧ n = .int .i64 m ∧ Hid (j + len r = len c.cr ∧ (∃ b o, (r ≠ .nil → p.cr = some ⟨b, o, none⟩) ∧ FoAt wr r b (o + j * 4)) ∧ FoOk r ∧ Below w.heap.size w wr ∧ CtBox wr w.heap.size c p)) (fun _ i _ => len c.cr - (intOf i).toNat)
              case atStart =>
                obtain ⟨-, q1, b, o, q2, q3⟩ := (HV.out.next BW.out).cr
                exact ⟨0, c.cr, _, rfl, rfl, by omega, ⟨b, o, q2, by rw [Nat.zero_mul, Nat.add_zero]; exact q3⟩, q1, BW.out, XW.out⟩
              case round =>
                obtain ⟨j, r, m, rfl, rfl, HR⟩ := hrel
                cases r with
                | nil =>
                  have hj : ¬ (j : Int) < (len c.cr : Int) := by have := HR.out.1; simp [len] at this; omega
                  have c10 := HR.out.2.2.2.2.c10
                  go_wp2
                  go_ret
                  exact ⟨_, rfl, HR.out.2.2.2.1⟩
                | node b1 o1 a1 k1 r1 =>
                  have hj : j < len c.cr := by have := HR.out.1; simp [len] at this; omega
                  have hj1 : (j : Int) < (len c.cr : Int) := by omega
                  have hj0 : (0 : Int) ≤ (j : Int) := by omega
                  obtain ⟨kb, ko, hkp, ⟨d0, d1, d2, d3⟩, hp1, hk1, hr1⟩ := HR.out.2.1
                  have HPr := Lib.hid (hkp (by simp))
                  have HX : Hid (ExAt wr b1 o1 a1 k1) := ⟨hp1, hk1⟩
                  have HN := Lib.hid hr1
                  have HOK := Lib.hid HR.out.2.2.1
                  have c10 : wr.cell? ⟨w.heap.size, 10, none⟩ = some (.slice (some ⟨kb, ko, none⟩) (len c.cr) p.ccr) := by rw [← HPr.out]; exact HR.out.2.2.2.2.c10
                  clear hkp hp1 hk1 hr1
                  by_cases hm : m < 3000
                  · go_wp2_with fail
                    refine (size_any b1 o1 a1 k1 wr HX.out ⟨HOK.out.1, HOK.out.2.1⟩).mono ?_
                    rintro e w1 ⟨m1, -, rfl, hb⟩
                    have B1 := Lib.hid (HR.out.2.2.2.1.trans (hb.mono HR.out.2.2.2.1.size))
                    have X1 := Lib.hid (HR.out.2.2.2.2.next hb)
                    have N1 := Lib.hid (HN.out.next hb)
                    clear hb d0 d1 d2 d3 c10
                    go_wp2
                    go_roundw
                    case rel =>
                      have q1 := HR.out.1
                      simp [len] at q1
                      refine ⟨j + 1, r1, _, by go_num, rfl, by omega, ⟨kb, ko, fun _ => HPr.out, ?_⟩, HOK.out.2.2, B1.out, X1.out⟩
                      rw [Nat.add_mul, Nat.one_mul, ← Nat.add_assoc]; exact N1.out
                    case measure => simp [intOf]; omega
                  · go_wp2
                    go_ret
                    exact ⟨_, rfl, HR.out.2.2.2.1⟩
            · go_wp2_with fail
              clear c9
              go_loopw [3, 7] (fun n i wr => ∃ (j : Nat) (r : Fo) (m : Int), i = .int .i64 j ∧ n = .int .i64 m ∧ Hid (j + len r = len c.cr ∧ (∃ b o, (r ≠ .nil → p.cr = some ⟨b, o, none⟩) ∧ FoAt wr r b (o + j * 4)) ∧ FoOk r ∧ Below w.heap.size w wr ∧ CtBox wr w.heap.size c p)) (fun _ i _ => len c.cr - (intOf i).toNat)
              case atStart =>
                obtain ⟨-, q1, b, o, q2, q3⟩ := (HV.out.next BW.out).cr
                exact ⟨0, c.cr, _, rfl, rfl, by omega, ⟨b, o, q2, by rw [Nat.zero_mul, Nat.add_zero]; exact q3⟩, q1, BW.out, XW.out⟩
              case round =>
                obtain ⟨j, r, m, rfl, rfl, HR⟩ := hrel
                cases r with
                | nil =>
                  have hj : ¬ (j : Int) < (len c.cr : Int) := by have := HR.out.1; simp [len] at this; omega
                  have c10 := HR.out.2.2.2.2.c10
                  go_wp2
                  go_ret
                  exact ⟨_, rfl, HR.out.2.2.2.1⟩
                | node b1 o1 a1 k1 r1 =>
                  have hj : j < len c.cr := by have := HR.out.1; simp [len] at this; omega
                  have hj1 : (j : Int) < (len c.cr : Int) := by omega
                  have hj0 : (0 : Int) ≤ (j : Int) := by omega
                  obtain ⟨kb, ko, hkp, ⟨d0, d1, d2, d3⟩, hp1, hk1, hr1⟩ := HR.out.2.1
                  have HPr := Lib.hid (hkp (by simp))
                  have HX : Hid (ExAt wr b1 o1 a1 k1) := ⟨hp1, hk1⟩
                  have HN := Lib.hid hr1
                  have HOK := Lib.hid HR.out.2.2.1
                  have c10 : wr.cell? ⟨w.heap.size, 10, none⟩ = some (.slice (some ⟨kb, ko, none⟩) (len c.cr) p.ccr) := by rw [← HPr.out]; exact HR.out.2.2.2.2.c10
                  clear hkp hp1 hk1 hr1
                  by_cases hm : m < 3000
                  · go_wp2_with fail
                    refine (size_any b1 o1 a1 k1 wr HX.out ⟨HOK.out.1, HOK.out.2.1⟩).mono ?_
                    rintro e w1 ⟨m1, -, rfl, hb⟩
                    have B1 := Lib.hid (HR.out.2.2.2.1.trans (hb.mono HR.out.2.2.2.1.size))
                    have X1 := Lib.hid (HR.out.2.2.2.2.next hb)
                    have N1 := Lib.hid (HN.out.next hb)
                    clear hb d0 d1 d2 d3 c10
                    go_wp2
                    go_roundw
                    case rel =>
                      have q1 := HR.out.1
                      simp [len] at q1
                      refine ⟨j + 1, r1, _, by go_num, rfl, by omega, ⟨kb, ko, fun _ => HPr.out, ?_⟩, HOK.out.2.2, B1.out, X1.out⟩
                      rw [Nat.add_mul, Nat.one_mul, ← Nat.add_assoc]; exact N1.out
                    case measure => simp [intOf]; omega
                  · go_wp2
                    go_ret
                    exact ⟨_, rfl, HR.out.2.2.2.1⟩

set_option maxHeartbeats 8000000 in
theorem walk_typesContracts (c : Ct) (p : Cp) (w : World) (hv : CtV w c p) :
    Calls Try.prog 3 #[.agg #[.int .i64 c.rep, .int .i64 c.rel, .int .i64 c.con, .int .i64 c.sit, .int .i64 c.lay, .int .i64 c.nf, .int .i64 c.nt, .slice p.cs c.cs.length p.ccs, .slice p.rs c.rs.length p.crs, .slice p.os c.os.length p.cos, .slice p.cr (len c.cr) p.ccr, .slice p.ls c.ls.length p.cls, .slice p.fs c.fs.length p.cfs, .int .i64 c.gua]] w fun e w' => e = .returned (.bool true) ∧ Below w.heap.size w w' := by
  have HV := Lib.hid hv
  clear hv
  have AW := Lib.hid awake_any
  go_enter Try.func3, Try.ntmps3
  go_upto_region 1 with (fail)
  have X0 := Lib.hid (CtBox.start w c p)
  have B0 : Hid (Below w.heap.size w (w.alloc (.cells #[.int .i64 c.rep, .int .i64 c.rel, .int .i64 c.con, .int .i64 c.sit, .int .i64 c.lay, .int .i64 c.nf, .int .i64 c.nt, .slice p.cs c.cs.length p.ccs, .slice p.rs c.rs.length p.crs, .slice p.os c.os.length p.cos, .slice p.cr (len c.cr) p.ccr, .slice p.ls c.ls.length p.cls, .slice p.fs c.fs.length p.cfs, .int .i64 c.gua] 29))) := (Below.refl _ _).alloc (Nat.le_refl _) _
  generalize w.alloc (.cells #[.int .i64 c.rep, .int .i64 c.rel, .int .i64 c.con, .int .i64 c.sit, .int .i64 c.lay, .int .i64 c.nf, .int .i64 c.nt, .slice p.cs c.cs.length p.ccs, .slice p.rs c.rs.length p.crs, .slice p.os c.os.length p.cos, .slice p.cr (len c.cr) p.ccr, .slice p.ls c.ls.length p.cls, .slice p.fs c.fs.length p.cfs, .int .i64 c.gua] 29) = w0 at *
  obtain ⟨c0, c1, c2, c3, c4, c5, c6, c7, c8, c9, c10, c11, c12, c13, hlt⟩ := X0.out
  go_wp2_with fail
  refine (light_any c p w0 (HV.out.next B0.out)).mono ?_
  rintro e w1 ⟨m, rfl, hb⟩
  have B1 := Lib.hid (B0.out.trans (hb.mono B0.out.size))
  have X1 := Lib.hid (X0.out.next hb)
  clear hb c0 c1 c2 c3 c4 c5 c6 c7 c8 c9 c10 c11 c12 c13 hlt
  cases m with
  | false =>
    go_wp2_with fail
    refine (AW.out w1).mono ?_
    rintro e w2 ⟨rfl, hb⟩
    have B2 := Lib.hid (B1.out.trans (hb.mono B1.out.size))
    clear hb
    go_wp2
    go_ret
    exact ⟨rfl, B2.out⟩
  | true =>
    obtain ⟨c0, c1, c2, c3, c4, c5, c6, c7, c8, c9, c10, c11, c12, c13, hlt⟩ := X1.out
    obtain ⟨ve, hve⟩ : ∃ ve, tvalC c = ve := ⟨_, rfl⟩
    have C1 : Hid (∀ dq os, Calls Try.prog 6 #[.agg #[.int .i64 c.rep, .int .i64 c.rel, .int .i64 c.con, .int .i64 c.sit, .int .i64 c.lay, .int .i64 c.nf, .int .i64 c.nt, .slice p.cs c.cs.length p.ccs, .slice p.rs c.rs.length p.crs, .slice p.os c.os.length p.cos, .slice p.cr (len c.cr) p.ccr, .slice p.ls c.ls.length p.cls, .slice p.fs c.fs.length p.cfs, .int .i64 c.gua]] (Sort.grow (redrawn w1 dq) os) fun e w'' => e = .returned (.int .i64 ve) ∧ ∃ p : Regrown, w'' = Sort.grow (redrawn w1 p.d) p.os) := by
      intro dq os
      have hb := below_regrown w1 dq os
      have q := tval_any c p (Sort.grow (redrawn w1 dq) os) (HV.out.next (B1.out.trans (hb.mono B1.out.size)))
      rw [hve] at q
      exact Calls.regrown_of q
    have C2 : Hid (∀ dq os, Calls Try.prog 7 #[.agg #[.int .i64 c.rep, .int .i64 c.rel, .int .i64 c.con, .int .i64 c.sit, .int .i64 c.lay, .int .i64 c.nf, .int .i64 c.nt, .slice p.cs c.cs.length p.ccs, .slice p.rs c.rs.length p.crs, .slice p.os c.os.length p.cos, .slice p.cr (len c.cr) p.ccr, .slice p.ls c.ls.length p.cls, .slice p.fs c.fs.length p.cfs, .int .i64 c.gua]] (Sort.grow (redrawn w1 dq) os) fun e w'' => e = .returned (.int .i64 ve) ∧ ∃ p : Regrown, w'' = Sort.grow (redrawn w1 p.d) p.os) := by
      intro dq os
      have hb := below_regrown w1 dq os
      have q := rcheck_any c p (Sort.grow (redrawn w1 dq) os) (HV.out.next (B1.out.trans (hb.mono B1.out.size)))
      rw [hve] at q
      exact Calls.regrown_of q
    have C3 : Hid (∀ dq os, Calls Try.prog 5 #[] (Sort.grow (redrawn w1 dq) os) fun e w'' => e = .returned (.bool true) ∧ ∃ p : Regrown, w'' = Sort.grow (redrawn w1 p.d) p.os) := fun dq os => Calls.regrown_of (AW.out _)
    have beq : (ve == ve) = true := by simp
    clear hve
    go_upto_region 3 with (fail)
    have e0 := fun d os => cell_regrown c0 d os
    have e1 := fun d os => cell_regrown c1 d os
    have e2 := fun d os => cell_regrown c2 d os
    have e3 := fun d os => cell_regrown c3 d os
    have e4 := fun d os => cell_regrown c4 d os
    have e5 := fun d os => cell_regrown c5 d os
    have e6 := fun d os => cell_regrown c6 d os
    have e7 := fun d os => cell_regrown c7 d os
    have e8 := fun d os => cell_regrown c8 d os
    have e9 := fun d os => cell_regrown c9 d os
    have e10 := fun d os => cell_regrown c10 d os
    have e11 := fun d os => cell_regrown c11 d os
    have e12 := fun d os => cell_regrown c12 d os
    have e13 := fun d os => cell_regrown c13 d os
    refine wp_region_quiet_below (by kernel_rfl) (by kernel_rfl) ?_
    repeat (quiet_step (with_reducible first | exact C1.out _ _ | exact C2.out _ _ | exact C3.out _ _))
    refine wpQuiet_nil ?_
    intro _ hw'
    obtain ⟨⟨dq, osq⟩, hw''⟩ := hw'
    subst hw''
    have hb := below_regrown w1 dq osq
    clear e0 c0 e1 c1 e2 c2 e3 c3 e4 c4 e5 c5 e6 c6 e7 c7 e8 c8 e9 c9 e10 c10 e11 c11 e12 c12 e13 c13 C1 C2 C3
    generalize Sort.grow (redrawn w1 dq) osq = w4 at *
    have B4 := Lib.hid (B1.out.trans (hb.mono B1.out.size))
    clear hb
    go_wp2
    go_ret
    exact ⟨rfl, B4.out⟩

end Go.Proofs.Ytjdjbjblblmdjaa
