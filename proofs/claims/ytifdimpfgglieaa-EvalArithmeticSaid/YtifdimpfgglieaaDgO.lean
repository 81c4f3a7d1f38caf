/-
  The contract of pairinglaw14's clamp.
-/
import Derived.Test.YtifdimpfgglieaaDgK
namespace Go.Proofs.Ytifdimpfgglieaa
set_option linter.unusedVariables false
set_option linter.unusedSimpArgs false
open Go.ChangeShapes Go.WideShapes Go.ChangeAt Go.RowKit

theorem dlen_high : (dgs ((1099511627776 : Int)).natAbs).length = 2 := by
  show (dgs 1099511627776).length = 2
  rw [dgs_pos (by decide), dgs_pos (by decide), show 1099511627776 / 4294967296 / 4294967296 = 0 by decide, dgs_zero]; rfl
def ClP (w : World) (z : Int) (e : Ending) (w' : World) : Prop := e = .returned (.int .i64 z) ∧ Below w.heap.size w w'
theorem from_high (w : World) : Calls Try.prog 4 #[.int .i64 1099511627776] w (IvQ w 1099511627776 false 2) :=
  (from_any 1099511627776 w (by unfold i64B; decide)).mono fun e w' ⟨A', c', he, hd, hb⟩ => ⟨A', c', by rw [he, dlen_high]; rfl, iv_small hd (by decide), hb⟩
theorem neg_high (A : Option Addr) (c : Nat) (w : World) (h : IvA w A c 1099511627776) : Calls Try.prog 18 #[.agg #[.bool false, .slice A 2 c]] w (IvQ w (-1099511627776) true 2) :=
  (negate_q A c 1099511627776 false 2 w h rfl dlen_high).mono fun e w' ⟨A', c', he, hd, hb⟩ => ⟨A', c', by rw [he]; rfl, hd, hb⟩
set_option maxHeartbeats 4000000 in
set_option maxRecDepth 100000 in
theorem dclamp_any (A : Option Addr) (c : Nat) (z : Int) (ng : Bool) (n : Nat) (w : World) (h : IvA w A c z) (hg : decide (z < 0) = ng) (hn : (dgs z.natAbs).length = n) :
    Calls Try.prog 6 #[.agg #[.bool ng, .slice A n c]] w (ClP w (clampI z)) := by
  have KF := Lib.hid (fun w' => from_high w')
  have KN := Lib.hid (fun A' c' w' h' => neg_high A' c' w' h')
  have KC1 := Lib.hid (fun (A' : Option Addr) (c' : Nat) (w' : World) (hb : Below w.heap.size w w') (h' : IvA w' A' c' 1099511627776) => compare_any A c z ng n A' c' 1099511627776 false 2 w' (h.next hb) hg hn h' rfl dlen_high)
  have KC2 := Lib.hid (fun (A' : Option Addr) (c' : Nat) (w' : World) (hb : Below w.heap.size w w') (h' : IvA w' A' c' (-1099511627776)) => compare_any A c z ng n A' c' (-1099511627776) true 2 w' (h.next hb) hg hn h' rfl dlen_high)
  have KT := Lib.hid (fun (w' : World) (hb : Below w.heap.size w w') hz => to_any A c z ng n w' (h.next hb) hg hn hz)
  clear h hg hn
  obtain ⟨R1, hR1⟩ : ∃ R, cmpI z 1099511627776 = R := ⟨_, rfl⟩
  obtain ⟨R2, hR2⟩ : ∃ R, cmpI z (-1099511627776) = R := ⟨_, rfl⟩
  rw [hR1] at KC1
  rw [hR2] at KC2
  have V1 : Hid ((0 < R1 ↔ 1099511627776 < z) ∧ (R2 < 0 ↔ z < -1099511627776)) := by
    rw [← hR1, ← hR2]; unfold cmpI
    constructor <;> (repeat' split) <;> omega
  clear hR1 hR2
  obtain ⟨V, hV⟩ : ∃ V, clampI z = V := ⟨_, rfl⟩
  have HV := Lib.hid hV
  rw [hV]
  clear hV
  go_enter Try.func6, Try.ntmps6
  go_upto_region 1 with (fail)
  have b00 : (w.alloc (.cells #[.bool ng, .slice A n c] 24)).cell? ⟨w.heap.size, 0, none⟩ = some (.bool ng) := by simp [go_sem]
  have b01 : (w.alloc (.cells #[.bool ng, .slice A n c] 24)).cell? ⟨w.heap.size, 1, none⟩ = some (.slice A n c) := by simp [go_sem]
  have g00 : (w.alloc (.cells #[.bool ng, .slice A n c] 24)).frozen? ⟨w.heap.size, 0, none⟩ = false := by simp [go_sem]
  have g01 : (w.alloc (.cells #[.bool ng, .slice A n c] 24)).frozen? ⟨w.heap.size, 1, none⟩ = false := by simp [go_sem]
  have BW : Hid (Below w.heap.size w (w.alloc (.cells #[.bool ng, .slice A n c] 24))) := (Below.refl _ _).alloc (Nat.le_refl _) _
  generalize w.alloc (.cells #[.bool ng, .slice A n c] 24) = w0 at *
  have RA : Hid (RBox w0 w.heap.size ng (.slice A n c)) := ⟨b00, b01, g00, g01⟩
  clear b00 b01 g00 g01
  go_upto_region 2 with (go_at_call 4; (with_reducible refine (KF.out _).mono ?_); rintro e w1 ⟨A1, c1, rfl, hd, hb⟩; have B1 := Lib.hid (BW.out.trans (hb.mono BW.out.size)); have D1 := Lib.hid hd; have RA := Lib.hid (RA.out.next hb); clear hb hd)
  have BB : Hid (Below w1.heap.size w1 (w1.alloc (.cells #[.bool false, .slice A1 2 c1] 24))) := (Below.refl _ _).alloc (Nat.le_refl _) _
  have RH : Hid (RBox (w1.alloc (.cells #[.bool false, .slice A1 2 c1] 24)) w1.heap.size false (.slice A1 2 c1)) := ⟨by simp [go_sem], by simp [go_sem], by simp [go_sem], by simp [go_sem]⟩
  have RA := Lib.hid (RA.out.next BB.out)
  have D1 := Lib.hid (D1.out.next BB.out)
  have B1 := Lib.hid (B1.out.trans (BB.out.mono B1.out.size))
  clear BB
  generalize w1.alloc (.cells #[.bool false, .slice A1 2 c1] 24) = w2 at *
  generalize w1.heap.size = hb1 at *
  have a0 := RA.out.c0
  have a1 := RA.out.c1
  have h0 := RH.out.c0
  have h1 := RH.out.c1
  by_cases p1 : 0 < R1
  · have VQ : Hid (V = 1099511627776) := by
      have := V1.out.1.1 p1
      rw [← HV.out]; unfold Hid clampI; omega
    go_wp2_with (go_at_call 17; (with_reducible refine (KC1.out _ _ _ B1.out D1.out).mono ?_); rintro e w3 ⟨rfl, hb⟩; have B3 := Lib.hid (B1.out.trans (hb.mono B1.out.size)); clear hb)
    go_ret
    exact ⟨ret_int VQ.out.symm, B3.out⟩
  · go_upto_region 4 with (go_at_call 17; (with_reducible refine (KC1.out _ _ _ B1.out D1.out).mono ?_); rintro e w3 ⟨rfl, hb⟩; have B3 := Lib.hid (B1.out.trans (hb.mono B1.out.size)); have D3 := Lib.hid (D1.out.next hb); have RA := Lib.hid (RA.out.next hb); have RH := Lib.hid (RH.out.next hb); clear hb)
    have a0 := RA.out.c0
    have a1 := RA.out.c1
    have h0 := RH.out.c0
    have h1 := RH.out.c1
    go_cut [15] (fun v wx => v = .bool (decide (R2 < 0)) ∧ Hid (RBox wx w.heap.size ng (.slice A n c) ∧ Below w.heap.size w wx))
    case first =>
      go_region_held3 (fun w' => w'.cell? ⟨w.heap.size, 0, none⟩ = some (.bool ng) ∧ w'.cell? ⟨w.heap.size, 1, none⟩ = some (.slice A n c) ∧ w'.cell? ⟨hb1, 0, none⟩ = some (.bool false) ∧ w'.cell? ⟨hb1, 1, none⟩ = some (.slice A1 2 c1)) (first | exact ⟨t0, t1, t2, t3⟩ | go_keep)
        (first
          | (go_at_call 18; (with_reducible refine (KN.out _ _ _ (D3.out.drew)).mono ?_); rintro e w4 ⟨A4, c4, rfl, hd, hb⟩; have B4 := Lib.hid (B3.out.drew.trans (hb.mono B3.out.size)); have D4 := Lib.hid hd; have RA := Lib.hid (RA.out.drew.next hb); have RH := Lib.hid (RH.out.drew.next hb); have t0 := RA.out.c0; have t1 := RA.out.c1; have t2 := RH.out.c0; have t3 := RH.out.c1; clear hd hb)
          | (go_at_call 17; (with_reducible refine (KC2.out _ _ _ B4.out D4.out).mono ?_); rintro e w5 ⟨rfl, hb⟩; have B5 := Lib.hid (B4.out.trans (hb.mono B4.out.size)); have RA := Lib.hid (RA.out.next hb); have RH := Lib.hid (RH.out.next hb); have t0 := RA.out.c0; have t1 := RA.out.c1; have t2 := RH.out.c0; have t3 := RH.out.c1; clear hb))
      all_goals go_wp2_with fail
      all_goals go_meet
      all_goals exact ⟨rfl, RA.out, B5.out⟩
    case rest =>
    obtain ⟨rfl, HC⟩ := hcut
    have x0 := HC.out.1.c0
    have x1 := HC.out.1.c1
    by_cases p2 : R2 < 0
    · have VQ : Hid (V = -1099511627776) := by
        have := V1.out.2.1 p2
        rw [← HV.out]; unfold Hid clampI; omega
      go_wp2
      go_ret
      exact ⟨ret_int VQ.out.symm, HC.out.2⟩
    · have hz : z.natAbs ≤ 1099511627776 := by
        have h1 := V1.out.1
        have h2 := V1.out.2
        omega
      have VQ : Hid (V = z) := by
        rw [← HV.out]; unfold Hid clampI; omega
      have KT2 := Lib.hid (KT.out wc HC.out.2 hz)
      clear hz
      go_wp2_with (go_at_call 19; (with_reducible refine KT2.out.mono ?_); rintro e w6 ⟨rfl, hb⟩; have B6 := Lib.hid (HC.out.2.trans (hb.mono HC.out.2.size)); clear hb)
      go_ret
      exact ⟨ret_int VQ.out.symm, B6.out⟩

end Go.Proofs.Ytifdimpfgglieaa
