/-
  The contracts of the integers' functions of pairingref1: Sub, FromInt64, ToInt64, DivMod, and of pairinglaw14's clamp.
-/
import Derived.Test.YtifdimpfgglieaaDgJ
import Derived.Test.YtifdimpfgglieaaDgI
import Derived.Test.YtifdimpfgglieaaGi
import Derived.Deep.RegionHeld3
import Derived.Lib.QuietBelow
import Derived.Deep.CutBlock
import Derived.Deep.DeepCutAuto
namespace Go.Proofs.Ytifdimpfgglieaa
set_option linter.unusedVariables false
set_option linter.unusedSimpArgs false
open Go.ChangeShapes Go.WideShapes Go.ChangeAt Go.RowKit

/-- Small integers lie in few digits. -/
theorem iv_small {w : World} {A : Option Addr} {c : Nat} {z : Int} (h : DgA w A c (dgs z.natAbs)) (hz : z.natAbs < 2 ^ 200) : IvA w A c z :=
  ⟨h, Nat.le_trans (len_of_bits _ 200 20 hz (by decide)) (by decide)⟩
theorem iv_len20 {z : Int} (hz : z.natAbs < 2 ^ 200) : (dgs z.natAbs).length ≤ 20 := len_of_bits _ 200 20 hz (by decide)
theorem negate_q (A : Option Addr) (c : Nat) (z : Int) (ng : Bool) (n : Nat) (w : World) (h : IvA w A c z) (hg : decide (z < 0) = ng) (hn : (dgs z.natAbs).length = n) :
    Calls Try.prog 18 #[.agg #[.bool ng, .slice A n c]] w (IvQ w (-z) (decide (-z < 0)) n) :=
  (negate_any A c z ng n w h hg hn).mono fun e w' ⟨A', c', he, hd, hb⟩ => ⟨A', c', by rw [he]; rw [Int.natAbs_neg, hn], ⟨hd, by rw [Int.natAbs_neg]; exact h.s⟩, hb⟩

set_option maxHeartbeats 2000000 in
set_option maxRecDepth 100000 in
theorem isub_any (A : Option Addr) (c : Nat) (z : Int) (ng : Bool) (n : Nat) (B : Option Addr) (d : Nat) (y : Int) (mg : Bool) (m : Nat) (w : World) (h : IvA w A c z) (hg : decide (z < 0) = ng) (hn : (dgs z.natAbs).length = n) (h2 : IvA w B d y) (hg2 : decide (y < 0) = mg) (hn2 : (dgs y.natAbs).length = m) :
    Calls Try.prog 16 #[.agg #[.bool ng, .slice A n c], .agg #[.bool mg, .slice B m d]] w (IvP w (z - y)) := by
  have KN := Lib.hid (fun w' hb => negate_q B d y mg m w' (h2.next hb) hg2 hn2)
  have HA := Lib.hid h
  have HG := Lib.hid hg
  have HN := Lib.hid hn
  have KS0 := fun (w' : World) (B' : Option Addr) (d' : Nat) (hb : Below w.heap.size w w') (h' : IvA w' B' d' (-y)) => iadd_any A c z ng n B' d' (-y) (decide (-y < 0)) m w' (h.next hb) hg hn h' rfl (by rw [Int.natAbs_neg]; exact hn2)
  have ez : z + -y = z - y := by omega
  rw [ez] at KS0
  have KS := Lib.hid KS0
  clear h hg hn h2 hg2 hn2 ez KS0
  go_enter Try.func16, Try.ntmps16
  go_upto_region 1 with (fail)
  have b00 : (((w.alloc (.cells #[.bool ng, .slice A n c] 24)).alloc (.cells #[.bool mg, .slice B m d] 24)).alloc (.cells #[.bool false, .slice none 0 0] 24)).cell? ⟨w.heap.size, 0, none⟩ = some (.bool ng) := by simp [go_sem]
  have g00 : (((w.alloc (.cells #[.bool ng, .slice A n c] 24)).alloc (.cells #[.bool mg, .slice B m d] 24)).alloc (.cells #[.bool false, .slice none 0 0] 24)).frozen? ⟨w.heap.size, 0, none⟩ = false := by simp [go_sem]
  have b01 : (((w.alloc (.cells #[.bool ng, .slice A n c] 24)).alloc (.cells #[.bool mg, .slice B m d] 24)).alloc (.cells #[.bool false, .slice none 0 0] 24)).cell? ⟨w.heap.size, 1, none⟩ = some (.slice A n c) := by simp [go_sem]
  have g01 : (((w.alloc (.cells #[.bool ng, .slice A n c] 24)).alloc (.cells #[.bool mg, .slice B m d] 24)).alloc (.cells #[.bool false, .slice none 0 0] 24)).frozen? ⟨w.heap.size, 1, none⟩ = false := by simp [go_sem]
  have b10 : (((w.alloc (.cells #[.bool ng, .slice A n c] 24)).alloc (.cells #[.bool mg, .slice B m d] 24)).alloc (.cells #[.bool false, .slice none 0 0] 24)).cell? ⟨w.heap.size + 1, 0, none⟩ = some (.bool mg) := by simp [go_sem]
  have g10 : (((w.alloc (.cells #[.bool ng, .slice A n c] 24)).alloc (.cells #[.bool mg, .slice B m d] 24)).alloc (.cells #[.bool false, .slice none 0 0] 24)).frozen? ⟨w.heap.size + 1, 0, none⟩ = false := by simp [go_sem]
  have b11 : (((w.alloc (.cells #[.bool ng, .slice A n c] 24)).alloc (.cells #[.bool mg, .slice B m d] 24)).alloc (.cells #[.bool false, .slice none 0 0] 24)).cell? ⟨w.heap.size + 1, 1, none⟩ = some (.slice B m d) := by simp [go_sem]
  have g11 : (((w.alloc (.cells #[.bool ng, .slice A n c] 24)).alloc (.cells #[.bool mg, .slice B m d] 24)).alloc (.cells #[.bool false, .slice none 0 0] 24)).frozen? ⟨w.heap.size + 1, 1, none⟩ = false := by simp [go_sem]
  have b20 : (((w.alloc (.cells #[.bool ng, .slice A n c] 24)).alloc (.cells #[.bool mg, .slice B m d] 24)).alloc (.cells #[.bool false, .slice none 0 0] 24)).cell? ⟨w.heap.size + 1 + 1, 0, none⟩ = some (.bool false) := by simp [go_sem]
  have g20 : (((w.alloc (.cells #[.bool ng, .slice A n c] 24)).alloc (.cells #[.bool mg, .slice B m d] 24)).alloc (.cells #[.bool false, .slice none 0 0] 24)).frozen? ⟨w.heap.size + 1 + 1, 0, none⟩ = false := by simp [go_sem]
  have b21 : (((w.alloc (.cells #[.bool ng, .slice A n c] 24)).alloc (.cells #[.bool mg, .slice B m d] 24)).alloc (.cells #[.bool false, .slice none 0 0] 24)).cell? ⟨w.heap.size + 1 + 1, 1, none⟩ = some (.slice none 0 0) := by simp [go_sem]
  have g21 : (((w.alloc (.cells #[.bool ng, .slice A n c] 24)).alloc (.cells #[.bool mg, .slice B m d] 24)).alloc (.cells #[.bool false, .slice none 0 0] 24)).frozen? ⟨w.heap.size + 1 + 1, 1, none⟩ = false := by simp [go_sem]
  have BW : Hid (Below w.heap.size w (((w.alloc (.cells #[.bool ng, .slice A n c] 24)).alloc (.cells #[.bool mg, .slice B m d] 24)).alloc (.cells #[.bool false, .slice none 0 0] 24))) := ((((Below.refl _ _).alloc (by first | (simp; done) | (simp; omega)) _).alloc (by first | (simp; done) | (simp; omega)) _).alloc (by first | (simp; done) | (simp; omega)) _)
  generalize (((w.alloc (.cells #[.bool ng, .slice A n c] 24)).alloc (.cells #[.bool mg, .slice B m d] 24)).alloc (.cells #[.bool false, .slice none 0 0] 24)) = w0 at *
  have ne01 : ¬ w.heap.size = w.heap.size + 1 := by omega
  have ne02 : ¬ w.heap.size = w.heap.size + 1 + 1 := by omega
  have ne10 : ¬ w.heap.size + 1 = w.heap.size := by omega
  have ne12 : ¬ w.heap.size + 1 = w.heap.size + 1 + 1 := by omega
  have ne20 : ¬ w.heap.size + 1 + 1 = w.heap.size := by omega
  have ne21 : ¬ w.heap.size + 1 + 1 = w.heap.size + 1 := by omega
  have RA : Hid (RBox w0 w.heap.size ng (.slice A n c)) := ⟨b00, b01, g00, g01⟩
  have RB : Hid (RBox w0 (w.heap.size + 1) mg (.slice B m d)) := ⟨b10, b11, g10, g11⟩
  have RC : Hid (RBox w0 (w.heap.size + 1 + 1) false (.slice none 0 0)) := ⟨b20, b21, g20, g21⟩
  clear g00 g01 g10 g11 g20 g21 b20 b21
  obtain ⟨p, hp⟩ : ∃ p, decide (-y < 0) = p := ⟨_, rfl⟩
  have KN := KN.out
  have KS := KS.out
  rw [hp] at KN KS
  have KN := Lib.hid KN
  have KS := Lib.hid KS
  clear hp
  go_region_held3 (fun w' => w'.cell? ⟨w.heap.size, 0, none⟩ = some (.bool ng) ∧ w'.cell? ⟨w.heap.size, 1, none⟩ = some (.slice A n c) ∧ w'.cell? ⟨w.heap.size + 1, 0, none⟩ = some (.bool mg) ∧ w'.cell? ⟨w.heap.size + 1, 1, none⟩ = some (.slice B m d)) (first | exact ⟨q00, q01, q10, q11⟩ | go_keep)
    (first
      | (go_at_call 18; refine (KN.out _ (by exact BW.out.drew)).mono ?_; rintro e w5 ⟨A5, c5, rfl, hd, hb⟩; have BX : Hid (Below w.heap.size w w5) := (by first | exact BX.out.trans (hb.mono BX.out.size) | exact BW.out.drew.trans (hb.mono BW.out.size) | exact BW.out.trans (hb.mono BW.out.size)); have D5 := Lib.hid hd; have RA : Hid (RBox w5 _ _ _) := (by first | exact RA.out.next hb | exact RA.out.drew.next hb); have q00 := RA.out.c0; have q01 := RA.out.c1; have q02 := RA.out.f0; have q03 := RA.out.f1; have RB : Hid (RBox w5 _ _ _) := (by first | exact RB.out.next hb | exact RB.out.drew.next hb); have q10 := RB.out.c0; have q11 := RB.out.c1; have q12 := RB.out.f0; have q13 := RB.out.f1; have RC : Hid (RBox w5 _ _ _) := (by first | exact RC.out.next hb | exact RC.out.drew.next hb); have q20 := RC.out.c0; have q21 := RC.out.c1; have q22 := RC.out.f0; have q23 := RC.out.f1; clear hb hd)
      | (go_at_call 8; refine (KS.out _ _ _ (by exact BX.out) D5.out).mono ?_; rintro e w6 ⟨A6, c6, rfl, hd, hb⟩; have BX : Hid (Below w.heap.size w w6) := (by first | exact BX.out.trans (hb.mono BX.out.size) | exact BW.out.drew.trans (hb.mono BW.out.size) | exact BW.out.trans (hb.mono BW.out.size)); have D6 := Lib.hid hd; have RA : Hid (RBox w6 _ _ _) := (by first | exact RA.out.next hb | exact RA.out.drew.next hb); have q00 := RA.out.c0; have q01 := RA.out.c1; have q02 := RA.out.f0; have q03 := RA.out.f1; have RB : Hid (RBox w6 _ _ _) := (by first | exact RB.out.next hb | exact RB.out.drew.next hb); have q10 := RB.out.c0; have q11 := RB.out.c1; have q12 := RB.out.f0; have q13 := RB.out.f1; have RC : Hid (RBox w6 _ _ _) := (by first | exact RC.out.next hb | exact RC.out.drew.next hb); have q20 := RC.out.c0; have q21 := RC.out.c1; have q22 := RC.out.f0; have q23 := RC.out.f1; clear hb hd))
  all_goals go_wp2
  all_goals
    refine bodyPost_ret (v := .agg #[.bool (decide (z - y < 0)), .slice A6 (dgs (z - y).natAbs).length c6]) ?_ rfl ?_
    · rw [results_cell1 rfl]; go_simp
    · exact ⟨A6, c6, rfl, D6.out.put2 RC.out.c0 _ _, (BX.out.setCell (by show w.heap.size ≤ w.heap.size + 1 + 1; omega) _).setCell (by show w.heap.size ≤ w.heap.size + 1 + 1; omega) _⟩

theorem dg_two {w : World} {g : Nat} {u v : Nat} (hu : u < 4294967296) (hv : v < 4294967296) (h0 : w.cell? ⟨g, 0, none⟩ = some (.int .u32 (u : Int))) (h1 : w.cell? ⟨g, 1, none⟩ = some (.int .u32 (v : Int))) : DgA w (some ⟨g, 0, none⟩) 2 [u, v] := by
  refine ⟨fun d hd => ?_, Nat.le_refl _, (fun q => by cases q), fun _ => ⟨g, rfl, fun j hj => ?_⟩⟩
  · simp at hd; rcases hd with rfl | rfl <;> assumption
  · have : j = 0 ∨ j = 1 := by simp at hj; omega
    rcases this with rfl | rfl
    · exact h0
    · exact h1
set_option maxHeartbeats 1000000 in
set_option maxRecDepth 100000 in
theorem from_any (n : Int) (w : World) (hn : i64B n) : Calls Try.prog 4 #[.int .i64 n] w (IvP w n) := by
  obtain ⟨a, ha⟩ : ∃ a, n.natAbs = a := ⟨_, rfl⟩
  have hal : a ≤ 9223372036854775808 := by unfold i64B at hn; omega
  have EV : Hid (sgnI (decide (n < 0)) (val [a % 4294967296, a / 4294967296]) = n) := by
    have : val [a % 4294967296, a / 4294967296] = a := by simp [val]; omega
    unfold Hid; rw [this, ← ha]; exact sgn_self n
  have h1 : a % 4294967296 < 4294967296 := by omega
  have h2 : a / 4294967296 < 4294967296 := by omega
  by_cases h : n < 0
  · have eu : IntKind.u64.wrap (-(IntKind.u64.wrap n)) = (a : Int) := by
      unfold i64B at hn
      simp only [IntKind.wrap, IntKind.bits, IntKind.signed]
      first | omega | (simp; omega)
    have ED := Lib.hid (decide_eq_true h)
    rw [ED.out] at EV
    clear hn ha
    have e3 : IntKind.u32.wrap (a : Int) = ((a % 4294967296 : Nat) : Int) := by
      simp only [IntKind.wrap, IntKind.bits, IntKind.signed]
      first | omega | (simp; done) | (simp; omega)
    have e4 : IntKind.u32.wrap ((a : Int) / 4294967296) = ((a / 4294967296 : Nat) : Int) := by
      simp only [IntKind.wrap, IntKind.bits, IntKind.signed]
      first | omega | (simp; done) | (simp; omega)
    have MK0 : ∀ w', DgA w' (some ⟨w.heap.size + 1, 0, none⟩) 2 [a % 4294967296, a / 4294967296] → Calls Try.prog 13 #[.bool true, .slice (some ⟨w.heap.size + 1, 0, none⟩) 2 2] w' (IvP w' (sgnI true (val [a % 4294967296, a / 4294967296]))) := fun w' hd => make_any true _ 2 _ w' hd (by simp)
    rw [EV.out] at MK0
    have MK := Lib.hid MK0
    clear EV MK0 ED
    generalize a % 4294967296 = u at *
    generalize a / 4294967296 = v at *
    go_enter Try.func4, Try.ntmps4
    go_wp2_with (go_at_call 13; (with_reducible refine (MK.out _ (dg_two h1 h2 (by simp [go_sem]) (by simp [go_sem]))).mono ?_); rintro e w2 ⟨A', c', rfl, hd2, hb2⟩
                 have RX : Hid (RBox w2 w.heap.size false (.slice none 0 0)) := ⟨by rw [hb2.cell (p := ⟨w.heap.size, 0, none⟩) (by simp; omega)]; simp [go_sem], by rw [hb2.cell (p := ⟨w.heap.size, 1, none⟩) (by simp; omega)]; simp [go_sem], by rw [hb2.frozen (p := ⟨w.heap.size, 0, none⟩) (by simp; omega)]; simp [go_sem], by rw [hb2.frozen (p := ⟨w.heap.size, 1, none⟩) (by simp; omega)]; simp [go_sem]⟩
                 have r0 := RX.out.c0
                 have r1 := RX.out.c1
                 have r2 := RX.out.f0
                 have r3 := RX.out.f1
                 have BX : Hid (Below w.heap.size w w2) := (((Below.refl _ _).alloc (Nat.le_refl _) _).alloc (by simp) _).trans (hb2.mono (by simp; omega))
                 have HD := Lib.hid hd2
                 clear hb2 hd2)
    refine bodyPost_ret (v := .agg #[.bool (decide (n < 0)), .slice A' (dgs n.natAbs).length c']) ?_ rfl ?_
    · rw [results_cell1 rfl]; go_simp
    · exact ⟨A', c', rfl, HD.out.put2 RX.out.c0 _ _, (BX.out.setCell (Nat.le_refl _) _).setCell (Nat.le_refl _) _⟩
  · have eu : IntKind.u64.wrap n = (a : Int) := by
      unfold i64B at hn
      simp only [IntKind.wrap, IntKind.bits, IntKind.signed]
      first | omega | (simp; omega)
    have ED := Lib.hid (decide_eq_false h)
    rw [ED.out] at EV
    clear hn ha
    have e3 : IntKind.u32.wrap (a : Int) = ((a % 4294967296 : Nat) : Int) := by
      simp only [IntKind.wrap, IntKind.bits, IntKind.signed]
      first | omega | (simp; done) | (simp; omega)
    have e4 : IntKind.u32.wrap ((a : Int) / 4294967296) = ((a / 4294967296 : Nat) : Int) := by
      simp only [IntKind.wrap, IntKind.bits, IntKind.signed]
      first | omega | (simp; done) | (simp; omega)
    have MK0 : ∀ w', DgA w' (some ⟨w.heap.size + 1, 0, none⟩) 2 [a % 4294967296, a / 4294967296] → Calls Try.prog 13 #[.bool false, .slice (some ⟨w.heap.size + 1, 0, none⟩) 2 2] w' (IvP w' (sgnI false (val [a % 4294967296, a / 4294967296]))) := fun w' hd => make_any false _ 2 _ w' hd (by simp)
    rw [EV.out] at MK0
    have MK := Lib.hid MK0
    clear EV MK0 ED
    generalize a % 4294967296 = u at *
    generalize a / 4294967296 = v at *
    go_enter Try.func4, Try.ntmps4
    go_wp2_with (go_at_call 13; (with_reducible refine (MK.out _ (dg_two h1 h2 (by simp [go_sem]) (by simp [go_sem]))).mono ?_); rintro e w2 ⟨A', c', rfl, hd2, hb2⟩
                 have RX : Hid (RBox w2 w.heap.size false (.slice none 0 0)) := ⟨by rw [hb2.cell (p := ⟨w.heap.size, 0, none⟩) (by simp; omega)]; simp [go_sem], by rw [hb2.cell (p := ⟨w.heap.size, 1, none⟩) (by simp; omega)]; simp [go_sem], by rw [hb2.frozen (p := ⟨w.heap.size, 0, none⟩) (by simp; omega)]; simp [go_sem], by rw [hb2.frozen (p := ⟨w.heap.size, 1, none⟩) (by simp; omega)]; simp [go_sem]⟩
                 have r0 := RX.out.c0
                 have r1 := RX.out.c1
                 have r2 := RX.out.f0
                 have r3 := RX.out.f1
                 have BX : Hid (Below w.heap.size w w2) := (((Below.refl _ _).alloc (Nat.le_refl _) _).alloc (by simp) _).trans (hb2.mono (by simp; omega))
                 have HD := Lib.hid hd2
                 clear hb2 hd2)
    refine bodyPost_ret (v := .agg #[.bool (decide (n < 0)), .slice A' (dgs n.natAbs).length c']) ?_ rfl ?_
    · rw [results_cell1 rfl]; go_simp
    · exact ⟨A', c', rfl, HD.out.put2 RX.out.c0 _ _, (BX.out.setCell (Nat.le_refl _) _).setCell (Nat.le_refl _) _⟩

theorem digit_iv (A : Option Addr) (c x n i : Nat) (w : World) (h : DgA w A c (dgs x)) (hn : (dgs x).length = n) (hs : n ≤ 100) (hi : i ≤ 10) :
    Calls Try.prog 35 #[.slice A n c, .int .i64 i] w fun e w' => e = .returned (.int .u64 ((x / pw i % 4294967296 : Nat) : Int)) ∧ w' = w := by
  subst hn
  have := digit_any A c (dgs x) i w h (by omega) (by omega)
  rw [val_digit _ (dgs_dg x), val_dgs] at this
  exact this.mono fun e w' ⟨h1, h2⟩ => ⟨h1, h2.symm⟩
theorem or_u64 (u v : Nat) (hu : u < 4294967296) (hv : v < 4294967296) : bits .or .u64 (u : Int) (IntKind.u64.wrap ((v : Int) * 4294967296)) = ((u + 4294967296 * v : Nat) : Int) := by
  have e0 : IntKind.u64.wrap ((v : Int) * 4294967296) = ((4294967296 * v : Nat) : Int) := by
    simp only [IntKind.wrap, IntKind.bits, IntKind.signed]
    first | omega | (simp; omega)
  rw [e0]
  have e1 : (BitVec.ofInt 64 (u : Int)).toNat = u := by rw [BitVec.toNat_ofInt]; omega
  have e2 : (BitVec.ofInt 64 ((4294967296 * v : Nat) : Int)).toNat = 4294967296 * v := by rw [BitVec.toNat_ofInt]; omega
  have key : (BitVec.ofInt 64 (u : Int) ||| BitVec.ofInt 64 ((4294967296 * v : Nat) : Int)).toNat = u + 4294967296 * v := by
    rw [BitVec.toNat_or, e1, e2]
    exact or_add u v 32 hu
  show IntKind.u64.wrap ((BitVec.ofInt 64 (u : Int) ||| BitVec.ofInt 64 ((4294967296 * v : Nat) : Int)).toNat : Nat) = _
  rw [key]
  simp only [IntKind.wrap, IntKind.bits, IntKind.signed]
  first | omega | (simp; done) | (simp; omega)
theorem ret_int2D {a b : Int} (h : a = b) : Ending.returned (.tuple #[.int .i64 a, .int .i64 0]) = .returned (.tuple #[.int .i64 b, .int .i64 0]) := by rw [h]
def ToP (w : World) (z : Int) (e : Ending) (w' : World) : Prop := e = .returned (.tuple #[.int .i64 z, .int .i64 0]) ∧ Below w.heap.size w w'

set_option maxHeartbeats 2000000 in
set_option maxRecDepth 100000 in
theorem to_any (A : Option Addr) (c : Nat) (z : Int) (ng : Bool) (n : Nat) (w : World) (h : IvA w A c z) (hg : decide (z < 0) = ng) (hn : (dgs z.natAbs).length = n) (hz : z.natAbs ≤ 1099511627776) :
    Calls Try.prog 19 #[.agg #[.bool ng, .slice A n c]] w (ToP w z) := by
  have hn2 : n ≤ 2 := by rw [← hn]; exact dgs_len_of _ _ (by unfold pw pw pw; omega)
  have KC := Lib.hid (fun w' hb => canon_q A c z ng n w' (h.next hb) hg hn)
  have KD := Lib.hid (fun w' A' c' (h' : IvA w' A' c' z) i hi => digit_iv A' c' z.natAbs n i w' h'.d hn (by omega) hi)
  obtain ⟨x, hx⟩ : ∃ x, z.natAbs = x := ⟨_, rfl⟩
  have HZ : Hid ((ng = true → z = -(x : Int)) ∧ (ng = false → z = (x : Int))) := by
    constructor
    · intro q; rw [q] at hg; have := of_decide_eq_true hg; omega
    · intro q; rw [q] at hg; have := of_decide_eq_false hg; omega
  rw [hx] at KD hz
  obtain ⟨u, hu⟩ : ∃ u, x % 4294967296 = u := ⟨_, rfl⟩
  obtain ⟨v, hv⟩ : ∃ v, x / 4294967296 = v := ⟨_, rfl⟩
  have hu1 : u < 4294967296 := by omega
  have hv1 : v < 4294967296 := by omega
  have OR := or_u64 u v hu1 hv1
  have e0 : x / pw 0 % 4294967296 = u := by rw [← hu]; simp [pw]
  have e1 : x / pw 1 % 4294967296 = v := by rw [← hv]; simp [pw]; omega
  have ex : u + 4294967296 * v = x := by omega
  rw [ex] at OR
  have OR2 : bits .or .u64 (u : Int) ((v : Int) * 4294967296) = (x : Int) := by
    have e9 : IntKind.u64.wrap ((v : Int) * 4294967296) = (v : Int) * 4294967296 := by
      simp only [IntKind.wrap, IntKind.bits, IntKind.signed]
      first | omega | (simp; done) | (simp; omega)
    rw [e9] at OR
    exact OR
  have KD0 : Hid (∀ (w' : World) (A' : Option Addr) (c' : Nat), IvA w' A' c' z → Calls Try.prog 35 #[.slice A' n c', .int .i64 0] w' fun e w'' => e = .returned (.int .u64 (u : Int)) ∧ w'' = w') := fun w' A' c' h' => by have := KD.out w' A' c' h' 0 (by omega); rw [e0] at this; exact this
  have KD1 : Hid (∀ (w' : World) (A' : Option Addr) (c' : Nat), IvA w' A' c' z → Calls Try.prog 35 #[.slice A' n c', .int .i64 1] w' fun e w'' => e = .returned (.int .u64 (v : Int)) ∧ w'' = w') := fun w' A' c' h' => by have := KD.out w' A' c' h' 1 (by omega); rw [e1] at this; exact this
  clear h hg hn KD hx hu hv e0 e1 ex
  have hneg : IntKind.i64.wrap (IntKind.u64.wrap (-(x : Int))) = -(x : Int) := by
    simp only [IntKind.wrap, IntKind.bits, IntKind.signed]
    first | omega | (simp; omega)
  go_enter Try.func19, Try.ntmps19
  go_upto_region 1 with (fail)
  have b00 : (w.alloc (.cells #[.bool ng, .slice A n c] 24)).cell? ⟨w.heap.size, 0, none⟩ = some (.bool ng) := by simp [go_sem]
  have g00 : (w.alloc (.cells #[.bool ng, .slice A n c] 24)).frozen? ⟨w.heap.size, 0, none⟩ = false := by simp [go_sem]
  have b01 : (w.alloc (.cells #[.bool ng, .slice A n c] 24)).cell? ⟨w.heap.size, 1, none⟩ = some (.slice A n c) := by simp [go_sem]
  have g01 : (w.alloc (.cells #[.bool ng, .slice A n c] 24)).frozen? ⟨w.heap.size, 1, none⟩ = false := by simp [go_sem]
  have BW : Hid (Below w.heap.size w (w.alloc (.cells #[.bool ng, .slice A n c] 24))) := ((Below.refl _ _).alloc (by first | (simp; done) | (simp; omega)) _)
  generalize (w.alloc (.cells #[.bool ng, .slice A n c] 24)) = w0 at *
  have RA : Hid (RBox w0 w.heap.size ng (.slice A n c)) := ⟨b00, b01, g00, g01⟩
  clear g00 g01
  go_upto_region 2 with (go_at_call 14; (with_reducible refine (KC.out _ BW.out).mono ?_); rintro e w5 ⟨A5, c5, rfl, hd, hb⟩; have BX := Lib.hid (BW.out.trans (hb.mono BW.out.size)); have D5 := Lib.hid hd; have RA := Lib.hid (RA.out.next hb); have q00 := RA.out.c0; have q01 := RA.out.c1; have q02 := RA.out.f0; have q03 := RA.out.f1; clear hb hd)
  have RB := Lib.hid (RA.out.put ng (.slice A5 n c5))
  have D6 := Lib.hid (D5.out.put2 RA.out (.bool ng) (.slice A5 n c5))
  have B6 : Hid (Below w.heap.size w ((w5.setCell ⟨w.heap.size, 0, none⟩ (.bool ng)).setCell ⟨w.heap.size, 1, none⟩ (.slice A5 n c5))) := (BX.out.setCell (Nat.le_refl _) _).setCell (Nat.le_refl _) _
  clear q00 q01 q02 q03 b00 b01
  generalize (w5.setCell ⟨w.heap.size, 0, none⟩ (.bool ng)).setCell ⟨w.heap.size, 1, none⟩ (.slice A5 n c5) = w6 at *
  have r0 := RB.out.c0
  have r1 := RB.out.c1
  have hn3 : ¬ (2 < n) := by omega
  have hn4 : ¬ ((2 : Int) < (n : Int)) := by omega
  go_upto_region 4 with (fail)
  have KQ0 := Lib.hid (fun k => KD0.out (w6.drewN k) A5 c5 ⟨⟨D6.out.d.dg, D6.out.d.len, D6.out.d.nil, D6.out.d.at_⟩, D6.out.s⟩)
  have KQ1 := Lib.hid (fun k => KD1.out (w6.drewN k) A5 c5 ⟨⟨D6.out.d.dg, D6.out.d.len, D6.out.d.nil, D6.out.d.at_⟩, D6.out.s⟩)
  go_quiet ((first | (with_reducible exact Calls.quiet_of_same (KQ0.out _)) | (with_reducible exact Calls.quiet_of_same (KQ1.out _))))
  cases ng
  · have ZQ := Lib.hid (HZ.out.2 rfl)
    have hlt : (x : Int) < 9223372036854775808 := by omega
    go_wp2
    go_ret2
    exact ⟨ret_int2D ZQ.out.symm, by first | exact bdrewN_D B6.out _ | exact B6.out⟩
  · have ZQ := Lib.hid (HZ.out.1 rfl)
    have hlt : (x : Int) ≤ 9223372036854775808 := by omega
    go_wp2
    go_ret2
    exact ⟨ret_int2D ZQ.out.symm, by first | exact bdrewN_D B6.out _ | exact B6.out⟩

theorem results_cct {fn : Func} {p q r : Tmp} {ty ty2 : TypeId} (h : fn.results = #[.cell p ty, .cell q ty2, .tmp r]) (tmps : Array Value) (P : Program) (w : World) :
    (results fn tmps).run P w = ((asAddr (tmps.getD p undef)).run P w).andThen fun a w₁ => ((loadVar ty a).run P w₁).andThen fun x w₂ => ((asAddr (tmps.getD q undef)).run P w₂).andThen fun b w₃ => ((loadVar ty2 b).run P w₃).andThen fun y w₄ => .ok (.tuple #[x, y, tmps.getD r undef]) w₄ := by
  simp only [results, h]
  simp [Sem.run_bind, Result.andThen]

end Go.Proofs.Ytifdimpfgglieaa
