/-
  The walk of EvalArithmetic.
-/
import Derived.Test.YtifdimpfgglieaaDgL
import Derived.Test.YtifdimpfgglieaaDgO
import Derived.Test.YtifdimpfgglieaaDgQ
namespace Go.Proofs.Ytifdimpfgglieaa
set_option linter.unusedVariables false
set_option linter.unusedSimpArgs false
open Go.ChangeShapes Go.WideShapes Go.ChangeAt Go.RowKit

theorem satadd_any (a b : Int) (w : World) (ha : i64B a) (hb : i64B b) : Calls Try.prog 7 #[.int .i64 a, .int .i64 b] w fun e w' => e = .returned (.int .i64 (addV a b)) ∧ w = w' := by
  go_enter Try.func7, Try.ntmps7
  go_wp2_with (go_at_call 20; (with_reducible refine (fadd_any a b _ ha hb).mono ?_); rintro e w' ⟨rfl, hw⟩; subst hw)
  go_ret
  exact ⟨rfl, rfl⟩
theorem satmul_any (a b : Int) (w : World) (ha : i64B a) (hb : i64B b) : Calls Try.prog 9 #[.int .i64 a, .int .i64 b] w fun e w' => e = .returned (.int .i64 (mulV a b)) ∧ w = w' := by
  go_enter Try.func9, Try.ntmps9
  go_wp2_with (go_at_call 25; (with_reducible refine (fmul_any a b _ ha hb).mono ?_); rintro e w' ⟨rfl, hw⟩; subst hw)
  go_ret
  exact ⟨rfl, rfl⟩
theorem satdiv_any (a b : Int) (w : World) (ha : i64B a) (hb : i64B b) : Calls Try.prog 11 #[.int .i64 a, .int .i64 b] w fun e w' => e = .returned (.int .i64 (divV a b)) ∧ w = w' := by
  go_enter Try.func11, Try.ntmps11
  go_wp2_with (go_at_call 27; (with_reducible refine (fdiv_any a b _ ha hb).mono ?_); rintro e w' ⟨rfl, hw⟩; subst hw)
  go_ret
  exact ⟨rfl, rfl⟩
theorem i64_lt200 {a : Int} (h : i64B a) : a.natAbs < 2 ^ 200 := by unfold i64B at h; omega
theorem fdiv_small {a b : Int} (h : i64B a) (hb : b ≠ 0) : (a.fdiv b).natAbs < 2 ^ 200 := by
  have h1 : a.natAbs / b.natAbs ≤ a.natAbs := Nat.div_le_self _ _
  rw [fdiv_of a b hb]
  unfold i64B at h
  unfold sgnI
  generalize a.natAbs / b.natAbs = q at *
  (repeat' split) <;> omega
theorem add_small {a b : Int} (h : i64B a) (h2 : i64B b) : (a + b).natAbs < 2 ^ 200 := by unfold i64B at h h2; omega
theorem mul_small {a b : Int} (h : i64B a) (h2 : i64B b) : (a * b).natAbs < 2 ^ 200 := by
  unfold i64B at h h2
  rw [Int.natAbs_mul]
  have : a.natAbs * b.natAbs ≤ 9223372036854775808 * 9223372036854775808 := Nat.mul_le_mul (by omega) (by omega)
  omega
theorem from_q (a : Int) (w : World) (h : i64B a) : Calls Try.prog 4 #[.int .i64 a] w (IvQ w a (decide (a < 0)) (dgs a.natAbs).length) :=
  (from_any a w h).mono fun e w' ⟨A', c', he, hd, hb⟩ => ⟨A', c', he, iv_small hd (i64_lt200 h), hb⟩
/-- The clamp of what a function of integers answers. -/
theorem clamp_iv (A : Option Addr) (c : Nat) (z : Int) (w : World) (h : DgA w A c (dgs z.natAbs)) (hz : z.natAbs < 2 ^ 200) :
    Calls Try.prog 6 #[.agg #[.bool (decide (z < 0)), .slice A (dgs z.natAbs).length c]] w (ClP w (clampI z)) := dclamp_any A c z _ _ w (iv_small h hz) rfl rfl
set_option maxHeartbeats 16000000 in
set_option maxRecDepth 100000 in
theorem walk_evalArithmetic (a b : Int) (w : World) (wa : (Lit.int .i64 a).wf = true) (wb : (Lit.int .i64 b).wf = true) :
    Calls Try.prog 3 #[.int .i64 a, .int .i64 b] w fun e w' => e = .returned (.bool true) ∧ Below w.heap.size w w' := by
  have ha : i64B a := by
    simp [Lit.wf, IntKind.min, IntKind.max, IntKind.bits, IntKind.signed] at wa
    unfold i64B; omega
  have hb : i64B b := by
    simp [Lit.wf, IntKind.min, IntKind.max, IntKind.bits, IntKind.signed] at wb
    unfold i64B; omega
  clear wa wb
  have KFA := Lib.hid (fun w' => from_q a w' ha)
  have KFB := Lib.hid (fun w' => from_q b w' hb)
  have KA1 : Hid (∀ w', Calls Try.prog 7 #[.int .i64 a, .int .i64 b] w' fun e w'' => e = .returned (.int .i64 (clampI (a + b))) ∧ w' = w'') := fun w' => satadd_any a b w' ha hb
  have KM1 : Hid (∀ w', Calls Try.prog 9 #[.int .i64 a, .int .i64 b] w' fun e w'' => e = .returned (.int .i64 (clampI (a * b))) ∧ w' = w'') := fun w' => satmul_any a b w' ha hb
  have KD1 := Lib.hid (fun w' => satdiv_any a b w' ha hb)
  have KC1 := Lib.hid (fun A c w' h => clamp_iv A c (a + b) w' h (add_small ha hb))
  have KC2 := Lib.hid (fun A c w' h => clamp_iv A c (a * b) w' h (mul_small ha hb))
  have KQ := Lib.hid (fun A c w' (h0 : b ≠ 0) h => clamp_iv A c (a.fdiv b) w' h (fdiv_small ha h0))
  have KDM0 := fun (A : Option Addr) (c : Nat) (B : Option Addr) (d : Nat) (w' : World) (h : IvA w' A c a) (h2 : IvA w' B d b) => divmod_any A c a _ _ B d b _ _ w' h rfl rfl h2 rfl rfl (iv_len20 (i64_lt200 ha)) (iv_len20 (i64_lt200 hb))
  have KA20 := fun (A : Option Addr) (c : Nat) (B : Option Addr) (d : Nat) (w' : World) (h : IvA w' A c a) (h2 : IvA w' B d b) => iadd_any A c a _ _ B d b _ _ w' h rfl rfl h2 rfl rfl
  have KM20 := fun (A : Option Addr) (c : Nat) (B : Option Addr) (d : Nat) (w' : World) (h : IvA w' A c a) (h2 : IvA w' B d b) => imul_any A c a _ _ B d b _ _ w' h rfl rfl h2 rfl rfl
  have AW := Lib.hid eawake_any
  clear ha hb
  obtain ⟨sa, hsa⟩ : ∃ s, decide (a < 0) = s := ⟨_, rfl⟩
  obtain ⟨sb, hsb⟩ : ∃ s, decide (b < 0) = s := ⟨_, rfl⟩
  obtain ⟨la, hla⟩ : ∃ s, (dgs a.natAbs).length = s := ⟨_, rfl⟩
  obtain ⟨lb, hlb⟩ : ∃ s, (dgs b.natAbs).length = s := ⟨_, rfl⟩
  rw [hsa, hla] at KFA
  rw [hsb, hlb] at KFB
  rw [hsa, hla, hsb, hlb] at KDM0 KA20 KM20
  have KDM := Lib.hid KDM0
  have KA2' := Lib.hid KA20
  have KM2' := Lib.hid KM20
  clear hsa hsb hla hlb KDM0 KA20 KM20
  go_enter Try.func3, Try.ntmps3
  go_upto_region 1 with (fail)
  go_cut [5, 6] (fun v5 v6 wx => ∃ b5 b6 A1 c1 B1 d1, v5 = .pointer (some ⟨b5, 0, none⟩) ∧ v6 = .pointer (some ⟨b6, 0, none⟩) ∧ Hid (RBox wx b5 sa (.slice A1 la c1) ∧ RBox wx b6 sb (.slice B1 lb d1) ∧ IvA wx A1 c1 a ∧ IvA wx B1 d1 b ∧ Below w.heap.size w wx))
  case first =>
    go_wp2_with (first
      | (go_at_call 4; (with_reducible refine (KFA.out _).mono ?_); rintro e w1 ⟨A1, c1, rfl, hd, hb⟩; have B1 := Lib.hid hb; have D1 := Lib.hid hd; clear hb hd)
      | (go_at_call 4; (with_reducible refine (KFB.out _).mono ?_); rintro e w2 ⟨A2, c2, rfl, hd, hb⟩; have B2 := Lib.hid (B1.out.trans (hb.mono B1.out.size)); have D2 := Lib.hid hd; have D1 := Lib.hid (D1.out.next hb); clear hb hd))
    go_meet
    refine ⟨_, _, A1, c1, A2, c2, rfl, rfl, box_alloc (box_new _ _ _ _) _, ?_, (D1.out.next ((Below.refl _ _).alloc (Nat.le_refl _) _)).next ((Below.refl _ _).alloc (Nat.le_refl _) _), (D2.out.next ((Below.refl _ _).alloc (Nat.le_refl _) _)).next ((Below.refl _ _).alloc (Nat.le_refl _) _), (B2.out.alloc B2.out.size _).alloc (by have := B2.out.size; simp; omega) _⟩
    have := box_new (w2.alloc (.cells #[.bool sa, .slice A1 la c1] 24)) sb (.slice A2 lb c2) 24
    simpa using this
  case rest =>
    obtain ⟨b5, b6, A1, c1, B1, d1, rfl, rfl, HC⟩ := hcut
    have t00 := HC.out.1.c0
    have t01 := HC.out.1.c1
    have t10 := HC.out.2.1.c0
    have t11 := HC.out.2.1.c1
    have KV := Lib.hid (KDM.out A1 c1 B1 d1 wc HC.out.2.2.1 HC.out.2.2.2.1)
    have DV : Hid (divV a b = if b = 0 then 0 else clampI (a.fdiv b)) := rfl
    have DVQ := DV.out
    by_cases h0 : b = 0
    · have KV2 : Hid (Calls Try.prog 5 #[.agg #[.bool sa, .slice A1 la c1], .agg #[.bool sb, .slice B1 lb d1]] wc (DmZ wc)) := KV.out.mono fun e w' h => by unfold DmQ at h; rw [if_pos h0] at h; exact h
      rw [if_pos h0] at DVQ
      rw [DVQ] at KD1
      clear h0 KV DVQ DV KQ KDM
      go_upto_region 6 with (go_at_call 5; (with_reducible refine KV2.out.mono ?_); rintro e w3 ⟨rfl, hb⟩; have B3 := Lib.hid hb; clear hb)
      have BR : Hid (Below wc.heap.size wc ((w3.alloc (.cells #[.bool false, .slice none 0 0] 24)).alloc (.cells #[.bool false, .slice none 0 0] 24))) := (B3.out.alloc B3.out.size _).alloc (by have := B3.out.size; simp; omega) _
      generalize (w3.alloc (.cells #[.bool false, .slice none 0 0] 24)).alloc (.cells #[.bool false, .slice none 0 0] 24) = wr at *
      have Z5 := Lib.hid (HC.out.1.next BR.out)
      have Z6 := Lib.hid (HC.out.2.1.next BR.out)
      have DA := Lib.hid (HC.out.2.2.1.next BR.out)
      have DB := Lib.hid (HC.out.2.2.2.1.next BR.out)
      have BC : Hid (Below w.heap.size w wr) := HC.out.2.2.2.2.trans (BR.out.mono HC.out.2.2.2.2.size)
      have KA2 := Lib.hid (fun w' hb => KA2'.out A1 c1 B1 d1 w' (DA.out.next hb) (DB.out.next hb))
      have KM2 := Lib.hid (fun w' hb => KM2'.out A1 c1 B1 d1 w' (DA.out.next hb) (DB.out.next hb))
      have t00 := Z5.out.c0
      have t01 := Z5.out.c1
      have t10 := Z6.out.c0
      have t11 := Z6.out.c1
      clear HC KA2' KM2' DB
      go_region_held3 (fun w' => w'.cell? ⟨b5, 0, none⟩ = some (.bool sa) ∧ w'.cell? ⟨b5, 1, none⟩ = some (.slice A1 la c1) ∧ w'.cell? ⟨b6, 0, none⟩ = some (.bool sb) ∧ w'.cell? ⟨b6, 1, none⟩ = some (.slice B1 lb d1)) (first | exact ⟨t00, t01, t10, t11⟩ | go_keep)
        (first
          | (go_at_call 7; (with_reducible refine (KA1.out _).mono ?_); rintro e w' ⟨rfl, hw⟩; subst hw)
          | (go_at_call 9; (with_reducible refine (KM1.out _).mono ?_); rintro e w' ⟨rfl, hw⟩; subst hw)
          | (go_at_call 11; (with_reducible refine (KD1.out _).mono ?_); rintro e w' ⟨rfl, hw⟩; subst hw)
          | (go_at_call 8; (with_reducible refine (KA2.out _ (by first | exact BZ.out | exact (Below.refl _ _).drew)).mono ?_); rintro e w11 ⟨A11, c11, rfl, hd, hb⟩; have BZ : Hid (Below wr.heap.size wr w11) := (by first | exact BZ.out.trans (hb.mono BZ.out.size) | exact ((Below.refl _ _).drew).trans (hb.mono (by first | exact Nat.le_refl _ | (simp; done)))); have Z5 : Hid (RBox w11 _ _ _) := (by first | exact Z5.out.next hb | exact Z5.out.drew.next hb); have t00 := Z5.out.c0; have t01 := Z5.out.c1; have Z6 : Hid (RBox w11 _ _ _) := (by first | exact Z6.out.next hb | exact Z6.out.drew.next hb); have t10 := Z6.out.c0; have t11 := Z6.out.c1; (first | (have DA := Lib.hid (DA.out.next hb)) | skip); (first | (have DS := Lib.hid (DS.out.next hb)) | skip); (first | (have DM := Lib.hid (DM.out.next hb)) | skip); have DS := Lib.hid hd; clear hb hd)
          | (go_at_call 10; (with_reducible refine (KM2.out _ (by first | exact BZ.out | exact (Below.refl _ _).drew)).mono ?_); rintro e w12 ⟨A12, c12, rfl, hd, hb⟩; have BZ : Hid (Below wr.heap.size wr w12) := (by first | exact BZ.out.trans (hb.mono BZ.out.size) | exact ((Below.refl _ _).drew).trans (hb.mono (by first | exact Nat.le_refl _ | (simp; done)))); have Z5 : Hid (RBox w12 _ _ _) := (by first | exact Z5.out.next hb | exact Z5.out.drew.next hb); have t00 := Z5.out.c0; have t01 := Z5.out.c1; have Z6 : Hid (RBox w12 _ _ _) := (by first | exact Z6.out.next hb | exact Z6.out.drew.next hb); have t10 := Z6.out.c0; have t11 := Z6.out.c1; (first | (have DA := Lib.hid (DA.out.next hb)) | skip); (first | (have DS := Lib.hid (DS.out.next hb)) | skip); (first | (have DM := Lib.hid (DM.out.next hb)) | skip); have DM := Lib.hid hd; clear hb hd)
          | (go_at_call 6; (with_reducible refine (KC1.out _ _ _ DS.out).mono ?_); rintro e w13 ⟨rfl, hb⟩; have BZ : Hid (Below wr.heap.size wr w13) := (by first | exact BZ.out.trans (hb.mono BZ.out.size) | exact ((Below.refl _ _).drew).trans (hb.mono (by first | exact Nat.le_refl _ | (simp; done)))); have Z5 : Hid (RBox w13 _ _ _) := (by first | exact Z5.out.next hb | exact Z5.out.drew.next hb); have t00 := Z5.out.c0; have t01 := Z5.out.c1; have Z6 : Hid (RBox w13 _ _ _) := (by first | exact Z6.out.next hb | exact Z6.out.drew.next hb); have t10 := Z6.out.c0; have t11 := Z6.out.c1; (first | (have DA := Lib.hid (DA.out.next hb)) | skip); (first | (have DS := Lib.hid (DS.out.next hb)) | skip); (first | (have DM := Lib.hid (DM.out.next hb)) | skip); clear hb)
          | (go_at_call 6; (with_reducible refine (KC2.out _ _ _ DM.out).mono ?_); rintro e w14 ⟨rfl, hb⟩; have BZ : Hid (Below wr.heap.size wr w14) := (by first | exact BZ.out.trans (hb.mono BZ.out.size) | exact ((Below.refl _ _).drew).trans (hb.mono (by first | exact Nat.le_refl _ | (simp; done)))); have Z5 : Hid (RBox w14 _ _ _) := (by first | exact Z5.out.next hb | exact Z5.out.drew.next hb); have t00 := Z5.out.c0; have t01 := Z5.out.c1; have Z6 : Hid (RBox w14 _ _ _) := (by first | exact Z6.out.next hb | exact Z6.out.drew.next hb); have t10 := Z6.out.c0; have t11 := Z6.out.c1; (first | (have DA := Lib.hid (DA.out.next hb)) | skip); (first | (have DS := Lib.hid (DS.out.next hb)) | skip); (first | (have DM := Lib.hid (DM.out.next hb)) | skip); clear hb)
          | (go_at_call 12; (with_reducible refine (AW.out _).mono ?_); rintro e w15 ⟨rfl, hb⟩; have BZ : Hid (Below wr.heap.size wr w15) := (by first | exact BZ.out.trans (hb.mono BZ.out.size) | exact ((Below.refl _ _).drew).trans (hb.mono (by first | exact Nat.le_refl _ | (simp; done)))); have Z5 : Hid (RBox w15 _ _ _) := (by first | exact Z5.out.next hb | exact Z5.out.drew.next hb); have t00 := Z5.out.c0; have t01 := Z5.out.c1; have Z6 : Hid (RBox w15 _ _ _) := (by first | exact Z6.out.next hb | exact Z6.out.drew.next hb); have t10 := Z6.out.c0; have t11 := Z6.out.c1; (first | (have DA := Lib.hid (DA.out.next hb)) | skip); (first | (have DS := Lib.hid (DS.out.next hb)) | skip); (first | (have DM := Lib.hid (DM.out.next hb)) | skip); clear hb))
      all_goals go_wp2_with fail
      all_goals go_ret
      all_goals exact ⟨rfl, BC.out.trans (BZ.out.mono BC.out.size)⟩
    · have KV2 : Hid (Calls Try.prog 5 #[.agg #[.bool sa, .slice A1 la c1], .agg #[.bool sb, .slice B1 lb d1]] wc (DmP wc (a.fdiv b))) := KV.out.mono fun e w' h => by unfold DmQ at h; rw [if_neg h0] at h; exact h
      rw [if_neg h0] at DVQ
      rw [DVQ] at KD1
      have KQ2 := Lib.hid (fun A c w' h => KQ.out A c w' h0 h)
      clear h0 KV KQ DVQ DV KDM
      go_upto_region 6 with (first
        | (go_at_call 5; (with_reducible refine KV2.out.mono ?_); rintro e w3 ⟨A3, c3, t3, A4, n4, c4, rfl, hd, hb⟩; have B3 := Lib.hid hb; have D3 := Lib.hid hd; clear hb hd)
        | (go_at_call 6; (with_reducible refine (KQ2.out _ _ _ (dga_alloc (dga_alloc D3.out _) _)).mono ?_); rintro e wr ⟨rfl, hb⟩; have BR : Hid (Below wc.heap.size wc wr) := ((B3.out.alloc B3.out.size _).alloc (by have := B3.out.size; simp; omega) _).trans (hb.mono (by have := B3.out.size; simp; omega)); clear hb))
      have Z5 := Lib.hid (HC.out.1.next BR.out)
      have Z6 := Lib.hid (HC.out.2.1.next BR.out)
      have DA := Lib.hid (HC.out.2.2.1.next BR.out)
      have DB := Lib.hid (HC.out.2.2.2.1.next BR.out)
      have BC : Hid (Below w.heap.size w wr) := HC.out.2.2.2.2.trans (BR.out.mono HC.out.2.2.2.2.size)
      have KA2 := Lib.hid (fun w' hb => KA2'.out A1 c1 B1 d1 w' (DA.out.next hb) (DB.out.next hb))
      have KM2 := Lib.hid (fun w' hb => KM2'.out A1 c1 B1 d1 w' (DA.out.next hb) (DB.out.next hb))
      have t00 := Z5.out.c0
      have t01 := Z5.out.c1
      have t10 := Z6.out.c0
      have t11 := Z6.out.c1
      clear HC KA2' KM2' DB
      go_region_held3 (fun w' => w'.cell? ⟨b5, 0, none⟩ = some (.bool sa) ∧ w'.cell? ⟨b5, 1, none⟩ = some (.slice A1 la c1) ∧ w'.cell? ⟨b6, 0, none⟩ = some (.bool sb) ∧ w'.cell? ⟨b6, 1, none⟩ = some (.slice B1 lb d1)) (first | exact ⟨t00, t01, t10, t11⟩ | go_keep)
        (first
          | (go_at_call 7; (with_reducible refine (KA1.out _).mono ?_); rintro e w' ⟨rfl, hw⟩; subst hw)
          | (go_at_call 9; (with_reducible refine (KM1.out _).mono ?_); rintro e w' ⟨rfl, hw⟩; subst hw)
          | (go_at_call 11; (with_reducible refine (KD1.out _).mono ?_); rintro e w' ⟨rfl, hw⟩; subst hw)
          | (go_at_call 8; (with_reducible refine (KA2.out _ (by first | exact BZ.out | exact (Below.refl _ _).drew)).mono ?_); rintro e w11 ⟨A11, c11, rfl, hd, hb⟩; have BZ : Hid (Below wr.heap.size wr w11) := (by first | exact BZ.out.trans (hb.mono BZ.out.size) | exact ((Below.refl _ _).drew).trans (hb.mono (by first | exact Nat.le_refl _ | (simp; done)))); have Z5 : Hid (RBox w11 _ _ _) := (by first | exact Z5.out.next hb | exact Z5.out.drew.next hb); have t00 := Z5.out.c0; have t01 := Z5.out.c1; have Z6 : Hid (RBox w11 _ _ _) := (by first | exact Z6.out.next hb | exact Z6.out.drew.next hb); have t10 := Z6.out.c0; have t11 := Z6.out.c1; (first | (have DA := Lib.hid (DA.out.next hb)) | skip); (first | (have DS := Lib.hid (DS.out.next hb)) | skip); (first | (have DM := Lib.hid (DM.out.next hb)) | skip); have DS := Lib.hid hd; clear hb hd)
          | (go_at_call 10; (with_reducible refine (KM2.out _ (by first | exact BZ.out | exact (Below.refl _ _).drew)).mono ?_); rintro e w12 ⟨A12, c12, rfl, hd, hb⟩; have BZ : Hid (Below wr.heap.size wr w12) := (by first | exact BZ.out.trans (hb.mono BZ.out.size) | exact ((Below.refl _ _).drew).trans (hb.mono (by first | exact Nat.le_refl _ | (simp; done)))); have Z5 : Hid (RBox w12 _ _ _) := (by first | exact Z5.out.next hb | exact Z5.out.drew.next hb); have t00 := Z5.out.c0; have t01 := Z5.out.c1; have Z6 : Hid (RBox w12 _ _ _) := (by first | exact Z6.out.next hb | exact Z6.out.drew.next hb); have t10 := Z6.out.c0; have t11 := Z6.out.c1; (first | (have DA := Lib.hid (DA.out.next hb)) | skip); (first | (have DS := Lib.hid (DS.out.next hb)) | skip); (first | (have DM := Lib.hid (DM.out.next hb)) | skip); have DM := Lib.hid hd; clear hb hd)
          | (go_at_call 6; (with_reducible refine (KC1.out _ _ _ DS.out).mono ?_); rintro e w13 ⟨rfl, hb⟩; have BZ : Hid (Below wr.heap.size wr w13) := (by first | exact BZ.out.trans (hb.mono BZ.out.size) | exact ((Below.refl _ _).drew).trans (hb.mono (by first | exact Nat.le_refl _ | (simp; done)))); have Z5 : Hid (RBox w13 _ _ _) := (by first | exact Z5.out.next hb | exact Z5.out.drew.next hb); have t00 := Z5.out.c0; have t01 := Z5.out.c1; have Z6 : Hid (RBox w13 _ _ _) := (by first | exact Z6.out.next hb | exact Z6.out.drew.next hb); have t10 := Z6.out.c0; have t11 := Z6.out.c1; (first | (have DA := Lib.hid (DA.out.next hb)) | skip); (first | (have DS := Lib.hid (DS.out.next hb)) | skip); (first | (have DM := Lib.hid (DM.out.next hb)) | skip); clear hb)
          | (go_at_call 6; (with_reducible refine (KC2.out _ _ _ DM.out).mono ?_); rintro e w14 ⟨rfl, hb⟩; have BZ : Hid (Below wr.heap.size wr w14) := (by first | exact BZ.out.trans (hb.mono BZ.out.size) | exact ((Below.refl _ _).drew).trans (hb.mono (by first | exact Nat.le_refl _ | (simp; done)))); have Z5 : Hid (RBox w14 _ _ _) := (by first | exact Z5.out.next hb | exact Z5.out.drew.next hb); have t00 := Z5.out.c0; have t01 := Z5.out.c1; have Z6 : Hid (RBox w14 _ _ _) := (by first | exact Z6.out.next hb | exact Z6.out.drew.next hb); have t10 := Z6.out.c0; have t11 := Z6.out.c1; (first | (have DA := Lib.hid (DA.out.next hb)) | skip); (first | (have DS := Lib.hid (DS.out.next hb)) | skip); (first | (have DM := Lib.hid (DM.out.next hb)) | skip); clear hb)
          | (go_at_call 12; (with_reducible refine (AW.out _).mono ?_); rintro e w15 ⟨rfl, hb⟩; have BZ : Hid (Below wr.heap.size wr w15) := (by first | exact BZ.out.trans (hb.mono BZ.out.size) | exact ((Below.refl _ _).drew).trans (hb.mono (by first | exact Nat.le_refl _ | (simp; done)))); have Z5 : Hid (RBox w15 _ _ _) := (by first | exact Z5.out.next hb | exact Z5.out.drew.next hb); have t00 := Z5.out.c0; have t01 := Z5.out.c1; have Z6 : Hid (RBox w15 _ _ _) := (by first | exact Z6.out.next hb | exact Z6.out.drew.next hb); have t10 := Z6.out.c0; have t11 := Z6.out.c1; (first | (have DA := Lib.hid (DA.out.next hb)) | skip); (first | (have DS := Lib.hid (DS.out.next hb)) | skip); (first | (have DM := Lib.hid (DM.out.next hb)) | skip); clear hb))
      all_goals go_wp2_with fail
      all_goals go_ret
      all_goals exact ⟨rfl, BC.out.trans (BZ.out.mono BC.out.size)⟩

end Go.Proofs.Ytifdimpfgglieaa
