/-
  The contracts of the digits' functions of pairingref1: compareDigits, bitLen, mulDigits, shift, half.
-/
import Derived.Test.YtifdimpfgglieaaDgW
import Derived.Lib.QuietBelow
import Derived.Deep.RegionHeld3
import Derived.StillTailTactics
namespace Go.Proofs.Ytifdimpfgglieaa
set_option linter.unusedVariables false
set_option linter.unusedSimpArgs false
open Go.ChangeShapes Go.WideShapes Go.ChangeAt Go.RowKit

theorem bdrewN_D {B : Nat} {w w1 : World} (h : Below B w w1) (n : Nat) : Below B w (w1.drewN n) := ⟨h.os, h.tape, h.output, h.size, h.block⟩
theorem cmpN_lt {p q : Nat} (h : p < q) : cmpN p q = -1 := by unfold cmpN; rw [if_pos h]
theorem cmpN_gt {p q : Nat} (h : q < p) : cmpN p q = 1 := by unfold cmpN; rw [if_neg (by omega), if_pos h]
theorem cmpN_eq {p q : Nat} (h : p = q) : cmpN p q = 0 := by unfold cmpN; rw [if_neg (by omega), if_neg (by omega)]
def CmpP (w : World) (z : Int) (e : Ending) (w' : World) : Prop := e = .returned (.int .i64 z) ∧ Below w.heap.size w w'
set_option maxHeartbeats 1000000 in
theorem cmp_any (A B : Option Addr) (ca cb : Nat) (a b : List Nat) (w : World) (ha : DgA w A ca a) (hb : DgA w B cb b) (hla : a.length ≤ 100) (hlb : b.length ≤ 100) :
    Calls Try.prog 22 #[.slice A a.length ca, .slice B b.length cb] w (CmpP w (cmpN (val a) (val b))) := by
  have KA0 := trim_any A ca a w ha (by omega)
  have KB0 := trim_any B cb b w hb (by omega)
  have DA0 := ha.trim
  have DB0 := hb.trim
  have hx1 := trim_len a ha.dg
  have hx2 := trim_len b hb.dg
  obtain ⟨x, hx⟩ : ∃ x, dgs (val a) = x := ⟨_, rfl⟩
  obtain ⟨y, hy⟩ : ∃ y, dgs (val b) = y := ⟨_, rfl⟩
  have LT0 := dgs_len_lt (val a) (val b)
  have GT0 := dgs_len_lt (val b) (val a)
  have vx : Hid (val x = val a) := by unfold Hid; rw [← hx, val_dgs]
  have vy : Hid (val y = val b) := by unfold Hid; rw [← hy, val_dgs]
  rw [hx] at KA0 DA0 hx1 LT0 GT0
  rw [hy] at KB0 DB0 hx2 LT0 GT0
  have KA := Lib.hid KA0
  have KB := Lib.hid KB0
  have DA := Lib.hid DA0
  have DB := Lib.hid DB0
  have LT := Lib.hid LT0
  have GT := Lib.hid GT0
  have hlx : x.length ≤ 100 := by omega
  have hly : y.length ≤ 100 := by omega
  clear KA0 KB0 DA0 DB0 LT0 GT0 hx hy ha hb hx1 hx2
  obtain ⟨R, hR⟩ : ∃ R, cmpN (val a) (val b) = R := ⟨_, rfl⟩
  have HR := Lib.hid hR
  rw [hR]
  clear hR
  go_enter Try.func22, Try.ntmps22
  rcases Nat.lt_trichotomy x.length y.length with h | h | h
  · have R1 : Hid (R = -1) := by unfold Hid; rw [← HR.out]; exact cmpN_lt (LT.out h)
    have hne : (((x.length : Nat) : Int) != ((y.length : Nat) : Int)) = true := by simp; omega
    have hne2 : x.length ≠ y.length := by omega
    go_wp2_with (first
      | (go_at_call 24; (with_reducible refine KA.out.mono ?_); rintro e w' ⟨rfl, hw⟩; subst hw)
      | (go_at_call 24; (with_reducible refine KB.out.mono ?_); rintro e w' ⟨rfl, hw⟩; subst hw))
    go_ret
    exact ⟨ret_int R1.out.symm, Below.refl _ _⟩
  · have hne : (((x.length : Nat) : Int) != ((y.length : Nat) : Int)) = false := by simp; omega
    have HE := Lib.hid h
    have hw0 : IntKind.i64.wrap (((x.length : Nat) : Int) - 1) = ((x.length : Nat) : Int) - 1 := IntWalk.i64_in _ (by omega)
    have hne2 : ¬ x.length ≠ y.length := by omega
    go_wp2_with (first
      | (go_at_call 24; (with_reducible refine KA.out.mono ?_); rintro e w' ⟨rfl, hw⟩; subst hw)
      | (go_at_call 24; (with_reducible refine KB.out.mono ?_); rintro e w' ⟨rfl, hw⟩; subst hw))
    go_loopw [5] (fun i wr => ∃ k : Nat, k ≤ x.length ∧ i = .int .i64 ((k : Int) - 1) ∧ Hid (x.drop k = y.drop k) ∧ Hid (Below w.heap.size w wr)) (fun i _ => (intOf i + 1).toNat)
    case atStart => exact ⟨x.length, Nat.le_refl _, by first | rfl | rw [HE.out], by unfold Hid; rw [List.drop_length, HE.out, List.drop_length], Below.refl _ _⟩
    case round =>
      obtain ⟨k, hk, rfl, HD, BW⟩ := hrel
      cases k with
      | zero =>
        have R0 : Hid (R = 0) := by
          unfold Hid; rw [← HR.out]; apply cmpN_eq; rw [← vx.out, ← vy.out]
          have := HD.out
          rw [List.drop_zero, List.drop_zero] at this
          rw [this]
        go_wp2
        go_ret
        exact ⟨ret_int R0.out.symm, BW.out⟩
      | succ m =>
        obtain ⟨g1, e1, cx⟩ := (DA.out.next BW.out).at_ (by rintro rfl; simp at hk)
        obtain ⟨g2, e2, cy⟩ := (DB.out.next BW.out).at_ (by rintro rfl; have := HE.out; simp at this; rw [this] at hk; simp at hk)
        have c1 := cx m (by omega)
        have c2 := cy m (by have := HE.out; omega)
        clear cx cy
        subst e1
        subst e2
        have hm0 : (0 : Int) ≤ (m : Int) := by omega
        have hmx : (m : Int) < ((x.length : Nat) : Int) := by omega
        have hmy : (m : Int) < ((y.length : Nat) : Int) := by have := HE.out; omega
        have hi0 : ((m + 1 : Nat) : Int) - 1 = (m : Int) := by omega
        have hw1 : IntKind.i64.wrap ((m : Int) - 1) = (m : Int) - 1 := IntWalk.i64_in _ (by omega)
        rw [hi0]
        clear hi0
        have CL := fun h => Lib.hid (cmp_digit DA.out.dg DB.out.dg HE.out m (by omega) HD.out h)
        have CG := fun h => Lib.hid (cmp_digit DB.out.dg DA.out.dg HE.out.symm m (by have := HE.out; omega) HD.out.symm h)
        have CE := fun h => Lib.hid (drop_step HE.out m (by omega) HD.out h)
        rw [vx.out, vy.out] at CL CG
        have CL := Lib.hid CL
        have CG := Lib.hid CG
        have CE := Lib.hid CE
        generalize x.getD m 0 = dx at *
        generalize y.getD m 0 = dy at *
        rcases Nat.lt_trichotomy dx dy with q | q | q
        · have R1 : Hid (R = -1) := by unfold Hid; rw [← HR.out]; exact cmpN_lt (CL.out q).out
          go_upto_region 9 with (fail)
          go_quiet (fail)
          go_wp2
          go_ret
          exact ⟨ret_int R1.out.symm, (by first | exact bdrewN_D BW.out _ | exact bdrewN_D (bdrewN_D BW.out _) _)⟩
        · subst q
          have HD2 := CE.out rfl
          go_upto_region 9 with (fail)
          go_quiet (fail)
          go_upto_region 11 with (fail)
          go_quiet (fail)
          go_wp2
          go_roundw
          case rel => exact ⟨m, by omega, by go_num, HD2, (by first | exact bdrewN_D BW.out _ | exact bdrewN_D (bdrewN_D BW.out _) _)⟩
          case measure => first | (simp [intOf]; done) | (simp [intOf]; omega)
        · have R1 : Hid (R = 1) := by unfold Hid; rw [← HR.out]; exact cmpN_gt (CG.out q).out
          go_upto_region 9 with (fail)
          go_quiet (fail)
          go_upto_region 11 with (fail)
          go_quiet (fail)
          go_wp2
          go_ret
          exact ⟨ret_int R1.out.symm, (by first | exact bdrewN_D BW.out _ | exact bdrewN_D (bdrewN_D BW.out _) _)⟩
  · have R1 : Hid (R = 1) := by unfold Hid; rw [← HR.out]; exact cmpN_gt (GT.out h)
    have hne : (((x.length : Nat) : Int) != ((y.length : Nat) : Int)) = true := by simp; omega
    have hne2 : x.length ≠ y.length := by omega
    go_wp2_with (first
      | (go_at_call 24; (with_reducible refine KA.out.mono ?_); rintro e w' ⟨rfl, hw⟩; subst hw)
      | (go_at_call 24; (with_reducible refine KB.out.mono ?_); rintro e w' ⟨rfl, hw⟩; subst hw))
    go_ret
    exact ⟨ret_int R1.out.symm, Below.refl _ _⟩

theorem pow_le32 {k x : Nat} (h : 2 ^ k ≤ x) (hx : x < 4294967296) : k < 32 := by
  rcases Nat.lt_or_ge k 32 with q | q
  · exact q
  · have : 2 ^ 32 ≤ 2 ^ k := Nat.pow_le_pow_right (by decide) q
    omega
theorem shr_step (x m : Nat) : x / 2 ^ m / 2 = x / 2 ^ (m + 1) := by rw [Nat.div_div_eq_div_mul, Nat.pow_succ]
set_option maxHeartbeats 1000000 in
theorem bitlen_any (A : Option Addr) (c : Nat) (l : List Nat) (w : World) (h : DgA w A c l) (hl : l.length ≤ 100) :
    Calls Try.prog 32 #[.slice A l.length c] w (fun e w' => e = .returned (.int .i64 (blN (val l) : Nat)) ∧ w = w') := by
  have KA0 := trim_any A c l w h (by omega)
  have DA0 := h.trim
  have hx1 := trim_len l h.dg
  have hlast : dgs (val l) ≠ [] → (dgs (val l)).getD ((dgs (val l)).length - 1) 0 ≠ 0 := by
    intro q1 q2
    have h1 := take_dgs (dgs (val l)) ((dgs (val l)).length - 1) (dgs_dg _)
    have hp : 0 < (dgs (val l)).length := by cases e : dgs (val l) with | nil => exact absurd e q1 | cons => simp
    have h3 : val (dgs (val l)) < pw ((dgs (val l)).length - 1) := by
      have e := pv_end (dgs (val l)) ((dgs (val l)).length - 1 + 1) (by omega)
      rw [pv_succ, q2] at e
      have := pv_lt (dgs (val l)) (dgs_dg _) ((dgs (val l)).length - 1)
      omega
    have := dgs_len_of _ _ h3
    rw [val_dgs] at this
    omega
  obtain ⟨x, hx⟩ : ∃ x, dgs (val l) = x := ⟨_, rfl⟩
  have vx : Hid (val x = val l) := by unfold Hid; rw [← hx, val_dgs]
  rw [hx] at KA0 DA0 hx1 hlast
  have KA := Lib.hid KA0
  have DA := Lib.hid DA0
  have HL := Lib.hid hlast
  have hlx : x.length ≤ 100 := by omega
  clear KA0 DA0 hx hx1 h hlast
  obtain ⟨R, hR⟩ : ∃ R, blN (val l) = R := ⟨_, rfl⟩
  have HR := Lib.hid hR
  rw [hR]
  clear hR
  go_enter Try.func32, Try.ntmps32
  by_cases h0 : x.length = 0
  · have R0 : Hid (R = 0) := by
      unfold Hid; rw [← HR.out, ← vx.out, List.length_eq_zero_iff.1 h0]; rfl
    have HE := Lib.hid h0
    have h1 : (((x.length : Nat) : Int) == 0) = true := by simp; exact List.length_eq_zero_iff.1 h0
    have h2 : x = [] := List.length_eq_zero_iff.1 h0
    clear h0
    subst h2
    go_wp2_with (go_at_call 24; (with_reducible refine KA.out.mono ?_); rintro e w' ⟨rfl, hw⟩; subst hw)
    go_ret
    exact ⟨ret_int (by rw [R0.out]; rfl), rfl⟩
  · obtain ⟨g, rfl, cx⟩ := DA.out.at_ (by rintro rfl; exact h0 rfl)
    obtain ⟨n, hn⟩ : ∃ n, x.length = n + 1 := ⟨x.length - 1, by omega⟩
    have c1 := cx n (by omega)
    have HE := Lib.hid hn
    have HX : Hid (x.getD n 0 ≠ 0 ∧ x.getD n 0 < 4294967296) := by
      have := HL.out (by rintro rfl; exact h0 rfl)
      rw [hn] at this
      exact ⟨this, getD_lt x DA.out.dg n⟩
    have HT : Hid (∀ m, 0 < m → 2 ^ (m - 1) ≤ x.getD n 0 → x.getD n 0 < 2 ^ m → R = 32 * n + m) := by
      intro m h1 h2 h3
      have := blN_top x m (x.getD n 0) DA.out.dg (by rintro rfl; exact h0 rfl) (by rw [hn]; rfl) h1 h2 h3
      rw [vx.out, HR.out, hn] at this
      exact this
    have KA2 := KA.out
    rw [hn] at KA2
    have KA2 := Lib.hid KA2
    have hnl : n < 100 := by omega
    generalize x.getD n 0 = X at *
    clear h0 hn cx HL
    have hw1 : IntKind.i64.wrap (((n + 1 : Nat) : Int) - 1) = (n : Int) := by rw [IntWalk.i64_in _ (by omega)]; omega
    have hw2 : IntKind.i64.wrap (32 * (n : Int)) = 32 * (n : Int) := IntWalk.i64_in _ (by omega)
    have hn0 : (0 : Int) ≤ (n : Int) := by omega
    have hn1 : (n : Int) < ((n + 1 : Nat) : Int) := by omega
    go_wp2_with (go_at_call 24; (with_reducible refine KA2.out.mono ?_); rintro e w' ⟨rfl, hw⟩; subst hw)
    go_loop [3, 4] (fun i v => ∃ m : Nat, m ≤ 32 ∧ i = .int .i64 (32 * (n : Int) + m) ∧ v = .int .u32 ((X / 2 ^ m : Nat) : Int) ∧ Hid (m = 0 ∨ 2 ^ (m - 1) ≤ X)) (fun _ v => (intOf v).toNat)
    case atStart => exact ⟨0, Nat.zero_le _, by simp, by simp, .inl rfl⟩
    case round =>
      obtain ⟨m, hm, rfl, rfl, HM⟩ := hrel
      by_cases hz : X / 2 ^ m = 0
      · have hlt : X < 2 ^ m := by
          rcases Nat.div_eq_zero_iff.1 hz with q | q
          · have := Nat.pow_pos (a := 2) (n := m) (by decide); omega
          · exact q
        have hm0 : 0 < m := by
          rcases Nat.eq_zero_or_pos m with q | q
          · subst q; have := HX.out.1; omega
          · exact q
        have R1 : Hid (R = 32 * n + m) := HT.out m hm0 (HM.out.resolve_left (by omega)) hlt
        rw [hz]
        clear hz hlt
        go_wp2
        go_ret
        exact ⟨ret_int (by rw [R1.out]; omega), rfl⟩
      · have hge : 2 ^ m ≤ X := by
          rcases Nat.lt_or_ge X (2 ^ m) with q | q
          · exact absurd (Nat.div_eq_of_lt q) hz
          · exact q
        have HG := Lib.hid hge
        have hm1 : m < 32 := pow_le32 hge HX.out.2
        have HS := Lib.hid (shr_step X m)
        have hle : X / 2 ^ m ≤ X := Nat.div_le_self _ _
        have hXl := HX.out.2
        generalize X / 2 ^ m = y at *
        have hy : (0 : Int) < (y : Int) := by omega
        clear hge hz
        go_wp2
        go_round
        case rel => exact ⟨m + 1, by omega, by go_num, congrArg (Value.int .u32) (by rw [← HS.out]; omega), .inr HG.out⟩
        case measure => first | (simp [intOf]; done) | (simp [intOf]; omega)

end Go.Proofs.Ytifdimpfgglieaa
