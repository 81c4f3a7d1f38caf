/-
  The contracts of the digits' functions of pairingref1: mulDigits, shift, half.
-/
import Derived.Test.YtifdimpfgglieaaDgX
namespace Go.Proofs.Ytifdimpfgglieaa
set_option linter.unusedVariables false
set_option linter.unusedSimpArgs false
open Go.ChangeShapes Go.WideShapes Go.ChangeAt Go.RowKit

theorem or_u32 (a b : Nat) (ha : a < 4294967296) (hb : b < 4294967296) : bits .or .u32 (a : Int) (b : Int) = ((a ||| b : Nat) : Int) := by
  have h : (a ||| b) < 2 ^ 32 := Nat.or_lt_two_pow ha hb
  have e1 : (BitVec.ofInt 32 (a : Int)).toNat = a := by rw [BitVec.toNat_ofInt]; omega
  have e2 : (BitVec.ofInt 32 (b : Int)).toNat = b := by rw [BitVec.toNat_ofInt]; omega
  have key : (BitVec.ofInt 32 (a : Int) ||| BitVec.ofInt 32 (b : Int)).toNat = a ||| b := by
    rw [BitVec.toNat_or, e1, e2]
  show IntKind.u32.wrap ((BitVec.ofInt 32 (a : Int) ||| BitVec.ofInt 32 (b : Int)).toNat : Nat) = _
  rw [key]
  generalize a ||| b = z at *
  simp only [IntKind.wrap, IntKind.bits, IntKind.signed]
  first | omega | (simp; done) | (simp; omega)
theorem half_word (x y : Nat) (hx : x < 4294967296) (hy : y < 4294967296) : bits .or .u32 ((x : Int) / 2) (IntKind.u32.wrap (IntKind.u64.wrap ((y : Int) * 2147483648))) = ((x / 2 + (y % 2) * 2147483648 : Nat) : Int) := by
  have e1 : IntKind.u64.wrap ((y : Int) * 2147483648) = ((y * 2147483648 : Nat) : Int) := by
    simp only [IntKind.wrap, IntKind.bits, IntKind.signed]
    first | omega | (simp; done) | (simp; omega)
  have e2 : IntKind.u32.wrap ((y * 2147483648 : Nat) : Int) = ((y * 2147483648 % 4294967296 : Nat) : Int) := by
    simp only [IntKind.wrap, IntKind.bits, IntKind.signed]
    first | omega | (simp; done) | (simp; omega)
  rw [e1, e2, show (x : Int) / 2 = ((x / 2 : Nat) : Int) by omega, or_u32 _ _ (by omega) (by omega), shr_or x y hx]
set_option maxHeartbeats 1000000 in
theorem half_any (A : Option Addr) (c : Nat) (l : List Nat) (w : World) (h : DgA w A c l) (hl : l.length ≤ 100) :
    Calls Try.prog 34 #[.slice A l.length c] w (DgP w (val l / 2)) := by
  have HA := Lib.hid h
  obtain ⟨i0, hi, hi0, hi1, hi2⟩ := info_parts Try.infoU32
  clear h
  go_enter Try.func34, Try.ntmps34
  go_wp2_with (refine wpList_make_full _ rfl _ _ 22 rfl w.heap.size 36 i0 (.int .u32 0) 1 Try.underlying22 hi hi0 hi1 .i64 .i64 _ _ l.length rfl rfl (by first | rfl | omega | simp) (by first | rfl | omega | simp) ?m1 ?m2 ?m3 ?_)
  case m1 => rw [hi2]; omega
  case m2 => unfold maxLen; omega
  case m3 => exact Nat.le_refl _
  intro w1 hown hgrow
  have OW0 : Hid (w1.ownsRow w.heap.size 36 1 (.slice (some ⟨w.heap.size, 0, none⟩) l.length l.length) l.length (dgV (List.replicate l.length 0))) := by
    rw [made_dg] at hown; exact hown
  have B0 : Hid (Below w.heap.size w w1) := (Below.refl _ _).grown hgrow (Nat.le_refl _) (fun k hk => by cases hk)
  clear hown hgrow
  go_wp2_with fail
  go_loopw [4] (fun i wr => ∃ (k : Nat) (s : List Nat), k ≤ l.length ∧ i = .int .i64 k ∧ Hid (ShrI l s k) ∧ Hid (wr.ownsRow w.heap.size 36 1 (.slice (some ⟨w.heap.size, 0, none⟩) l.length l.length) l.length (dgV s)) ∧ Hid (Below w.heap.size w wr)) (fun i _ => l.length - (intOf i).toNat)
  case atStart => exact ⟨0, _, Nat.zero_le _, rfl, ShrI.start l, OW0.out, B0.out⟩
  case round =>
    clear OW0 B0
    obtain ⟨k, s, hk, rfl, AI, OW, BW⟩ := hrel
    by_cases hlt : k < l.length
    · have h1 := getD_lt l HA.out.dg k
      have h2 := getD_lt l HA.out.dg (k + 1)
      have NX := Lib.hid (AI.out.next HA.out.dg hlt)
      have CA : Hid (DgA wr A c l) := HA.out.next BW.out
      have hlt1 : (k : Int) < (l.length : Int) := by omega
      obtain ⟨g, rfl, cx⟩ := CA.out.at_ (by rintro rfl; simp at hlt)
      have c1 := cx k hlt
      have hgl : g < w.heap.size := by
        obtain ⟨g', e', cx'⟩ := HA.out.at_ (by rintro rfl; simp at hlt)
        injection e' with e'; injection e' with e'; subst e'
        exact block_lt_of_cell (cx' k hlt)
      have hgn : ¬ g = w.heap.size := by omega
      have hgn2 : ¬ w.heap.size = g := by omega
      have KD0 : ∀ w', Below wr.heap.size wr w' → Calls Try.prog 35 #[.slice (some ⟨g, 0, none⟩) l.length c, .int .i64 ((k : Int) + 1)] w' fun e w'' => e = .returned (.int .u64 ((l.getD (k + 1) 0 : Nat) : Int)) ∧ w' = w'' := fun w' hb => by
        have := digit_any (some ⟨g, 0, none⟩) c l (k + 1) w' (CA.out.next hb) (by omega) (by omega)
        exact this
      have KD := Lib.hid KD0
      clear KD0 cx
      generalize l.getD k 0 = x at *
      generalize l.getD (k + 1) 0 = y at *
      have q1 : wr.cell? ⟨w.heap.size, k, none⟩ = some (.int .u32 ((s.getD k 0 : Nat) : Int)) := dg_cell OW.out AI.out.len k hlt
      have q2 : wr.frozen? ⟨w.heap.size, k, none⟩ = false := OW.out.frozenAt k
      have hk0 : (0 : Int) ≤ (k : Int) := by omega
      have HW := half_word x y h1 h2
      have hw1 : IntKind.i64.wrap ((k : Int) + 1) = (k : Int) + 1 := IntWalk.i64_in _ (by omega)
      go_upto_region 5 with (fail)
      go_region_held3 (fun w' => w'.cell? ⟨g, k, none⟩ = some (.int .u32 (x : Int))) (go_keep)
        (first | (go_at_call 35; refine (KD.out _ (by exact (Below.refl _ _).drew)).mono ?_; rintro e w' ⟨rfl, hw⟩; subst hw))
      all_goals go_wp2
      all_goals go_roundw
      case rel =>
        obtain ⟨z1, z2⟩ := dg_store (k := k) (d := x / 2 + y % 2 * 2147483648) (v := (x : Int) / 2 + (y : Int) % 2 * 2147483648) OW.out BW.out (by omega)
        exact ⟨k + 1, _, by omega, by go_num, NX.out, z1.out.drew, z2.out.drew⟩
      case measure => first | (simp [intOf]; done) | (simp [intOf]; omega)
    · obtain rfl : k = l.length := by omega
      have KT0 := trim_any _ _ s wr (DgA.of_own OW.out AI.out.len AI.out.dg) (by rw [AI.out.len]; omega)
      rw [AI.out.len] at KT0
      have KT := Lib.hid KT0
      clear KT0
      go_wp2_with (go_at_call 24; (with_reducible refine KT.out.mono ?_); rintro e w' ⟨rfl, hw⟩; subst hw)
      go_ret
      exact DgP.of (DgA.of_own OW.out AI.out.len AI.out.dg) BW.out AI.out.done

set_option maxHeartbeats 1000000 in
theorem shift_any (A : Option Addr) (c : Nat) (l : List Nat) (n : Nat) (w : World) (h : DgA w A c l) (hl : l.length ≤ 100) (hn : n ≤ 1000) :
    Calls Try.prog 33 #[.slice A l.length c, .int .i64 n] w (DgP w (val l * 2 ^ n)) := by
  have HA := Lib.hid h
  obtain ⟨i0, hi, hi0, hi1, hi2⟩ := info_parts Try.infoU32
  clear h
  obtain ⟨p, hp⟩ : ∃ p, n / 32 = p := ⟨_, rfl⟩
  obtain ⟨r, hr⟩ : ∃ r, n % 32 = r := ⟨_, rfl⟩
  have hp1 : (n : Int) / 32 = (p : Int) := by omega
  have hr1 : (n : Int) % 32 = (r : Int) := by omega
  have hpl : p ≤ 32 := by omega
  have hrl : r < 32 := by omega
  have HP := Lib.hid hp
  have HR := Lib.hid hr
  clear hp hr
  go_enter Try.func33, Try.ntmps33
  go_wp2_with (refine wpList_make_full _ rfl _ _ 22 rfl w.heap.size 36 i0 (.int .u32 0) 1 Try.underlying22 hi hi0 hi1 .i64 .i64 _ _ (l.length + p + 1) rfl rfl (by first | rfl | omega | simp) (by first | rfl | omega | simp) ?m1 ?m2 ?m3 ?_)
  case m1 => rw [hi2]; omega
  case m2 => unfold maxLen; omega
  case m3 => exact Nat.le_refl _
  intro w1 hown hgrow
  have OW0 : Hid (w1.ownsRow w.heap.size 36 1 (.slice (some ⟨w.heap.size, 0, none⟩) (l.length + p + 1) (l.length + p + 1)) (l.length + p + 1) (dgV (List.replicate (l.length + p + 1) 0))) := by
    rw [made_dg] at hown; exact hown
  have B0 : Hid (Below w.heap.size w w1) := (Below.refl _ _).grown hgrow (Nat.le_refl _) (fun k hk => by cases hk)
  clear hown hgrow
  go_wp2_with fail
  go_loopw [6] (fun i wr => ∃ (k : Nat) (s : List Nat), k ≤ l.length ∧ i = .int .i64 k ∧ Hid (ShlI l s n k) ∧ Hid (wr.ownsRow w.heap.size 36 1 (.slice (some ⟨w.heap.size, 0, none⟩) (l.length + p + 1) (l.length + p + 1)) (l.length + p + 1) (dgV s)) ∧ Hid (Below w.heap.size w wr)) (fun i _ => l.length - (intOf i).toNat)
  case atStart => exact ⟨0, _, Nat.zero_le _, rfl, by have := ShlI.start l n; rw [HP.out] at this; exact this, OW0.out, B0.out⟩
  case round =>
    clear OW0 B0
    obtain ⟨k, s, hk, rfl, AI, OW, BW⟩ := hrel
    have HSL : Hid (s.length = l.length + p + 1) := by have := AI.out.len; rw [HP.out] at this; exact this
    by_cases hlt : k < l.length
    · have h1 := getD_lt l HA.out.dg k
      have NX := AI.out.next HA.out.dg hlt
      have OR := AI.out.or_eq
      have LO := AI.out.lo
      rw [HP.out, HR.out] at NX
      rw [HP.out, HR.out] at OR LO
      have NX := Lib.hid NX
      have OR := Lib.hid OR
      have CA : Hid (DgA wr A c l) := HA.out.next BW.out
      have hlt1 : (k : Int) < (l.length : Int) := by omega
      obtain ⟨g, rfl, cx⟩ := CA.out.at_ (by rintro rfl; simp at hlt)
      have c1 := cx k hlt
      have hgl : g < w.heap.size := by
        obtain ⟨g', e', cx'⟩ := HA.out.at_ (by rintro rfl; simp at hlt)
        injection e' with e'; injection e' with e'; subst e'
        exact block_lt_of_cell (cx' k hlt)
      have c2 := dg_cell OW.out HSL.out (k + p) (by omega)
      have c3 := dg_cell OW.out HSL.out (k + p + 1) (by omega)
      have f2 : wr.frozen? ⟨w.heap.size, k + p, none⟩ = false := OW.out.frozenAt _
      have f3 : wr.frozen? ⟨w.heap.size, k + p + 1, none⟩ = false := OW.out.frozenAt _
      clear cx
      generalize l.getD k 0 = x at *
      generalize s.getD (k + p) 0 = y at *
      generalize s.getD (k + p + 1) 0 = z at *
      obtain ⟨X, hX⟩ : ∃ X, x * 2 ^ r = X := ⟨_, rfl⟩
      have hXl : X < 9223372036854775808 := by
        rw [← hX]
        have e1 : 2 ^ r ≤ 2 ^ 31 := Nat.pow_le_pow_right (by decide) (by omega)
        have e2 : x * 2 ^ r ≤ 4294967295 * 2 ^ 31 := Nat.mul_le_mul (by omega) e1
        omega
      have hXw : IntKind.u64.wrap ((x : Int) * 2 ^ r) = (X : Int) := by
        have e : ((x : Int) * 2 ^ r) = (X : Int) := by rw [← hX]; push_cast; rfl
        rw [e]
        simp only [IntKind.wrap, IntKind.bits, IntKind.signed]
        first | omega | (simp; done) | (simp; omega)
      have NX2 := NX.out
      have OR2 := OR.out
      rw [hX] at NX2 OR2
      have NX2 := Lib.hid NX2
      have hyl : y < 2147483648 := by
        have e1 : 2 ^ r ≤ 2 ^ 31 := Nat.pow_le_pow_right (by decide) (by omega)
        omega
      have HO : bits .or .u32 (y : Int) ((X : Int) % 4294967296) = ((y + X % 4294967296 : Nat) : Int) := by
        rw [← OR2, ← or_u32 y (X % 4294967296) (by omega) (by omega)]; rfl
      have XU : IntKind.u32.wrap (X : Int) = (X : Int) % 4294967296 := by
        simp only [IntKind.wrap, IntKind.bits, IntKind.signed]
        first | omega | (simp; done) | (simp; omega)
      clear hX OR2 NX OR LO
      have hk0 : (0 : Int) ≤ (k : Int) := by omega
      have hkp : (k : Int) + (p : Int) < ((l.length + p + 1 : Nat) : Int) := by omega
      have hkp1 : (k : Int) + (p : Int) + 1 < ((l.length + p + 1 : Nat) : Int) := by omega
      go_wp2
      go_roundw
      case rel =>
        obtain ⟨z1, z2⟩ := dg_store (k := k + p) (d := y + X % 4294967296) (v := (y : Int) + (X : Int) % 4294967296) OW.out BW.out (by omega)
        obtain ⟨z3, z4⟩ := dg_store (k := k + p + 1) (d := X / 4294967296) (v := (X : Int) / 4294967296) z1.out z2.out (by omega)
        exact ⟨k + 1, _, by omega, by go_num, NX2.out, z3, z4⟩
      case measure => first | (simp [intOf]; done) | (simp [intOf]; omega)
    · obtain rfl : k = l.length := by omega
      have KT0 := trim_any _ _ s wr (DgA.of_own OW.out HSL.out AI.out.dg) (by rw [HSL.out]; omega)
      rw [HSL.out] at KT0
      have KT := Lib.hid KT0
      clear KT0
      go_wp2_with (go_at_call 24; (with_reducible refine KT.out.mono ?_); rintro e w' ⟨rfl, hw⟩; subst hw)
      go_ret
      exact DgP.of (DgA.of_own OW.out HSL.out AI.out.dg) BW.out AI.out.done

set_option maxHeartbeats 2000000 in
theorem mul_any (A B : Option Addr) (ca cb : Nat) (a b : List Nat) (w : World) (ha : DgA w A ca a) (hb : DgA w B cb b) (hla : a.length ≤ 100) (hlb : b.length ≤ 100) :
    Calls Try.prog 26 #[.slice A a.length ca, .slice B b.length cb] w (DgP w (val a * val b)) := by
  have HA := Lib.hid ha
  have HB := Lib.hid hb
  obtain ⟨i0, hi, hi0, hi1, hi2⟩ := info_parts Try.infoU32
  clear ha hb
  go_enter Try.func26, Try.ntmps26
  go_wp2_with (refine wpList_make_full _ rfl _ _ 22 rfl w.heap.size 36 i0 (.int .u32 0) 1 Try.underlying22 hi hi0 hi1 .i64 .i64 _ _ (a.length + b.length) rfl rfl (by first | rfl | omega | simp) (by first | rfl | omega | simp) ?m1 ?m2 ?m3 ?_)
  case m1 => rw [hi2]; omega
  case m2 => unfold maxLen; omega
  case m3 => exact Nat.le_refl _
  intro w1 hown hgrow
  have OW0 : Hid (w1.ownsRow w.heap.size 36 1 (.slice (some ⟨w.heap.size, 0, none⟩) (a.length + b.length) (a.length + b.length)) (a.length + b.length) (dgV (List.replicate (a.length + b.length) 0))) := by
    rw [made_dg] at hown; exact hown
  have B0 : Hid (Below w.heap.size w w1) := (Below.refl _ _).grown hgrow (Nat.le_refl _) (fun k hk => by cases hk)
  clear hown hgrow
  go_wp2_with fail
  go_loopw [6, 7, 8] (fun i c kk wr => ∃ (k : Nat) (s : List Nat), k ≤ a.length ∧ i = .int .i64 k ∧ Hid (MulI a b s k 0 0) ∧ Hid (wr.ownsRow w.heap.size 36 1 (.slice (some ⟨w.heap.size, 0, none⟩) (a.length + b.length) (a.length + b.length)) (a.length + b.length) (dgV s)) ∧ Hid (Below w.heap.size w wr)) (fun i _ _ _ => a.length - (intOf i).toNat)
  case atStart => exact ⟨0, _, Nat.zero_le _, rfl, MulI.start a b, OW0.out, B0.out⟩
  case round =>
    clear OW0 B0
    obtain ⟨k, s, hk, rfl, AI, OW, BW⟩ := hrel
    by_cases hlt : k < a.length
    · have hlt1 : (k : Int) < (a.length : Int) := by omega
      have hk0 : (0 : Int) ≤ (k : Int) := by omega
      have hgA : ∃ g, A = some ⟨g, 0, none⟩ ∧ g < w.heap.size := by
        obtain ⟨g', e', cx'⟩ := HA.out.at_ (by rintro rfl; simp at hlt)
        exact ⟨g', e', block_lt_of_cell (cx' k hlt)⟩
      obtain ⟨ga, rfl, hga⟩ := hgA
      have h1 := getD_lt a HA.out.dg k
      go_wp2_with fail
      obtain ⟨wo, hwo⟩ : ∃ wo : World, wo = wr := ⟨_, rfl⟩
      clear hwo wo
      go_loopw [7, 8] (fun c kk wr => ∃ (j cv : Nat) (s : List Nat), j ≤ b.length ∧ kk = .int .i64 j ∧ c = .int .u64 cv ∧ cv < 4294967296 ∧ Hid (MulI a b s k j cv) ∧ Hid (wr.ownsRow w.heap.size 36 1 (.slice (some ⟨w.heap.size, 0, none⟩) (a.length + b.length) (a.length + b.length)) (a.length + b.length) (dgV s)) ∧ Hid (Below w.heap.size w wr)) (fun _ kk _ => b.length - (intOf kk).toNat)
      case atStart => exact ⟨0, 0, _, Nat.zero_le _, rfl, rfl, by omega, AI.out, OW.out, BW.out⟩
      case round =>
        clear AI OW BW s
        obtain ⟨j, cv, s, hj, rfl, rfl, hcv, AI, OW, BW⟩ := hrel
        have HSL := Lib.hid AI.out.len
        by_cases hlj : j < b.length
        · have hlj1 : (j : Int) < (b.length : Int) := by omega
          have hj0 : (0 : Int) ≤ (j : Int) := by omega
          obtain ⟨gb, rfl, cy⟩ := (HB.out.next BW.out).at_ (by rintro rfl; simp at hlj)
          obtain ⟨ga', e', cx⟩ := (HA.out.next BW.out).at_ (by rintro rfl; simp at hlt)
          injection e' with e'; injection e' with e'; subst e'
          have c1 := cx k hlt
          have c2 := cy j hlj
          have c3 := dg_cell OW.out HSL.out (k + j) (by omega)
          have f3 : wr.frozen? ⟨w.heap.size, k + j, none⟩ = false := OW.out.frozenAt _
          have h2 := getD_lt b HB.out.dg j
          have h3 := getD_lt s AI.out.dg (k + j)
          have NX := Lib.hid (AI.out.next (t := cv + s.getD (k + j) 0 + a.getD k 0 * b.getD j 0) HA.out.dg HB.out.dg hlt hlj rfl)
          clear cx cy
          generalize a.getD k 0 = x at *
          generalize b.getD j 0 = y at *
          generalize s.getD (k + j) 0 = z at *
          have hm : x * y ≤ 4294967295 * 4294967295 := Nat.mul_le_mul (by omega) (by omega)
          have hxy : (x : Int) * (y : Int) = ((x * y : Nat) : Int) := by push_cast; rfl
          generalize x * y = X at *
          have e1 : IntKind.u64.wrap (X : Int) = (X : Int) := by simp only [IntKind.wrap, IntKind.bits, IntKind.signed]; first | omega | (simp; done) | (simp; omega)
          have e2 : IntKind.u64.wrap ((cv : Int) + (z : Int)) = (cv : Int) + (z : Int) := by simp only [IntKind.wrap, IntKind.bits, IntKind.signed]; first | omega | (simp; done) | (simp; omega)
          have e3 : IntKind.u64.wrap ((cv : Int) + (z : Int) + (X : Int)) = (cv : Int) + (z : Int) + (X : Int) := by simp only [IntKind.wrap, IntKind.bits, IntKind.signed]; first | omega | (simp; done) | (simp; omega)
          have e4 : IntKind.i64.wrap ((k : Int) + (j : Int)) = (k : Int) + (j : Int) := IntWalk.i64_in _ (by omega)
          have e5 : ((k : Int) + (j : Int)).toNat = k + j := by omega
          have e6 : (0 : Int) ≤ (k : Int) + (j : Int) := by omega
          have e7 : (k : Int) + (j : Int) < ((a.length + b.length : Nat) : Int) := by omega
          go_upto_region 9 with (fail)
          go_quiet (fail)
          go_wp2
          go_roundw
          case rel =>
            have OWd : (wr.drewN nq).ownsRow w.heap.size 36 1 (.slice (some ⟨w.heap.size, 0, none⟩) (a.length + b.length) (a.length + b.length)) (a.length + b.length) (dgV s) := OW.out
            obtain ⟨z1, z2⟩ := dg_store (k := k + j) (d := (cv + z + X) % 4294967296) (v := ((cv : Int) + z + X) % 4294967296) OWd (bdrewN_D BW.out nq) (by omega)
            exact ⟨j + 1, _, _, by omega, by go_num, congrArg (Value.int .u64) (by omega), by omega, NX.out, z1, z2⟩
          case measure => first | (simp [intOf]; done) | (simp [intOf]; omega)
        · obtain rfl : j = b.length := by omega
          have NX := Lib.hid (AI.out.row hlt)
          have c3 := dg_cell OW.out HSL.out (k + b.length) (by omega)
          have f3 : wr.frozen? ⟨w.heap.size, k + b.length, none⟩ = false := OW.out.frozenAt _
          have e7 : (k : Int) + (b.length : Int) < ((a.length + b.length : Nat) : Int) := by omega
          have hb0 : (0 : Int) ≤ (b.length : Int) := by omega
          generalize s.getD (k + b.length) 0 = z at *
          go_wp2
          go_roundw
          case rel =>
            obtain ⟨z1, z2⟩ := dg_store (k := k + b.length) (d := cv) (v := (cv : Int)) OW.out BW.out rfl
            exact ⟨k + 1, _, by omega, by go_num, NX.out, z1, z2⟩
          case measure => first | (simp [intOf]; done) | (simp [intOf]; omega)
    · obtain rfl : k = a.length := by omega
      have KT0 := trim_any _ _ s wr (DgA.of_own OW.out AI.out.len AI.out.dg) (by rw [AI.out.len]; omega)
      rw [AI.out.len] at KT0
      have KT := Lib.hid KT0
      clear KT0
      go_wp2_with (go_at_call 24; (with_reducible refine KT.out.mono ?_); rintro e w' ⟨rfl, hw⟩; subst hw)
      go_ret
      exact DgP.of (DgA.of_own OW.out AI.out.len AI.out.dg) BW.out (AI.out.done (c := 0))

end Go.Proofs.Ytifdimpfgglieaa
