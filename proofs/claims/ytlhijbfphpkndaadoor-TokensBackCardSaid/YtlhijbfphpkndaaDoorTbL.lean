/-
  The walk of TokensBack.
-/
import Derived.Test.YtlhijbfphpkndaaDoorTbP
namespace Go.Proofs.YtlhijbfphpkndaaDoor
set_option linter.unusedVariables false
set_option linter.unusedSimpArgs false
open Go.ChangeShapes Go.WideShapes Go.ChangeAt Go.RowKit

theorem scanT_len (s : ByteArray) : (Tk.scanT s).1.length ≤ 400 := scan_len s _ _ _ (Nat.zero_le _)
theorem ve_zero {D : List Tk.T4} (h : ∀ t ∈ D, VT t.t) (hl : D.length ≤ 400) : VE D 0 := .inr (.inl ⟨by omega, h, rfl⟩)

set_option maxHeartbeats 2000000 in
set_option maxRecDepth 100000 in
theorem walk_tokensBack (s : ByteArray) (w : World) (hs : s.size ≤ 9223372036854775807) (ht : Tab w) : Calls Tryd.prog 5 #[.string s] w fun e w' => e = .returned (.bool true) ∧ Below w.heap.size w w' := by
  have AW := Lib.hid tawake_any
  have HT := Lib.hid ht
  clear ht
  by_cases h : s.size ≤ 3000
  · have h' : ¬ (3000 : Int) < (s.size : Int) := by omega
    have VA := Lib.hid (scanT_valid s)
    have VL := Lib.hid (scanT_len s)
    go_enter Tryd.func5, Tryd.ntmps5
    go_wp2_with fail
    refine (tscan_any s w hs).mono ?_
    rintro e w1 ⟨v1, rfl, t1, b1⟩
    have T1 := Lib.hid t1
    have B1 := Lib.hid b1
    clear t1 b1
    generalize Tk.scanT s = R at *
    obtain ⟨D, a, c⟩ := R
    dsimp only at T1 VA VL ⊢
    by_cases hc : c = 0
    · subst hc
      have VE0 := Lib.hid (ve_zero VA.out VL.out)
      have OKD := Lib.hid (vt_tk VA.out)
      have hl := VL.out
      obtain ⟨p, cap, rfl, hcap, hsm, -⟩ := T1.out
      have JS := jn_size D VA.out
      obtain ⟨E1, m1, r1⟩ := back_plain D VA.out VL.out
      obtain ⟨E2, m2, r2⟩ := back_more D VA.out VL.out s
      have M1 := Lib.hid m1
      have R1 := Lib.hid r1
      have M2 := Lib.hid m2
      have R2 := Lib.hid r2
      clear m1 r1 m2 r2 hcap hsm VL
      go_wp2_with fail
      refine (tformat_any D p cap w1 T1.out OKD.out (HT.out.next B1.out)).mono ?_
      rintro e w2 ⟨⟨c2, v2, rfl⟩, hb⟩
      obtain rfl : 0 = c2 := VE0.out.uniq v2
      have B2 := Lib.hid (B1.out.trans (hb.mono B1.out.size))
      have T2 := Lib.hid (T1.out.next hb)
      clear v2 hb
      rw [if_pos rfl]
      have hJ : (jn D).size ≤ 90000 := by omega
      obtain ⟨J, hJe⟩ : ∃ J, jn D = J := ⟨_, rfl⟩
      rw [hJe] at hJ R1 R2 ⊢
      clear hJe JS
      have hJ9 : J.size ≤ 9223372036854775807 := by omega
      go_wp2_with fail
      refine (tscan_any J w2 hJ9).mono ?_
      rintro e w3 ⟨v3, rfl, t3, b3⟩
      rw [R1.out] at t3 ⊢
      have B3 := Lib.hid (B2.out.trans (b3.mono B2.out.size))
      have T3 := Lib.hid (T2.out.next b3)
      have U3 := Lib.hid t3
      clear t3 b3
      dsimp only at U3 ⊢
      have z1 : (⟨#[32, 32]⟩ ++ J : ByteArray).size = 2 + J.size := by rw [ByteArray.size_append]; rfl
      have z2 : (⟨#[32, 32]⟩ ++ J ++ ⟨#[32, 32, 32, 35, 32]⟩ : ByteArray).size = 2 + J.size + 5 := by rw [ByteArray.size_append, z1]; rfl
      have z3 : (⟨#[32, 32]⟩ ++ J ++ ⟨#[32, 32, 32, 35, 32]⟩ ++ s : ByteArray).size ≤ 9223372036854775807 := by rw [ByteArray.size_append, z2]; omega
      obtain ⟨S, hSe⟩ : ∃ S : ByteArray, (⟨#[32, 32]⟩ ++ J ++ ⟨#[32, 32, 32, 35, 32]⟩ ++ s : ByteArray) = S := ⟨_, rfl⟩
      have SE := Lib.hid hSe
      rw [hSe] at z3 R2
      have Z3 := Lib.hid z3
      clear z1 z2 z3 hSe
      go_wp2_with fail
      rw [SE.out]
      refine (tscan_any S w3 Z3.out).mono ?_
      rintro e w4 ⟨v4, rfl, t4, b4⟩
      rw [R2.out] at t4 ⊢
      have B4 := Lib.hid (B3.out.trans (b4.mono B3.out.size))
      have T4 := Lib.hid (T3.out.next b4)
      have U4 := Lib.hid (U3.out.next b4)
      have W4 := Lib.hid t4
      clear t4 b4
      dsimp only at W4 ⊢
      go_wp2_with fail
      refine (same_any E1 D v3 (.slice p D.length cap) true w4 U4.out T4.out M1.out (fun q => by cases q)).mono ?_
      rintro e w5 ⟨rfl, hb⟩
      have B5 := Lib.hid (B4.out.trans (hb.mono B4.out.size))
      have T5 := Lib.hid (T4.out.next hb)
      have W5 := Lib.hid (W4.out.next hb)
      clear hb
      go_wp2_with fail
      refine (same_any E2 D v4 (.slice p D.length cap) true w5 W5.out T5.out M2.out (fun q => by cases q)).mono ?_
      rintro e w6 ⟨rfl, hb⟩
      have B6 := Lib.hid (B5.out.trans (hb.mono B5.out.size))
      have T6 := Lib.hid (T5.out.next hb)
      clear hb
      go_wp2_with fail
      refine (tvalidate_any D p cap w6 T6.out OKD.out (HT.out.next B6.out)).mono ?_
      rintro e w7 ⟨⟨c7, rfl, v7⟩, hb⟩
      obtain rfl : 0 = c7 := VE0.out.uniq v7
      have B7 := Lib.hid (B6.out.trans (hb.mono B6.out.size))
      clear v7 hb
      go_wp2_with fail
      refine (AW.out w7).mono ?_
      rintro e w8 ⟨rfl, hb⟩
      have B8 := Lib.hid (B7.out.trans (hb.mono B7.out.size))
      clear hb
      go_wp2
      go_ret
      exact ⟨rfl, B8.out⟩
    · have hcB : (c != 0) = true := by simp [hc]
      clear hc
      go_wp2_with fail
      refine (AW.out w1).mono ?_
      rintro e w4 ⟨rfl, b4⟩
      have B4 := Lib.hid (B1.out.trans (b4.mono B1.out.size))
      clear b4
      go_wp2
      go_ret
      exact ⟨rfl, B4.out⟩
  · have h' : (3000 : Int) < (s.size : Int) := by omega
    go_enter Tryd.func5, Tryd.ntmps5
    go_wp2_with fail
    refine (AW.out w).mono ?_
    rintro e w4 ⟨rfl, b4⟩
    have B4 := Lib.hid b4
    clear b4
    go_wp2
    go_ret
    exact ⟨rfl, B4.out⟩

end Go.Proofs.YtlhijbfphpkndaaDoor
