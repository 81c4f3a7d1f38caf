/-
  The contracts of matches, number and Digits.
-/
import Derived.Test.YtjdjbjblblmdjaaDoorKta
namespace Go.Proofs.YtjdjbjblblmdjaaDoor
set_option linter.unusedVariables false
set_option linter.unusedSimpArgs false
open Go.ChangeShapes Go.WideShapes Go.ChangeAt Go.RowKit

theorem take_snocT (s : ByteArray) (k : Nat) (h : k < s.size) : s.data.toList.take (k + 1) = s.data.toList.take k ++ [s[k]] := by
  rw [List.take_succ_eq_append_getElem (by simpa using h)]; rfl
theorem getD_atT (s : ByteArray) (k : Nat) (h : k < s.size) : s.data.toList.getD k 0 = s[k] := by
  rw [List.getD_eq_getElem?_getD, List.getElem?_eq_getElem (by simpa using h)]; rfl
theorem len_atT (s : ByteArray) : s.data.toList.length = s.size := Array.length_toList
/-- What Digits returns. -/
def digV (l : List UInt8) (a b : Int) : Int := if a ≤ l.length ∧ l.length ≤ b ∧ Txt.allD l = true then Txt.num l else 0
def digB (l : List UInt8) (a b : Int) : Bool := decide (a ≤ l.length ∧ l.length ≤ b ∧ Txt.allD l = true)
set_option maxHeartbeats 400000 in
theorem isdigit_ref (c : Int) (w : World) :
    Calls Tryd.prog 36 #[.int .u8 c] w fun e w' => e = .returned (.bool (decide (48 ≤ c ∧ c ≤ 57))) ∧ w = w' := by
  by_cases h1 : 48 ≤ c
  · by_cases h2 : c ≤ 57
    · go_enter Tryd.func36, Tryd.ntmps36
      go_wp2
      go_ret
      exact ⟨ret_boolT (by simp [h1, h2]), rfl⟩
    · go_enter Tryd.func36, Tryd.ntmps36
      go_wp2
      go_ret
      exact ⟨ret_boolT (by simp; omega), rfl⟩
  · go_enter Tryd.func36, Tryd.ntmps36
    go_wp2
    go_ret
    exact ⟨ret_boolT (by simp; omega), rfl⟩
set_option maxHeartbeats 1000000 in
theorem digits_any (s : ByteArray) (a b : Int) (w : World) (hs : s.size ≤ 9223372036854775807) (hb : b ≤ 13) :
    Calls Tryd.prog 25 #[.string s, .int .i64 a, .int .i64 b] w fun e w' => e = .returned (.tuple #[.int .i64 (digV s.data.toList a b), .bool (digB s.data.toList a b)]) ∧ w = w' := by
  by_cases hab : a ≤ (s.size : Int) ∧ (s.size : Int) ≤ b
  · obtain ⟨h1, h2⟩ := hab
    have hs11 : s.size ≤ 13 := by omega
    go_enter Tryd.func25, Tryd.ntmps25
    go_wp2_with fail
    go_loop [8, 9] (fun n i => ∃ k : Nat, ∃ m : Int, k ≤ s.size ∧ i = .int .i64 k ∧ n = .int .i64 m ∧ 0 ≤ m ∧ m ≤ 10000000000000 ∧ Hid (m = Txt.num (s.data.toList.take k) ∧ Txt.allD (s.data.toList.take k) = true)) (fun _ i => s.size - (intOf i).toNat)
    case atStart => exact ⟨0, 0, by omega, rfl, rfl, by omega, by omega, rfl, rfl⟩
    case round =>
      obtain ⟨k, m, hk, rfl, rfl, hm0, hm1, HM⟩ := hrel
      by_cases hlt : k < s.size
      · have HN : Hid (Txt.num (s.data.toList.take (k + 1)) = 10 * Txt.num (s.data.toList.take k) + ((s[k].toNat : Int) - 48)) := by unfold Hid; rw [take_snocT s k hlt, Txt.num_snoc]; rfl
        have HA : Hid (Txt.allD (s.data.toList.take (k + 1)) = Txt.isD s[k]) := by unfold Hid; rw [take_snocT s k hlt, Txt.allD_snoc, HM.out.2, Bool.true_and]
        have hi1 : (k : Int) < (s.size : Int) := by omega
        by_cases hd : 48 ≤ s[k].toNat ∧ s[k].toNat ≤ 57
        · have hdB : decide (48 ≤ (s[k].toNat : Int) ∧ (s[k].toNat : Int) ≤ 57) = true := by simp; omega
          have HD := Lib.hid hd
          obtain ⟨hd1, hd2⟩ := hd
          go_wp2_with (go_at_call 36; refine (isdigit_ref _ _).mono ?_; rw [hdB]; rintro e w' ⟨rfl, rfl⟩)
          go_round
          case rel =>
            have hA : Txt.allD (s.data.toList.take (k + 1)) = true := by rw [HA.out, Txt.isD_iff]; exact HD.out
            have hbd := Txt.num_bd _ hA
            have hpw : (10 ^ (s.data.toList.take (k + 1)).length : Nat) ≤ 10 ^ 13 := Nat.pow_le_pow_right (by omega) (by simp; omega)
            have e : 10 * m + ((s[k].toNat : Int) - 48) = Txt.num (s.data.toList.take (k + 1)) := by rw [HN.out, HM.out.1]
            exact ⟨k + 1, 10 * m + ((s[k].toNat : Int) - 48), by omega, by go_num, rfl, by omega, by rw [e]; omega, e, hA⟩
          case measure => simp [intOf]; omega
        · have hdB : decide (48 ≤ (s[k].toNat : Int) ∧ (s[k].toNat : Int) ≤ 57) = false := by simp; omega
          have hF : Hid (Txt.allD s.data.toList = false) := by
            cases hq : Txt.allD s.data.toList
            · rfl
            · have hc : Txt.isD s[k] = true := List.all_eq_true.1 hq s[k] (by rw [show s[k] = s.data.toList[k]'(by rw [len_atT]; exact hlt) from rfl]; exact List.getElem_mem _)
              rw [Txt.isD_iff] at hc; exact absurd hc hd
          clear hd
          go_wp2_with (go_at_call 36; refine (isdigit_ref _ _).mono ?_; rw [hdB]; rintro e w' ⟨rfl, rfl⟩)
          go_ret2
          refine ⟨?_, rfl⟩
          have e1 : digV s.data.toList a b = 0 := by unfold digV; rw [if_neg (by rw [hF.out]; simp)]
          have e2 : digB s.data.toList a b = false := by unfold digB; rw [hF.out]; simp
          rw [e1, e2]; rfl
      · go_wp2
        go_ret2
        refine ⟨?_, rfl⟩
        obtain ⟨rfl, hA⟩ := HM.out
        rw [List.take_of_length_le (by rw [len_atT]; omega)] at hA ⊢
        have hl : (s.data.toList.length : Int) = s.size := by rw [len_atT]
        have e1 : digV s.data.toList a b = Txt.num s.data.toList := by unfold digV; rw [if_pos ⟨by omega, by omega, hA⟩]
        have e2 : digB s.data.toList a b = true := by unfold digB; rw [hA]; simp; omega
        rw [e1, e2]; rfl
  · have e1 : Hid (digV s.data.toList a b = 0) := by unfold Hid digV; rw [len_atT]; exact if_neg (fun h => hab ⟨h.1, h.2.1⟩)
    have e2 : Hid (digB s.data.toList a b = false) := by unfold Hid digB; rw [len_atT]; exact decide_eq_false (fun h => hab ⟨h.1, h.2.1⟩)
    by_cases h1 : a ≤ (s.size : Int)
    · have h2 : ¬ (s.size : Int) ≤ b := fun h => hab ⟨h1, h⟩
      clear hab
      go_enter Tryd.func25, Tryd.ntmps25
      go_wp2
      go_ret2
      exact ⟨by rw [e1.out, e2.out]; rfl, rfl⟩
    · clear hab
      go_enter Tryd.func25, Tryd.ntmps25
      go_wp2
      go_ret2
      exact ⟨by rw [e1.out, e2.out]; rfl, rfl⟩

end Go.Proofs.YtjdjbjblblmdjaaDoor
