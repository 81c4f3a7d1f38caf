/-
  The contracts of sign and word, of the program and of the reference.
-/
import Derived.Test.YtjdjbjblblmdjaaDoorTkN
import Derived.Test.YtjdjbjblblmdjaaDoorTkP
namespace Go.Proofs.YtjdjbjblblmdjaaDoor
set_option linter.unusedVariables false
set_option linter.unusedSimpArgs false
open Go.ChangeShapes Go.WideShapes Go.ChangeAt Go.RowKit

theorem isEmpty_size (s : ByteArray) : s.toList.isEmpty = decide (s.size = 0) := by
  rw [Lib.toList_data]
  cases h : s.data.toList with
  | nil => have := len_atT s; rw [h] at this; simp at this; simp [← this]
  | cons a l => have := len_atT s; rw [h] at this; simp at this; simp [← this]
theorem ex00 (s : ByteArray) : s.extract 0 0 = ⟨#[]⟩ := by
  apply ByteArray.ext
  simp
theorem sgn_two {l : List UInt8} (h : Lib.hasPrefix l [60, 61] = true) : Tk.sgn l = 2 ∧ 2 ≤ l.length := by
  rw [sgn_has, decide_eq_true_eq] at h
  have h2 := Tk.sgn_le l
  have h1 : Tk.sgn l = 2 := by unfold Tk.sgn; rw [if_pos h]
  exact ⟨h1, by omega⟩
theorem sgn_one {l : List UInt8} (h : Lib.hasPrefix l [60, 61] = false) (hl : 1 ≤ l.length) : Tk.sgn l = if Tk.inS (l.getD 0 0) = true then 1 else 0 := by
  rw [sgn_has, decide_eq_false_iff_not] at h
  unfold Tk.sgn
  rw [if_neg h]
  by_cases q : Tk.inS (l.getD 0 0) = true
  · rw [if_pos ⟨hl, q⟩, if_pos q]
  · rw [if_neg (fun z => q z.2), if_neg q]
theorem cmp_le (s : ByteArray) (h : 1 < s.size) : ((s.extract 0 2).toList == [60, 61]) = Lib.hasPrefix s.data.toList [60, 61] := by
  rw [sgn_has, Lib.toList_data, ext_list, List.drop_zero]
  have hl := len_atT s
  match hq : s.data.toList with
  | [] => rw [hq] at hl; simp at hl; omega
  | [a] => rw [hq] at hl; simp at hl; omega
  | a :: b :: l =>
    simp only [List.take_succ_cons, List.take_zero, List.getD_cons_zero, List.getD_cons_succ]
    rw [Bool.eq_iff_iff]
    simp only [beq_iff_eq, decide_eq_true_eq, List.cons.injEq, and_true]
    constructor
    · rintro ⟨rfl, rfl⟩; exact ⟨rfl, rfl⟩
    · rintro ⟨h1, h2⟩; exact ⟨UInt8.toNat_inj.1 h1, UInt8.toNat_inj.1 h2⟩
set_option maxHeartbeats 1000000 in
theorem rsign_any (s : ByteArray) (w : World) (hs : s.size ≤ 9223372036854775807) (h1 : 1 ≤ s.size) :
    Calls Tryd.prog 19 #[.string s] w fun e w' => e = .returned (.string (s.extract 0 (Tk.sgn s.data.toList))) ∧ w = w' := by
  have hlt : 0 < s.size := h1
  have FI : Hid (∀ (c : UInt8) (b : Bool) (w : World), Tk.inS c = b → Calls Tryd.prog 11 #[.string ⟨#[43, 45, 42, 47, 40, 41, 44, 60, 61]⟩, .int .u8 c.toNat] w fun e w' => ∃ m : Int, e = .returned (.int .i64 m) ∧ w = w' ∧ decide (0 ≤ m) = b) := by
    intro c b w hb
    refine (rfind_anyT ⟨#[43, 45, 42, 47, 40, 41, 44, 60, 61]⟩ c w (by decide)).mono ?_
    rintro e w' ⟨rfl, rfl⟩
    exact ⟨_, rfl, rfl, (inS_ix c).trans hb⟩
  cases hp : Lib.hasPrefix s.data.toList [60, 61] with
  | true =>
    obtain ⟨g1, g2⟩ := sgn_two hp
    rw [len_atT] at g2
    rw [g1]
    have hb : ((s.extract 0 2).toList == [60, 61]) = true := by rw [cmp_le s (by omega), hp]
    have hz : (1 : Int) < (s.size : Int) := by omega
    clear hp g1
    go_enter Tryd.func19, Tryd.ntmps19
    go_wp2
    go_ret
    exact ⟨rfl, rfl⟩
  | false =>
    have g1 := sgn_one hp (by rw [len_atT]; omega)
    rw [getD_atT s 0 hlt] at g1
    have hz : (1 < (s.size : Int) ∧ ((s.extract 0 2).toList == [60, 61]) = false) ∨ ¬ (1 : Int) < (s.size : Int) := by
      by_cases q : 1 < s.size
      · exact .inl ⟨by omega, by rw [cmp_le s q, hp]⟩
      · exact .inr (by omega)
    cases hi : Tk.inS s[0] with
    | true =>
      rw [hi, if_pos rfl] at g1
      rw [g1]
      have HI := Lib.hid hi
      clear hp g1 hi
      rcases hz with ⟨z1, z2⟩ | z1
      · go_enter Tryd.func19, Tryd.ntmps19
        go_wp2_with (go_at_call 11; refine (FI.out _ _ _ HI.out).mono ?_; rintro e w' ⟨m, rfl, rfl, hm⟩; rw [decide_eq_true_eq] at hm)
        go_ret
        exact ⟨rfl, rfl⟩
      · go_enter Tryd.func19, Tryd.ntmps19
        go_wp2_with (go_at_call 11; refine (FI.out _ _ _ HI.out).mono ?_; rintro e w' ⟨m, rfl, rfl, hm⟩; rw [decide_eq_true_eq] at hm)
        go_ret
        exact ⟨rfl, rfl⟩
    | false =>
      rw [hi, if_neg (by simp)] at g1
      rw [g1, ex00]
      have HI := Lib.hid hi
      clear hp g1 hi
      rcases hz with ⟨z1, z2⟩ | z1
      · go_enter Tryd.func19, Tryd.ntmps19
        go_wp2_with (go_at_call 11; refine (FI.out _ _ _ HI.out).mono ?_; rintro e w' ⟨m, rfl, rfl, hm⟩; rw [decide_eq_false_iff_not] at hm)
        go_ret
        exact ⟨rfl, rfl⟩
      · go_enter Tryd.func19, Tryd.ntmps19
        go_wp2_with (go_at_call 11; refine (FI.out _ _ _ HI.out).mono ?_; rintro e w' ⟨m, rfl, rfl, hm⟩; rw [decide_eq_false_iff_not] at hm)
        go_ret
        exact ⟨rfl, rfl⟩

end Go.Proofs.YtjdjbjblblmdjaaDoor
