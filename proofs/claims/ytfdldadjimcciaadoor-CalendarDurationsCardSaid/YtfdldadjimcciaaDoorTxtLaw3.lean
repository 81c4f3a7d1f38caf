/-
  Parsing inverts formatting of durations; the walk of the law CalendarDurations.
-/
import Derived.Test.YtfdldadjimcciaaDoorTxtDurF
import Derived.Test.YtfdldadjimcciaaDoorTxtBack
import Derived.Test.YtfdldadjimcciaaDoorCalProg2
namespace Go.Proofs.YtfdldadjimcciaaDoor
set_option linter.unusedVariables false
set_option linter.unusedSimpArgs false
open Go.ChangeShapes Go.WideShapes Go.ChangeAt Go.RowKit

theorem dec_ne (n : Nat) : 1 ≤ (Lib.decDigits n).length := by
  rw [Lib.decDigits]; split <;> simp
theorem dec_head (n : Nat) (h : 1 ≤ n) : ((Lib.decDigits n).getD 0 0).toNat ≠ 48 := by
  induction n using Nat.strongRecOn with
  | ind n ih =>
    rw [Lib.decDigits]
    split
    · rename_i h10
      simp [Txt.toNat_digit n h10]; omega
    · rename_i h10
      have := ih (n / 10) (by omega) (by omega)
      have hl := dec_ne (n / 10)
      rw [List.getD_eq_getElem?_getD, List.getElem?_append_left (by omega), ← List.getD_eq_getElem?_getD]
      exact this
theorem dec_plain (n : Nat) : Txt.plainL (Lib.decDigits n) = true := by
  rw [Txt.plain_iff _ (dec_ne n)]
  rintro ⟨h1, h2⟩
  by_cases h : 1 ≤ n
  · exact dec_head n h h1
  · obtain rfl : n = 0 := by omega
    rw [Lib.decDigits] at h2; simp at h2
theorem dur_aux (sg : Bool) (H M : Nat) (hH : H < 100000000000) (hM : M < 60) (hz : sg = true → 1 ≤ 60 * H + M) (hx : 60 * H + M ≤ 1099511627776) (l : List UInt8)
    (hl : l = (if sg = true then [45] else []) ++ (Lib.decDigits H ++ ([58] ++ Txt.pad M 2))) : Txt.duE l = 0 ∧ Txt.duV l = (if sg = true then - ((60 * H + M : Nat) : Int) else ((60 * H + M : Nat) : Int)) := by
  have d1 := dec_ne H
  have d2 := Txt.dec_len_le H 11 (by omega) (by omega)
  have p1 : (Txt.pad M 2).length = 2 := Txt.pad_len _ _ (Txt.dec_len_le M 2 (by omega) (by omega))
  have hneg : Txt.duNeg l = sg := by
    cases sg
    · rw [Bool.eq_false_iff]; intro q
      obtain ⟨t, ht⟩ := (Txt.dash_iff l).1 q
      rw [hl] at ht
      have h0 : (Lib.decDigits H ++ ([58] ++ Txt.pad M 2)).getD 0 0 = 45 := by
        have : (if (false : Bool) = true then [(45 : UInt8)] else []) = [] := rfl
        rw [this, List.nil_append] at ht
        rw [ht]; rfl
      rw [List.getD_eq_getElem?_getD, List.getElem?_append_left (by omega)] at h0
      have hd := Txt.dec_allD H
      rw [List.getElem?_eq_getElem (by omega)] at h0
      simp only [Option.getD_some] at h0
      have := List.all_eq_true.1 hd _ (List.getElem_mem (show 0 < _ by omega))
      rw [h0] at this
      revert this; decide
    · rw [hl]; exact (Txt.dash_iff _).2 ⟨_, rfl⟩
  have hR : Txt.duR l = Lib.decDigits H ++ ([58] ++ Txt.pad M 2) := by
    cases sg
    · rw [Txt.duR_pos l hneg, hl]; rfl
    · rw [hl]; exact Txt.duR_neg _
  have hlen : (Txt.duR l).length = (Lib.decDigits H).length + 3 := by rw [hR]; simp [p1]
  have hK : Txt.duK l = (Lib.decDigits H).length := by unfold Txt.duK; omega
  have hHH : Txt.duH l = Lib.decDigits H := by unfold Txt.duH; rw [hK, hR, List.take_left]
  have hMM : Txt.duM l = Txt.pad M 2 := by
    unfold Txt.duM; rw [hK, hR, ← List.append_assoc]
    have : (Lib.decDigits H).length + 1 = (Lib.decDigits H ++ [58]).length := by simp
    rw [this, List.drop_left]
  have hc : (Txt.duR l).getD (Txt.duK l) 0 = 58 := by
    rw [hK, hR, List.getD_eq_getElem?_getD, List.getElem?_append_right (by omega)]; simp
  have hB : Txt.duB l = true := by
    unfold Txt.duB
    rw [decide_eq_true_eq, hHH, hMM, hneg, Txt.dec_num, Txt.pad_num]
    refine ⟨by omega, by omega, hc, Txt.dec_allD H, Txt.pad_allD M 2, dec_plain H, ?_⟩
    rintro ⟨q1, q2, q3⟩
    have := hz q1
    omega
  have hN : Txt.duN l = ((60 * H + M : Nat) : Int) := by unfold Txt.duN; rw [hHH, hMM, Txt.dec_num, Txt.pad_num]; omega
  have hE : Txt.duE l = 0 := by
    unfold Txt.duE; rw [if_pos hB, hMM, Txt.pad_num, hN, if_pos ⟨by omega, by omega⟩]
  exact ⟨hE, by unfold Txt.duV; rw [if_pos hE, hneg, hN]⟩
theorem fuS_list (n : Int) : (fuS n).data.toList = (if decide (n < 0) = true then [45] else []) ++ (Lib.decDigits (absI n / 60).toNat ++ ([58] ++ Txt.pad (absI n % 60).toNat 2)) := by
  unfold fuS
  rw [app_list, app_list, app_list]
  have e1 : (sgS n).data.toList = if decide (n < 0) = true then [45] else [] := by
    unfold sgS; by_cases h : n < 0 <;> simp [h]
  rw [e1]
  show _ ++ Lib.decDigits _ ++ [58] ++ Txt.pad _ 2 = _
  simp only [List.append_assoc]
theorem dur_back (n : Int) (h : fuB n = true) : Txt.duE (fuS n).data.toList = 0 ∧ Txt.duV (fuS n).data.toList = n := by
  simp only [fuB, decide_eq_true_eq] at h
  have a1 : 0 ≤ absI n := by unfold absI; split <;> omega
  have a2 : absI n ≤ 1099511627776 := by unfold absI; split <;> omega
  have a3 : absI n = if decide (n < 0) = true then - n else n := by unfold absI; simp
  obtain ⟨h1, h2⟩ := dur_aux (decide (n < 0)) (absI n / 60).toNat (absI n % 60).toNat (by omega) (by omega)
    (by intro q; simp at q; have : absI n = - n := by unfold absI; rw [if_pos q]
        omega) (by omega) _ (fuS_list n)
  refine ⟨h1, ?_⟩
  rw [h2]
  have e : ((60 * (absI n / 60).toNat + (absI n % 60).toNat : Nat) : Int) = absI n := by omega
  rw [e]
  unfold absI
  by_cases q : n < 0
  · simp [q]
  · simp [q]
theorem fu_facts (n : Int) : (fuV n).size ≤ 9223372036854775807 ∧ ((fuE n == 0) = true ∧ (Txt.duE (fuV n).data.toList = 0 ∧ Txt.duV (fuV n).data.toList = n) ∨ (fuE n == 0) = false) := by
  unfold fuV fuE
  cases h : fuB n
  · exact ⟨Nat.zero_le _, .inr rfl⟩
  · refine ⟨?_, .inl ⟨rfl, by simpa using dur_back n h⟩⟩
    simp only [if_true]
    simp only [fuB, decide_eq_true_eq] at h
    have a1 : 0 ≤ absI n := by unfold absI; split <;> omega
    have a2 : absI n ≤ 1099511627776 := by unfold absI; split <;> omega
    have := Txt.dec_len_le (absI n / 60).toNat 20 (by omega) (by omega)
    have p1 : (Txt.pad (absI n % 60).toNat 2).length = 2 := Txt.pad_len _ _ (Txt.dec_len_le _ 2 (by omega) (by omega))
    rw [← len_at, fuS_list]
    split <;> simp [p1] <;> omega

set_option maxHeartbeats 4000000 in
theorem walk_calendarDurations (s : ByteArray) (n : Int) (w : World) (hs : s.size ≤ 9223372036854775807) (_ : (Lit.int .i64 n).wf = true) (ht : Tab w) :
    Calls Tryd.prog 5 #[.string s, .int .i64 n] w fun e w' => e = .returned (.bool true) ∧ Below w.heap.size w w' := by
  obtain ⟨l, rfl⟩ : ∃ l : List UInt8, s = ⟨l.toArray⟩ := ⟨s.data.toList, by cases s; simp⟩
  have hl : l.length ≤ 9223372036854775807 := hs
  obtain ⟨fz, ff⟩ := fu_facts n
  have FF := Lib.hid ff
  clear ff
  go_enter Tryd.func5, Tryd.ntmps5
  go_wp2_with fail
  refine (pdur_any _ _ hs).mono ?_
  rw [show (⟨l.toArray⟩ : ByteArray).data.toList = l from rfl]
  rintro e w1 ⟨rfl, hb1⟩
  go_wp2_with fail
  refine (pdur_ref_any _ _ hl).mono ?_
  rintro e w2 ⟨rfl, rfl⟩
  have T := ht.next hb1
  go_wp2_with fail
  refine (fdur_any _ _ T).mono ?_
  rintro e w3 ⟨rfl, hb3⟩
  have B := hb1.trans (hb3.mono hb1.size)
  replace T := T.next hb3
  clear hb1 hb3
  go_wp2_with fail
  refine (fdur_ref_any _ _ T).mono ?_
  rintro e w4 ⟨rfl, hb4⟩
  replace B := B.trans (hb4.mono B.size)
  clear hb4
  rcases FF.out with ⟨g1, g2, g3⟩ | g1
  · have G2 := Lib.hid g2
    have G3 := Lib.hid g3
    clear g2 g3
    go_wp2_with fail
    refine (pdur_any _ _ fz).mono ?_
    rw [G2.out, G3.out]
    rintro e w5 ⟨rfl, hb5⟩
    replace B := B.trans (hb5.mono B.size)
    clear hb5
    go_wp2_with (go_at_call 14; refine (awake_any _).mono ?_; rintro e w6 ⟨rfl, hb6⟩)
    go_ret
    exact ⟨rfl, B.trans (hb6.mono B.size)⟩
  · go_wp2_with (go_at_call 14; refine (awake_any _).mono ?_; rintro e w6 ⟨rfl, hb6⟩)
    go_ret
    exact ⟨rfl, B.trans (hb6.mono B.size)⟩

end Go.Proofs.YtfdldadjimcciaaDoor
