/-
  The walk of the law CalendarInstants.
-/
import Derived.Test.YtfdldadjimcciaaDoorTxtInstR
namespace Go.Proofs.YtfdldadjimcciaaDoor
open Go.ChangeShapes Go.WideShapes Go.ChangeAt Go.RowKit

theorem ba_eq {a b : ByteArray} (h : a.data.toList = b.data.toList) : a = b := by
  apply ByteArray.ext; exact Array.toList_inj.1 h
theorem fiS_size (y m d c : Int) (h : Cal.vldB y m d = true) (hc : fcB c = true) : (fiS y m d c).size = 16 := by
  unfold fiS
  rw [← len_at, app_list, app_list, List.length_append, List.length_append, len_at, len_at, len_at, fdS_size y m d h, fcS_size c hc]; rfl
theorem inst_back (y m d c : Int) (h : Cal.vldB y m d = true) (hc : fcB c = true) : piA (fiS y m d c) = fdS y m d ∧ piC (fiS y m d c) = fcS c ∧ Txt.fits (fiS y m d c).data.toList pat16 = true := by
  have z1 := fdS_size y m d h
  have z2 := fcS_size c hc
  have hz := fiS_size y m d c h hc
  have hl : (fiS y m d c).data.toList = (fdS y m d).data.toList ++ ([32] ++ (fcS c).data.toList) := by unfold fiS; rw [app_list, app_list, List.append_assoc]
  have l1 : (fdS y m d).data.toList.length = 10 := by rw [len_at]; exact z1
  have eA : piA (fiS y m d c) = fdS y m d := by
    apply ba_eq; unfold piA; rw [ext_list, hl, List.drop_zero, List.take_append_of_le_length (by omega), List.take_of_length_le (by omega)]
  have eC : piC (fiS y m d c) = fcS c := by
    apply ba_eq; unfold piC
    rw [ext_list, ← len_at, List.take_length, hl, ← List.append_assoc, List.drop_append_of_le_length (by simp; omega), List.drop_eq_nil_of_le (by simp; omega)]; rfl
  refine ⟨eA, eC, ?_⟩
  rw [fits16]
  refine ⟨hz, ?_, ?_, ?_⟩
  · rw [hl, List.getD_eq_getElem?_getD, List.getElem?_append_right (by omega), l1]; rfl
  · show Txt.fits (piA (fiS y m d c)).data.toList pat10 = true
    rw [eA]; exact (parse_back y m d h).1
  · show Txt.fits (piC (fiS y m d c)).data.toList pat5 = true
    rw [eC]; exact (clock_back c hc).1
theorem inst_back_all (y m d t : Int) (h : Cal.vldB y m d = true) (hn : Cal.num y m d = t / 1440) (h0 : 0 ≤ t) (h1 : t < 52596000) : piE (fiS y m d (t % 1440)) = 0 ∧ piV (fiS y m d (t % 1440)) = t := by
  have hc : fcB (t % 1440) = true := by simp [fcB]; omega
  obtain ⟨eA, eC, hf⟩ := inst_back y m d (t % 1440) h hc
  obtain ⟨-, p1, p2, p3⟩ := parse_back y m d h
  obtain ⟨-, q1, q2⟩ := clock_back (t % 1440) hc
  have hT : piT (fiS y m d (t % 1440)) = t := by unfold piT; rw [eA, eC, p1, p2, p3, q1, q2, hn]; omega
  have hD : piD (fiS y m d (t % 1440)) = true := by unfold piD; rw [eA, p1, p2, p3]; exact h
  have hP : pcB (piC (fiS y m d (t % 1440))) = true := by unfold pcB; rw [eC, q1, q2]; simp; omega
  have hB : piB (fiS y m d (t % 1440)) = true := by unfold piB; rw [hD, hP, hT]; simp; omega
  unfold piE piV; rw [hf, hB, hT]; simp

set_option maxHeartbeats 4000000 in
theorem walk_inst_no (s : ByteArray) (t u : Int) (w : World) (hs : s.size ≤ 9223372036854775807) (ht : Tab w) (h : t < 0 ∨ 52596000 ≤ t) :
    Calls Tryd.prog 4 #[.string s, .int .i64 t, .int .i64 u] w fun e w' => e = .returned (.bool true) ∧ Below w.heap.size w w' := by
  have H := Lib.hid h
  clear h
  go_enter Tryd.func4, Tryd.ntmps4
  go_wp2_with fail
  refine (pinst_any _ _ hs).mono ?_
  rintro e w1 ⟨rfl, hb1⟩
  go_wp2_with fail
  refine (pinst_ref_any _ _ hs).mono ?_
  rintro e w2 ⟨rfl, hb2⟩
  have B := hb1.trans (hb2.mono hb1.size)
  have T := (ht.next hb1).next hb2
  clear hb1 hb2
  go_wp2_with fail
  refine (finst_no _ _ H.out).mono ?_
  rintro e w3 ⟨rfl, hb3⟩
  go_wp2_with fail
  refine (finst_ref_no _ _ H.out).mono ?_
  rintro e w4 ⟨rfl, hb4⟩
  replace B := (B.trans (hb3.mono B.size)).trans (hb4.mono (B.trans (hb3.mono B.size)).size)
  replace T := (T.next hb3).next hb4
  clear hb3 hb4
  by_cases hu : u < 0 ∨ 52596000 ≤ u
  · have HU := Lib.hid hu
    clear hu
    go_wp2_with fail
    refine (finst_no _ _ HU.out).mono ?_
    rintro e w5 ⟨rfl, hb5⟩
    go_wp2_with (go_at_call 14; refine (awake_any _).mono ?_; rintro e w6 ⟨rfl, hb6⟩)
    go_ret
    replace B := B.trans (hb5.mono B.size)
    exact ⟨rfl, B.trans (hb6.mono B.size)⟩
  · go_wp2_with fail
    refine (finst_yes _ _ (by omega) (by omega) T).mono ?_
    rintro e w5 ⟨y, m, d, hv, hn, rfl, hb5⟩
    clear hu hv hn
    go_wp2_with (go_at_call 14; refine (awake_any _).mono ?_; rintro e w6 ⟨rfl, hb6⟩)
    go_ret
    replace B := B.trans (hb5.mono B.size)
    exact ⟨rfl, B.trans (hb6.mono B.size)⟩

set_option maxHeartbeats 4000000 in
theorem walk_inst_yes (s : ByteArray) (t u : Int) (w : World) (hs : s.size ≤ 9223372036854775807) (ht : Tab w) (h0 : 0 ≤ t) (h1 : t < 52596000) :
    Calls Tryd.prog 4 #[.string s, .int .i64 t, .int .i64 u] w fun e w' => e = .returned (.bool true) ∧ Below w.heap.size w w' := by
  go_enter Tryd.func4, Tryd.ntmps4
  go_wp2_with fail
  refine (pinst_any _ _ hs).mono ?_
  rintro e w1 ⟨rfl, hb1⟩
  go_wp2_with fail
  refine (pinst_ref_any _ _ hs).mono ?_
  rintro e w2 ⟨rfl, hb2⟩
  have B := hb1.trans (hb2.mono hb1.size)
  have T := (ht.next hb1).next hb2
  clear hb1 hb2
  go_wp2_with fail
  refine (finst_yes _ _ h0 h1 T).mono ?_
  rintro e w3 ⟨y, m, d, hv, hn, rfl, hb3⟩
  have V := Lib.hid hv
  have N := Lib.hid hn
  clear hv hn
  go_wp2_with fail
  refine (finst_ref_yes _ _ h0 h1 (T.next hb3)).mono ?_
  rintro e w4 ⟨y', m', d', hv', hn', rfl, hb4⟩
  obtain ⟨rfl, rfl, rfl⟩ := Cal.num_inj y m d y' m' d' V.out hv' (by rw [N.out, hn'])
  clear hv' hn'
  replace B := (B.trans (hb3.mono B.size)).trans (hb4.mono (B.trans (hb3.mono B.size)).size)
  replace T := (T.next hb3).next hb4
  clear hb3 hb4
  by_cases hu : u < 0 ∨ 52596000 ≤ u
  · have HU := Lib.hid hu
    clear hu
    go_wp2_with fail
    refine (finst_no _ _ HU.out).mono ?_
    rintro e w5 ⟨rfl, hb5⟩
    go_wp2_with (go_at_call 14; refine (awake_any _).mono ?_; rintro e w6 ⟨rfl, hb6⟩)
    go_ret
    replace B := B.trans (hb5.mono B.size)
    exact ⟨rfl, B.trans (hb6.mono B.size)⟩
  · go_wp2_with fail
    refine (finst_yes _ _ (by omega) (by omega) T).mono ?_
    rintro e w5 ⟨z, n, f, hv', hn', rfl, hb5⟩
    have hc1 : fcB (t % 1440) = true := by simp [fcB]; omega
    have hc2 : fcB (u % 1440) = true := by simp [fcB]; omega
    have hO0 := inst_order y m d (t % 1440) z n f (u % 1440) V.out hv' hc1 hc2
    rw [N.out, hn', show 1440 * (t / 1440) + t % 1440 = t from by omega, show 1440 * (u / 1440) + u % 1440 = u from by omega, ← Lib.toList_data, ← Lib.toList_data] at hO0
    have hO := hO0
    obtain ⟨k1, k2⟩ := inst_back_all y m d t V.out N.out h0 h1
    have K1 := Lib.hid k1
    have K2 := Lib.hid k2
    have zs : (fiS y m d (t % 1440)).size ≤ 9223372036854775807 := by rw [fiS_size y m d _ V.out hc1]; omega
    clear hu hv' hn' k1 k2 hc1 hc2
    replace B := B.trans (hb5.mono B.size)
    clear hb5
    go_wp2_with fail
    refine (pinst_any _ _ zs).mono ?_
    rw [K1.out, K2.out]
    rintro e w6 ⟨rfl, hb6⟩
    clear zs
    replace B := B.trans (hb6.mono B.size)
    clear hb6
    go_wp2_with (go_at_call 14; refine (awake_any _).mono ?_; rintro e w7 ⟨rfl, hb7⟩)
    go_ret
    exact ⟨rfl, B.trans (hb7.mono B.size)⟩

theorem walk_calendarInstants (s : ByteArray) (t u : Int) (w : World) (hs : s.size ≤ 9223372036854775807) (_ : (Lit.int .i64 t).wf = true) (_ : (Lit.int .i64 u).wf = true) (ht : Tab w) :
    Calls Tryd.prog 4 #[.string s, .int .i64 t, .int .i64 u] w fun e w' => e = .returned (.bool true) ∧ Below w.heap.size w w' := by
  by_cases h : t < 0 ∨ 52596000 ≤ t
  · exact walk_inst_no s t u w hs ht h
  · exact walk_inst_yes s t u w hs ht (by omega) (by omega)

end Go.Proofs.YtfdldadjimcciaaDoor
