/-
  The contracts of the reference's ParseInstant and of both FormatInstants.
-/
import Derived.Test.YtfdldadjimcciaaDoorTxtInst
namespace Go.Proofs.YtfdldadjimcciaaDoor
open Go.ChangeShapes Go.WideShapes Go.ChangeAt Go.RowKit

theorem pd_one (s : ByteArray) : (pdE s == 1) = !Txt.fits s.data.toList pat10 := by
  unfold pdE; cases Txt.fits s.data.toList pat10
  · rfl
  · simp only [if_true]; split <;> rfl
theorem pc_one (s : ByteArray) : (pcE s == 1) = !Txt.fits s.data.toList pat5 := by
  unfold pcE; cases Txt.fits s.data.toList pat5
  · rfl
  · simp only [if_true]; split <;> rfl

set_option maxHeartbeats 2000000 in
theorem pinst_ref_syntax (s : ByteArray) (w : World) (hs : s.size ≤ 9223372036854775807) (h : Txt.fits s.data.toList pat16 = false) :
    Calls Tryd.prog 16 #[.string s] w fun e w' => e = .returned (.tuple #[.int .i64 0, .int .i64 1]) ∧ Below w.heap.size w w' := by
  have hn : ¬ (s.size = 16 ∧ s.data.toList.getD 10 0 = 32 ∧ Txt.fits (s.extract 0 10).data.toList pat10 = true ∧ Txt.fits (s.extract 11 s.size).data.toList pat5 = true) := by
    intro q; rw [(fits16 s).2 q] at h; cases h
  clear h
  by_cases h16 : s.size = 16
  · have n16 : ((s.size : Int) != 16) = false := by rw [h16]; rfl
    have l10 : 10 < s.size := by omega
    rw [getD_32 s 10 l10] at hn
    have j10 : (10 : Int) < (s.size : Int) := by omega
    have b10 : 10 ≤ s.size := by omega
    have b11 : 11 ≤ s.size := by omega
    by_cases h10 : s[10].toNat = 32
    · have c10 : ((s[10].toNat : Int) != 32) = false := by rw [h10]; rfl
      have zA : Hid ((s.extract 0 10).size ≤ 9223372036854775807) := by unfold Hid; rw [ByteArray.size_extract]; omega
      have zC : Hid ((s.extract 11 s.size).size ≤ 9223372036854775807) := by unfold Hid; rw [ByteArray.size_extract]; omega
      have o1 := pd_one (s.extract 0 10)
      have o2 := pc_one (s.extract 11 s.size)
      have hq : Txt.fits (s.extract 0 10).data.toList pat10 = false ∨ (Txt.fits (s.extract 0 10).data.toList pat10 = true ∧ Txt.fits (s.extract 11 s.size).data.toList pat5 = false) := by
        cases q1 : Txt.fits (s.extract 0 10).data.toList pat10
        · exact .inl rfl
        · cases q2 : Txt.fits (s.extract 11 s.size).data.toList pat5
          · exact .inr ⟨rfl, rfl⟩
          · exact absurd ⟨h16, h10, q1, q2⟩ hn
      clear hn h10 h16
      rcases hq with q | ⟨q, q'⟩
      · rw [q] at o1
        have O1 : (pdE (s.extract 0 10) == 1) = true := o1
        clear o1 o2 q
        go_enter Tryd.func16, Tryd.ntmps16
        go_wp2_with fail
        refine (pdate_ref_any _ _ zA.out).mono ?_
        rintro e w2 ⟨rfl, hb2⟩
        go_wp2_with fail
        refine (pclock_ref_any _ _ zC.out).mono ?_
        rintro e w3 ⟨rfl, rfl⟩
        go_wp2
        go_ret2
        exact ⟨rfl, hb2.alloc hb2.size _⟩
      · rw [q] at o1
        rw [q'] at o2
        have O1 : (pdE (s.extract 0 10) == 1) = false := o1
        have O2 : (pcE (s.extract 11 s.size) == 1) = true := o2
        clear o1 o2 q q'
        go_enter Tryd.func16, Tryd.ntmps16
        go_wp2_with fail
        refine (pdate_ref_any _ _ zA.out).mono ?_
        rintro e w2 ⟨rfl, hb2⟩
        go_wp2_with fail
        refine (pclock_ref_any _ _ zC.out).mono ?_
        rintro e w3 ⟨rfl, rfl⟩
        go_wp2
        go_ret2
        exact ⟨rfl, hb2.alloc hb2.size _⟩
    · have c10 : ((s[10].toNat : Int) != 32) = true := by simp; omega
      clear hn h10 h16
      go_enter Tryd.func16, Tryd.ntmps16
      go_wp2
      go_ret2
      exact ⟨rfl, Below.refl _ _⟩
  · have n16 : ((s.size : Int) != 16) = true := by simp; omega
    clear hn h16
    go_enter Tryd.func16, Tryd.ntmps16
    go_wp2
    go_ret2
    exact ⟨rfl, Below.refl _ _⟩

set_option maxHeartbeats 2000000 in
theorem pinst_ref_fits (s : ByteArray) (w : World) (h : Txt.fits s.data.toList pat16 = true) :
    Calls Tryd.prog 16 #[.string s] w fun e w' => e = .returned (.tuple #[.int .i64 (piV s), .int .i64 (piE s)]) ∧ Below w.heap.size w w' := by
  obtain ⟨h16, h10, -, -⟩ := (fits16 s).1 h
  have hcs := pi_cases s h
  have n16 : ((s.size : Int) != 16) = false := by rw [h16]; rfl
  have l10 : 10 < s.size := by omega
  rw [getD_32 s 10 l10] at h10
  have j10 : (10 : Int) < (s.size : Int) := by omega
  have b10 : 10 ≤ s.size := by omega
  have b11 : 11 ≤ s.size := by omega
  have c10 : ((s[10].toNat : Int) != 32) = false := by rw [h10]; rfl
  have zA : Hid ((s.extract 0 10).size ≤ 9223372036854775807) := by unfold Hid; rw [ByteArray.size_extract]; omega
  have zC : Hid ((s.extract 11 s.size).size ≤ 9223372036854775807) := by unfold Hid; rw [ByteArray.size_extract]; omega
  have o2 : (pcE (s.extract 11 s.size) == 1) = false := by rw [pc_one]; rw [((fits16 s).1 h).2.2.2]; rfl
  clear h h10 h16
  rcases hcs with ⟨e1, e2, e3⟩ | ⟨e1, e2, e3, e4, e5, e6⟩ | ⟨e3, e4, e5, e6, e7, e8, e9, e1, e2⟩
  · have E : Hid (piE s = 5 ∧ piV s = 0) := ⟨e1, e2⟩
    have E3 : Hid (pdE (s.extract 0 10) = 5) := e3
    clear e1 e2 e3
    go_enter Tryd.func16, Tryd.ntmps16
    go_wp2_with fail
    refine (pdate_ref_any _ _ zA.out).mono ?_
    rw [E3.out]
    rintro e w2 ⟨rfl, hb2⟩
    go_wp2_with fail
    refine (pclock_ref_any _ _ zC.out).mono ?_
    rintro e w3 ⟨rfl, rfl⟩
    go_wp2
    go_ret2
    exact ⟨by rw [E.out.1, E.out.2]; rfl, hb2.alloc hb2.size _⟩
  · have E : Hid (piE s = 5 ∧ piV s = 0) := ⟨e1, e2⟩
    have E3 : Hid (pdE (s.extract 0 10) = 0) := e3
    have E6 : Hid (pcE (s.extract 11 s.size) = 5) := e6
    clear e1 e2 e3 e4 e5 e6 o2
    go_enter Tryd.func16, Tryd.ntmps16
    go_wp2_with fail
    refine (pdate_ref_any _ _ zA.out).mono ?_
    rw [E3.out]
    rintro e w2 ⟨rfl, hb2⟩
    go_wp2_with fail
    refine (pclock_ref_any _ _ zC.out).mono ?_
    rw [E6.out]
    rintro e w3 ⟨rfl, rfl⟩
    go_wp2
    go_ret2
    exact ⟨by rw [E.out.1, E.out.2]; rfl, hb2.alloc hb2.size _⟩
  · have E : Hid (piE s = (if 0 ≤ piT s ∧ piT s < 52596000 then 0 else 5) ∧ piV s = (if 0 ≤ piT s ∧ piT s < 52596000 then piT s else 0)) := ⟨e1, e2⟩
    have E3 : Hid (pdE (s.extract 0 10) = 0) := e3
    have E4 : Hid (Cal.vldB (pdY (s.extract 0 10)) (pdM (s.extract 0 10)) (pdD (s.extract 0 10)) = true) := e4
    have E5 : Hid (∀ x, pdV (s.extract 0 10) x = x) := e5
    have E6 : Hid (pcE (s.extract 11 s.size) = 0) := e6
    have c8 : 0 ≤ pcV (s.extract 11 s.size) := e8
    have c9 : pcV (s.extract 11 s.size) ≤ 1439 := e9
    have ET : Hid (piT s = 1440 * Cal.num (pdY (s.extract 0 10)) (pdM (s.extract 0 10)) (pdD (s.extract 0 10)) + pcV (s.extract 11 s.size)) := by
      unfold Hid piT; rw [show pcV (s.extract 11 s.size) = 60 * pcH (piC s) + pcM (piC s) from e7]; rfl
    have nb := Cal.num_bd _ _ _ e4
    have nb1 : -365 ≤ Cal.num (pdY (s.extract 0 10)) (pdM (s.extract 0 10)) (pdD (s.extract 0 10)) := nb.1
    have nb2 : Cal.num (pdY (s.extract 0 10)) (pdM (s.extract 0 10)) (pdD (s.extract 0 10)) ≤ 36889 := nb.2
    clear e1 e2 e3 e4 e5 e6 e7 e8 e9 nb o2
    go_enter Tryd.func16, Tryd.ntmps16
    go_wp2_with fail
    refine (pdate_ref_any _ _ zA.out).mono ?_
    rw [E3.out, E5.out, E5.out, E5.out]
    rintro e w2 ⟨rfl, hb2⟩
    have BX := Box3.new w2 23 (.int .i64 (pdY (s.extract 0 10))) (.int .i64 (pdM (s.extract 0 10))) (.int .i64 (pdD (s.extract 0 10)))
    have B := hb2.alloc hb2.size (.cells #[.int .i64 (pdY (s.extract 0 10)), .int .i64 (pdM (s.extract 0 10)), .int .i64 (pdD (s.extract 0 10))] 23)
    clear hb2
    go_wp2_with fail
    refine (pclock_ref_any _ _ zC.out).mono ?_
    rw [E6.out]
    rintro e w3 ⟨rfl, rfl⟩
    obtain ⟨d0, d1, d2⟩ := BX
    go_wp2_with fail
    refine (daynum_ref _ _ _ _ E4.out).mono ?_
    rintro e w4 ⟨rfl, hb4⟩
    replace B := B.trans (hb4.mono B.size)
    clear hb4 d0 d1 d2
    generalize Cal.num (pdY (s.extract 0 10)) (pdM (s.extract 0 10)) (pdD (s.extract 0 10)) = N at *
    generalize pcV (s.extract 11 s.size) = C at *
    by_cases t0 : 0 ≤ 1440 * N + C
    · have q0 : decide (1440 * N + C < 0) = false := by simp; omega
      by_cases t1 : 52596000 ≤ 1440 * N + C
      · have q1 : decide (52596000 ≤ 1440 * N + C) = true := by simp; omega
        have T1 := Lib.hid t1
        clear t0 t1
        go_wp2
        go_ret2
        refine ⟨?_, B⟩
        have q := T1.out
        rw [E.out.1, E.out.2, if_neg (by rw [ET.out]; omega), if_neg (by rw [ET.out]; omega)]; rfl
      · have q1 : decide (52596000 ≤ 1440 * N + C) = false := by simp; omega
        have T0 := Lib.hid t0
        have T1 := Lib.hid t1
        clear t0 t1
        go_wp2
        go_ret2
        refine ⟨?_, B⟩
        have q := T1.out
        have q' := T0.out
        rw [E.out.1, E.out.2, if_pos (by rw [ET.out]; omega), if_pos (by rw [ET.out]; omega), ET.out]
        rfl
    · have q0 : decide (1440 * N + C < 0) = true := by simp; omega
      have T0 := Lib.hid t0
      clear t0
      go_wp2
      go_ret2
      refine ⟨?_, B⟩
      have q := T0.out
      rw [E.out.1, E.out.2, if_neg (by rw [ET.out]; omega), if_neg (by rw [ET.out]; omega)]; rfl

theorem pinst_ref_any (s : ByteArray) (w : World) (hs : s.size ≤ 9223372036854775807) :
    Calls Tryd.prog 16 #[.string s] w fun e w' => e = .returned (.tuple #[.int .i64 (piV s), .int .i64 (piE s)]) ∧ Below w.heap.size w w' := by
  cases h : Txt.fits s.data.toList pat16
  · have := pinst_ref_syntax s w hs h
    simpa [piV, piE, h] using this
  · exact pinst_ref_fits s w h

/-- What FormatInstant returns for an instant. -/
def FiGot (t : Int) (w : World) (e : Ending) (w' : World) : Prop :=
  ∃ y m d : Int, Cal.vldB y m d = true ∧ Cal.num y m d = t / 1440 ∧ e = .returned (.tuple #[.string (fiS y m d (t % 1440)), .int .i64 0]) ∧ Below w.heap.size w w'

set_option maxHeartbeats 2000000 in
theorem finst_no (t : Int) (w : World) (h : t < 0 ∨ 52596000 ≤ t) :
    Calls Tryd.prog 17 #[.int .i64 t] w fun e w' => e = .returned (.tuple #[.string ⟨#[]⟩, .int .i64 5]) ∧ Below w.heap.size w w' := by
  rcases h with h | h
  all_goals
    go_enter Tryd.func17, Tryd.ntmps17
    go_wp2
    go_ret2
    exact ⟨rfl, Below.refl _ _⟩
set_option maxHeartbeats 2000000 in
theorem finst_ref_no (t : Int) (w : World) (h : t < 0 ∨ 52596000 ≤ t) :
    Calls Tryd.prog 18 #[.int .i64 t] w fun e w' => e = .returned (.tuple #[.string ⟨#[]⟩, .int .i64 5]) ∧ Below w.heap.size w w' := by
  rcases h with h | h
  all_goals
    go_enter Tryd.func18, Tryd.ntmps18
    go_wp2
    go_ret2
    exact ⟨rfl, Below.refl _ _⟩

theorem fc_yes (c : Int) (h : fcB c = true) : fcV c = fcS c ∧ fcE c = 0 := by unfold fcV fcE; rw [h]; simp
theorem fd_yes (y m d : Int) (h : Cal.vldB y m d = true) : fdV y m d = fdS y m d ∧ fdE y m d = 0 := by unfold fdV fdE; rw [h]; simp

set_option maxHeartbeats 2000000 in
theorem finst_yes (t : Int) (w : World) (h0 : 0 ≤ t) (h1 : t < 52596000) (ht : Tab w) :
    Calls Tryd.prog 17 #[.int .i64 t] w (FiGot t w) := by
  have wf : (Lit.int .i64 t).wf = true := WalkArith.wf_i64 (by omega)
  have q1 : 0 ≤ t / 1440 := by omega
  have q2 : t / 1440 ≤ 36524 := by omega
  have hcB : fcB (t % 1440) = true := by simp [fcB]; omega
  obtain ⟨k1, k2⟩ := fc_yes _ hcB
  have zc := fcS_size _ hcB
  have K1 := Lib.hid k1
  have K2 := Lib.hid k2
  clear k1 k2 hcB
  go_enter Tryd.func17, Tryd.ntmps17
  go_wp2_with fail
  refine (split_prog _ _ wf).mono ?_
  rintro e w1 ⟨rfl, rfl⟩
  go_wp2_with fail
  refine (dateof _ _ (by omega) (by omega)).mono ?_
  rintro e w2 ⟨y, m, d, rfl, hv, hn, hb2⟩
  have zd := fdS_size y m d hv
  have V := Lib.hid hv
  have N := Lib.hid hn
  clear hv hn
  have BX := Box3.new w2 23 (.int .i64 y) (.int .i64 m) (.int .i64 d)
  have B := hb2.alloc hb2.size (.cells #[.int .i64 y, .int .i64 m, .int .i64 d] 23)
  have T := (ht.next hb2).alloc (.cells #[.int .i64 y, .int .i64 m, .int .i64 d] 23)
  clear hb2
  obtain ⟨d0, d1, d2⟩ := BX
  go_wp2_with fail
  refine (fdate_yes _ _ _ _ V.out T).mono ?_
  rintro e w3 ⟨rfl, hb3⟩
  replace B := B.trans (hb3.mono B.size)
  replace T := T.next hb3
  clear hb3 d0 d1 d2
  go_wp2_with fail
  refine (fclock_any _ _ T).mono ?_
  rw [K1.out, K2.out]
  rintro e w4 ⟨rfl, hb4⟩
  replace B := B.trans (hb4.mono B.size)
  clear hb4
  go_wp2
  go_ret2
  exact ⟨y, m, d, V.out, N.out, rfl, B⟩

set_option maxHeartbeats 2000000 in
theorem finst_ref_yes (t : Int) (w : World) (h0 : 0 ≤ t) (h1 : t < 52596000) (ht : Tab w) :
    Calls Tryd.prog 18 #[.int .i64 t] w (FiGot t w) := by
  have wf : (Lit.int .i64 t).wf = true := WalkArith.wf_i64 (by omega)
  have q1 : 0 ≤ t / 1440 := by omega
  have q2 : t / 1440 ≤ 36524 := by omega
  have hcB : fcB (t % 1440) = true := by simp [fcB]; omega
  obtain ⟨k1, k2⟩ := fc_yes _ hcB
  have zc := fcS_size _ hcB
  have K1 := Lib.hid k1
  have K2 := Lib.hid k2
  clear k1 k2 hcB
  go_enter Tryd.func18, Tryd.ntmps18
  go_wp2_with fail
  refine (split_ref _ _ wf).mono ?_
  rintro e w1 ⟨rfl, rfl⟩
  go_wp2_with fail
  refine (dateof_ref _ _ (by omega) (by omega)).mono ?_
  rintro e w2 ⟨y, m, d, rfl, hv, hn, hb2⟩
  have zd := fdS_size y m d hv
  have V := Lib.hid hv
  have N := Lib.hid hn
  clear hv hn
  have BX := Box3.new w2 23 (.int .i64 y) (.int .i64 m) (.int .i64 d)
  have B := hb2.alloc hb2.size (.cells #[.int .i64 y, .int .i64 m, .int .i64 d] 23)
  have T := (ht.next hb2).alloc (.cells #[.int .i64 y, .int .i64 m, .int .i64 d] 23)
  clear hb2
  obtain ⟨d0, d1, d2⟩ := BX
  go_wp2_with fail
  refine (fdate_ref_yes _ _ _ _ V.out T).mono ?_
  rintro e w3 ⟨rfl, hb3⟩
  replace B := B.trans (hb3.mono B.size)
  replace T := T.next hb3
  clear hb3 d0 d1 d2
  go_wp2_with fail
  refine (fclock_ref_any _ _ T).mono ?_
  rw [K1.out, K2.out]
  rintro e w4 ⟨rfl, hb4⟩
  replace B := B.trans (hb4.mono B.size)
  clear hb4
  go_wp2
  go_ret2
  exact ⟨y, m, d, V.out, N.out, rfl, B⟩

end Go.Proofs.YtfdldadjimcciaaDoor
