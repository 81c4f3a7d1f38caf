/-
  The contracts of ParseInstant and FormatInstant, of the program and of the reference.
-/
import Derived.Test.YtfdldadjimcciaaDoorTxtOrder
import Derived.Test.YtfdldadjimcciaaDoorTxtDate2
namespace Go.Proofs.YtfdldadjimcciaaDoor
open Go.ChangeShapes Go.WideShapes Go.ChangeAt Go.RowKit

def pat16 : List UInt8 := pat10 ++ [32] ++ pat5
theorem fits_app (a b p q : List UInt8) (h : a.length = p.length) : Txt.fits (a ++ b) (p ++ q) = (Txt.fits a p && Txt.fits b q) := by
  induction a generalizing p with
  | nil => cases p with
    | nil => simp [Txt.fits]
    | cons x y => simp at h
  | cons x a ih => cases p with
    | nil => simp at h
    | cons y p => simp only [List.cons_append, Txt.fits, ih p (by simpa using h), Bool.and_assoc]
theorem fits16 (s : ByteArray) : Txt.fits s.data.toList pat16 = true ↔ (s.size = 16 ∧ s.data.toList.getD 10 0 = 32 ∧ Txt.fits (s.extract 0 10).data.toList pat10 = true ∧ Txt.fits (s.extract 11 s.size).data.toList pat5 = true) := by
  have key : s.data.toList.length = 16 → (Txt.fits s.data.toList pat16 = true ↔ (s.data.toList.getD 10 0 = 32 ∧ Txt.fits (s.extract 0 10).data.toList pat10 = true ∧ Txt.fits (s.extract 11 s.size).data.toList pat5 = true)) := by
    intro hl
    have hd : s.data.toList = (s.data.toList.take 10) ++ [s.data.toList.getD 10 0] ++ s.data.toList.drop 11 := by
      have h1 : s.data.toList = s.data.toList.take 10 ++ s.data.toList.drop 10 := (List.take_append_drop 10 _).symm
      have h2 : s.data.toList.drop 10 = s.data.toList.getD 10 0 :: s.data.toList.drop 11 := by
        rw [List.drop_eq_getElem_cons (by omega)]
        rw [List.getD_eq_getElem?_getD, List.getElem?_eq_getElem (by omega)]; rfl
      conv => lhs; rw [h1, h2]
      simp
    have e1 : (s.extract 0 10).data.toList = s.data.toList.take 10 := by rw [ext_list]; simp
    have e2 : (s.extract 11 s.size).data.toList = s.data.toList.drop 11 := by rw [ext_list, ← len_at, List.take_length]
    rw [e1, e2]
    conv => lhs; rw [hd]
    unfold pat16
    rw [fits_app _ _ _ _ (by simp [hl, pat10]), fits_app _ _ _ _ (by simp [hl, pat10])]
    generalize s.data.toList.getD 10 0 = c
    simp [Txt.fits, Txt.fitB]
    constructor
    · rintro ⟨⟨a, b⟩, d⟩; exact ⟨b, a, d⟩
    · rintro ⟨b, a, d⟩; exact ⟨⟨a, b⟩, d⟩
  constructor
  · intro h
    have hl : s.data.toList.length = 16 := Txt.fits_len _ _ h
    exact ⟨by rw [← len_at]; exact hl, (key hl).1 h⟩
  · rintro ⟨hl, h⟩
    exact (key (by rw [len_at]; exact hl)).2 h
theorem getD_32 (s : ByteArray) (k : Nat) (h : k < s.size) : s.data.toList.getD k 0 = 32 ↔ s[k].toNat = 32 := by
  rw [getD_at s k h]
  exact ⟨fun e => by rw [e]; rfl, fun e => UInt8.toNat_inj.1 e⟩

def piA (s : ByteArray) : ByteArray := s.extract 0 10
def piC (s : ByteArray) : ByteArray := s.extract 11 s.size
def piD (s : ByteArray) : Bool := Cal.vldB (pdY (piA s)) (pdM (piA s)) (pdD (piA s))
def piT (s : ByteArray) : Int := 1440 * Cal.num (pdY (piA s)) (pdM (piA s)) (pdD (piA s)) + (60 * pcH (piC s) + pcM (piC s))
def piB (s : ByteArray) : Bool := piD s && pcB (piC s) && decide (0 ≤ piT s ∧ piT s < 52596000)
/-- What both ParseInstants return. -/
def piE (s : ByteArray) : Int := if Txt.fits s.data.toList pat16 = true then (if piB s = true then 0 else 5) else 1
def piV (s : ByteArray) : Int := if Txt.fits s.data.toList pat16 = true then (if piB s = true then piT s else 0) else 0

theorem pd_of_fits (s : ByteArray) (h : Txt.fits s.data.toList pat10 = true) (b : Bool) (hv : Cal.vldB (pdY s) (pdM s) (pdD s) = b) :
    pdE s = (if b = true then 0 else 5) ∧ ∀ x, pdV s x = (if b = true then x else 0) := by
  unfold pdE pdV; rw [h, hv]; simp
theorem pc_of_fits (s : ByteArray) (h : Txt.fits s.data.toList pat5 = true) (b : Bool) (hv : pcB s = b) :
    pcE s = (if b = true then 0 else 5) ∧ pcV s = (if b = true then 60 * pcH s + pcM s else 0) := by
  unfold pcE pcV; rw [h, hv]; simp

/-- Both parts in the program's own order: a date, a clock, the minute. -/
theorem pi_cases (s : ByteArray) (h : Txt.fits s.data.toList pat16 = true) :
    (piE s = 5 ∧ piV s = 0 ∧ pdE (piA s) = 5) ∨
    (piE s = 5 ∧ piV s = 0 ∧ pdE (piA s) = 0 ∧ piD s = true ∧ (∀ x, pdV (piA s) x = x) ∧ pcE (piC s) = 5) ∨
    (pdE (piA s) = 0 ∧ piD s = true ∧ (∀ x, pdV (piA s) x = x) ∧ pcE (piC s) = 0 ∧ pcV (piC s) = 60 * pcH (piC s) + pcM (piC s) ∧ 0 ≤ pcV (piC s) ∧ pcV (piC s) ≤ 1439 ∧
      piE s = (if 0 ≤ piT s ∧ piT s < 52596000 then 0 else 5) ∧ piV s = (if 0 ≤ piT s ∧ piT s < 52596000 then piT s else 0)) := by
  obtain ⟨hl, -, hA, hC⟩ := (fits16 s).1 h
  cases hD : piD s
  · left
    obtain ⟨p1, -⟩ := pd_of_fits (piA s) hA false hD
    have : piB s = false := by unfold piB; rw [hD]; rfl
    exact ⟨by unfold piE; rw [if_pos h, this]; rfl, by unfold piV; rw [if_pos h, this]; rfl, by rw [p1]; rfl⟩
  · obtain ⟨p1, p2⟩ := pd_of_fits (piA s) hA true hD
    right
    cases hB : pcB (piC s)
    · left
      obtain ⟨c1, -⟩ := pc_of_fits (piC s) hC false hB
      have : piB s = false := by unfold piB; rw [hD, hB]; rfl
      exact ⟨by unfold piE; rw [if_pos h, this]; rfl, by unfold piV; rw [if_pos h, this]; rfl, by rw [p1]; rfl, rfl, fun x => by rw [p2]; rfl, by rw [c1]; rfl⟩
    · right
      obtain ⟨c1, c2⟩ := pc_of_fits (piC s) hC true hB
      simp only [if_true] at c1 c2 p1 p2
      obtain ⟨hl5, -, a1, a2⟩ := (fits5 (piC s).data.toList).1 hC
      rw [len_at] at hl5 a2
      rw [← ext_list] at a1 a2
      have m1 := numB_bd ((piC s).extract 0 2) 2 (by rw [ByteArray.size_extract]; omega) a1
      have m2 := numB_bd ((piC s).extract 3 (piC s).size) 2 (by rw [ByteArray.size_extract]; omega) a2
      simp only [pcB, decide_eq_true_eq] at hB
      have hh : 0 ≤ pcH (piC s) := m1.1
      have hm : 0 ≤ pcM (piC s) := m2.1
      have hPB : piB s = decide (0 ≤ piT s ∧ piT s < 52596000) := by unfold piB pcB; rw [hD]; simp [hB]
      refine ⟨p1, rfl, p2, c1, c2, by omega, by omega, ?_, ?_⟩
      · unfold piE; rw [if_pos h, hPB]; simp
      · unfold piV; rw [if_pos h, hPB]; simp

set_option maxHeartbeats 2000000 in
theorem pinst_any (s : ByteArray) (w : World) (hs : s.size ≤ 9223372036854775807) :
    Calls Tryd.prog 15 #[.string s] w fun e w' => e = .returned (.tuple #[.int .i64 (piV s), .int .i64 (piE s)]) ∧ Below w.heap.size w w' := by
  cases h : Txt.fits s.data.toList pat16
  · have E : Hid (piE s = 1 ∧ piV s = 0) := by unfold Hid piE piV; rw [h]; simp
    have H := Lib.hid h
    clear h
    go_enter Tryd.func15, Tryd.ntmps15
    go_wp2_with (go_at_call 23; refine (matches_bel _ _ _ _ _ (by rfl) hs (by decide) H.out).mono ?_; rintro e w1 ⟨rfl, hb⟩)
    go_ret2
    exact ⟨by rw [E.out.1, E.out.2]; rfl, hb⟩
  · have hl := ((fits16 s).1 h).1
    have hcs := pi_cases s h
    have H := Lib.hid h
    have b10 : 10 ≤ s.size := by omega
    have b11 : 11 ≤ s.size := by omega
    have zA : Hid ((s.extract 0 10).size ≤ 9223372036854775807) := by unfold Hid; rw [ByteArray.size_extract]; omega
    have zC : Hid ((s.extract 11 s.size).size ≤ 9223372036854775807) := by unfold Hid; rw [ByteArray.size_extract]; omega
    clear h hl
    rcases hcs with ⟨e1, e2, e3⟩ | ⟨e1, e2, e3, e4, e5, e6⟩ | ⟨e3, e4, e5, e6, e7, e8, e9, e1, e2⟩
    · have E : Hid (piE s = 5 ∧ piV s = 0) := ⟨e1, e2⟩
      have E3 : Hid (pdE (s.extract 0 10) = 5) := e3
      clear e1 e2 e3
      go_enter Tryd.func15, Tryd.ntmps15
      go_wp2_with (go_at_call 23; refine (matches_bel _ _ _ _ _ (by rfl) hs (by decide) H.out).mono ?_; rintro e w1 ⟨rfl, hb⟩)
      refine (pdate_any _ _ zA.out).mono ?_
      rw [E3.out]
      rintro e w2 ⟨rfl, hb2⟩
      go_wp2
      go_ret2
      exact ⟨by rw [E.out.1, E.out.2]; rfl, (hb.trans (hb2.mono hb.size)).alloc (by have := hb.size; have := hb2.size; omega) _⟩
    · have E : Hid (piE s = 5 ∧ piV s = 0) := ⟨e1, e2⟩
      have E3 : Hid (pdE (s.extract 0 10) = 0) := e3
      have E6 : Hid (pcE (s.extract 11 s.size) = 5) := e6
      clear e1 e2 e3 e4 e5 e6
      go_enter Tryd.func15, Tryd.ntmps15
      go_wp2_with (go_at_call 23; refine (matches_bel _ _ _ _ _ (by rfl) hs (by decide) H.out).mono ?_; rintro e w1 ⟨rfl, hb⟩)
      refine (pdate_any _ _ zA.out).mono ?_
      rw [E3.out]
      rintro e w2 ⟨rfl, hb2⟩
      go_wp2_with fail
      refine (pclock_any _ _ zC.out).mono ?_
      rw [E6.out]
      rintro e w3 ⟨rfl, hb3⟩
      have B := (hb.trans (hb2.mono hb.size)).trans ((below2 hb3).mono (by have := hb.size; have := hb2.size; omega))
      go_wp2
      go_ret2
      exact ⟨by rw [E.out.1, E.out.2]; rfl, B⟩
    · have E : Hid (piE s = (if 0 ≤ piT s ∧ piT s < 52596000 then 0 else 5) ∧ piV s = (if 0 ≤ piT s ∧ piT s < 52596000 then piT s else 0)) := ⟨e1, e2⟩
      have E3 : Hid (pdE (s.extract 0 10) = 0) := e3
      have E4 : Hid (Cal.vldB (pdY (s.extract 0 10)) (pdM (s.extract 0 10)) (pdD (s.extract 0 10)) = true) := e4
      have E5 : Hid (∀ x, pdV (s.extract 0 10) x = x) := e5
      have E6 : Hid (pcE (s.extract 11 s.size) = 0) := e6
      have c8 : 0 ≤ pcV (s.extract 11 s.size) := e8
      have c9 : pcV (s.extract 11 s.size) ≤ 1439 := e9
      have ET : Hid (piT s = 1440 * Cal.num (pdY (s.extract 0 10)) (pdM (s.extract 0 10)) (pdD (s.extract 0 10)) + pcV (s.extract 11 s.size)) := by
        unfold Hid piT; rw [show pcV (s.extract 11 s.size) = 60 * pcH (piC s) + pcM (piC s) from e7]; rfl
      have nb := Cal.num_bd _ _ _ e4
      have nb1 : -365 ≤ Cal.num (pdY (s.extract 0 10)) (pdM (s.extract 0 10)) (pdD (s.extract 0 10)) := nb.1
      have nb2 : Cal.num (pdY (s.extract 0 10)) (pdM (s.extract 0 10)) (pdD (s.extract 0 10)) ≤ 36889 := nb.2
      clear e1 e2 e3 e4 e5 e6 e7 e8 e9 nb
      go_enter Tryd.func15, Tryd.ntmps15
      go_wp2_with (go_at_call 23; refine (matches_bel _ _ _ _ _ (by rfl) hs (by decide) H.out).mono ?_; rintro e w1 ⟨rfl, hb⟩)
      refine (pdate_any _ _ zA.out).mono ?_
      rw [E3.out, E5.out, E5.out, E5.out]
      rintro e w2 ⟨rfl, hb2⟩
      have BX := Box3.new w2 23 (.int .i64 (pdY (s.extract 0 10))) (.int .i64 (pdM (s.extract 0 10))) (.int .i64 (pdD (s.extract 0 10)))
      have B := hb.trans (hb2.mono hb.size)
      clear hb hb2
      go_wp2_with fail
      refine (pclock_any _ _ zC.out).mono ?_
      rw [E6.out]
      rintro e w3 ⟨rfl, hb3⟩
      replace B := B.trans ((below2 hb3).mono B.size)
      obtain ⟨d0, d1, d2⟩ := BX.next hb3
      clear BX hb3
      go_wp2_with fail
      refine (daynum _ _ _ _ E4.out).mono ?_
      rintro e w4 ⟨rfl, hb4⟩
      replace B := B.trans (hb4.mono B.size)
      clear hb4 d0 d1 d2
      clear zA zC H E3 E4 E5 E6
      generalize Cal.num (pdY (s.extract 0 10)) (pdM (s.extract 0 10)) (pdD (s.extract 0 10)) = N at *
      generalize pcV (s.extract 11 s.size) = C at *
      by_cases t0 : 0 ≤ N * 1440 + C
      · have q0 : decide (N * 1440 + C < 0) = false := by simp; omega
        by_cases t1 : 52596000 ≤ N * 1440 + C
        · have q1 : decide (52596000 ≤ N * 1440 + C) = true := by simp; omega
          have T1 := Lib.hid t1
          clear t0 t1
          go_wp2
          go_ret2
          refine ⟨?_, B⟩
          have q := T1.out
          rw [E.out.1, E.out.2, if_neg (by rw [ET.out]; omega), if_neg (by rw [ET.out]; omega)]; rfl
        · have q1 : decide (52596000 ≤ N * 1440 + C) = false := by simp; omega
          have T0 := Lib.hid t0
          have T1 := Lib.hid t1
          clear t0 t1
          go_wp2
          go_ret2
          refine ⟨?_, B⟩
          have q := T1.out
          have q' := T0.out
          rw [E.out.1, E.out.2, if_pos (by rw [ET.out]; omega), if_pos (by rw [ET.out]; omega), ET.out]
          exact ret_int2 (by omega) rfl
      · have q0 : decide (N * 1440 + C < 0) = true := by simp; omega
        have T0 := Lib.hid t0
        clear t0
        go_wp2
        go_ret2
        refine ⟨?_, B⟩
        have q := T0.out
        rw [E.out.1, E.out.2, if_neg (by rw [ET.out]; omega), if_neg (by rw [ET.out]; omega)]; rfl

end Go.Proofs.YtfdldadjimcciaaDoor
