/-
  The contract of the reference's ParseDate.
-/
import Derived.Test.YtfdldadjimcciaaDoorTxtDate
namespace Go.Proofs.YtfdldadjimcciaaDoor
set_option linter.unusedVariables false
set_option linter.unusedSimpArgs false
open Go.ChangeShapes Go.WideShapes Go.ChangeAt Go.RowKit

def dgV (s : ByteArray) (a b : Int) : Int := digV s.data.toList a b
def dgB (s : ByteArray) (a b : Int) : Bool := digB s.data.toList a b
theorem digits_same (s : ByteArray) (a b : Int) (w : World) (hs : s.size ≤ 9223372036854775807) (hb : b ≤ 11) :
    Calls Tryd.prog 26 #[.string s, .int .i64 a, .int .i64 b] w fun e w' => e = .returned (.tuple #[.int .i64 (dgV s a b), .bool (dgB s a b)]) ∧ w = w' := digits_any s a b w hs hb
theorem dg_exact (s : ByteArray) (k : Nat) (h : s.size = k) : dgB s k k = allB s ∧ (allB s = true → dgV s k k = numB s) := by
  unfold dgB dgV digB digV allB numB
  rw [len_at, h]
  cases Txt.allD s.data.toList <;> simp

theorem bne_byte (c : UInt8) (k : Nat) : (((c.toNat : Int) != (k : Int)) = true ↔ ¬ c.toNat = k) ∧ (((c.toNat : Int) != (k : Int)) = false ↔ c.toNat = k) := by
  constructor
  · simp [bne_iff_ne]; omega
  · simp [bne_eq_false_iff_eq]; omega

theorem getD_45 (s : ByteArray) (k : Nat) (h : k < s.size) : s.data.toList.getD k 0 = 45 ↔ s[k].toNat = 45 := by
  rw [getD_at s k h]
  exact ⟨fun e => by rw [e]; rfl, fun e => UInt8.toNat_inj.1 e⟩

set_option maxHeartbeats 2000000 in
theorem pdate_ref_syntax (s : ByteArray) (w : World) (hs : s.size ≤ 9223372036854775807) (h : Txt.fits s.data.toList pat10 = false) :
    Calls Tryd.prog 7 #[.string s] w fun e w' => e = .returned (.tuple #[.agg #[.int .i64 0, .int .i64 0, .int .i64 0], .int .i64 1]) ∧ Below w.heap.size w w' := by
  have hn : ¬ (s.data.toList.length = 10 ∧ s.data.toList.getD 4 0 = 45 ∧ s.data.toList.getD 7 0 = 45 ∧ Txt.allD ((s.data.toList.take 4).drop 0) = true ∧ Txt.allD ((s.data.toList.take 7).drop 5) = true ∧ Txt.allD ((s.data.toList.take s.data.toList.length).drop 8) = true) := by
    intro q; rw [(fits10 _).2 q] at h; cases h
  rw [len_at] at hn
  clear h
  by_cases h10 : s.size = 10
  · have l4 : 4 < s.size := by omega
    have l7 : 7 < s.size := by omega
    rw [getD_45 s 4 l4, getD_45 s 7 l7] at hn
    have n10 : ((s.size : Int) != 10) = false := by rw [h10]; rfl
    by_cases h4 : s[4].toNat = 45
    · have b4 : ((s[4].toNat : Int) != 45) = false := by rw [h4]; rfl
      by_cases h7 : s[7].toNat = 45
      · have b7 : ((s[7].toNat : Int) != 45) = false := by rw [h7]; rfl
        have z1 : (s.extract 0 4).size = 4 := by rw [ByteArray.size_extract]; omega
        have z2 : (s.extract 5 7).size = 2 := by rw [ByteArray.size_extract]; omega
        have z3 : (s.extract 8 s.size).size = 2 := by rw [ByteArray.size_extract]; omega
        have hn2 : ¬ (allB (s.extract 0 4) = true ∧ allB (s.extract 5 7) = true ∧ allB (s.extract 8 s.size) = true) := by
          unfold allB; rw [ext_list, ext_list, ext_list]; exact fun q => hn ⟨h10, h4, h7, q⟩
        rw [← (dg_exact _ 4 z1).1, ← (dg_exact _ 2 z2).1, ← (dg_exact _ 2 z3).1] at hn2
        have Z : Hid ((s.extract 0 4).size = 4 ∧ (s.extract 5 7).size = 2 ∧ (s.extract 8 s.size).size = 2) := ⟨z1, z2, z3⟩
        clear z1 z2 z3 hn h4 h7
        have i4 : 4 ≤ s.size := by omega
        have i7 : 7 ≤ s.size := by omega
        have i8 : 8 ≤ s.size := by omega
        have j4 : (4 : Int) < (s.size : Int) := by omega
        have j7 : (7 : Int) < (s.size : Int) := by omega
        clear h10
        rcases h1 : dgB (s.extract 0 4) 4 4 with _ | _ <;> rcases h2 : dgB (s.extract 5 7) 2 2 with _ | _ <;> rcases h3 : dgB (s.extract 8 s.size) 2 2 with _ | _
        all_goals simp [h1, h2, h3] at hn2
        all_goals
          try clear hn2
          go_enter Tryd.func7, Tryd.ntmps7
          go_wp2_with (go_at_call 26; refine (digits_same _ _ _ _ (by first | (rw [Z.out.1]; omega) | (rw [Z.out.2.1]; omega) | (rw [Z.out.2.2]; omega)) (by omega)).mono ?_; rintro e w1 ⟨rfl, rfl⟩)
          exact bodyPost_ret (v := .tuple #[.agg #[.int .i64 0, .int .i64 0, .int .i64 0], .int .i64 1]) (by simp [results, Tryd.results7, go_sem]) rfl ⟨rfl, by repeat (first | exact (Below.refl _ _).alloc (Nat.le_refl _) _ | refine below_drewN ?_ _ | refine Below.setCell ?_ (by simp) _)⟩
      · have b7 : ((s[7].toNat : Int) != 45) = true := by simp; omega
        clear hn h4 h7 h10
        go_enter Tryd.func7, Tryd.ntmps7
        go_wp2
        exact bodyPost_ret (v := .tuple #[.agg #[.int .i64 0, .int .i64 0, .int .i64 0], .int .i64 1]) (by simp [results, Tryd.results7, go_sem]) rfl ⟨rfl, by repeat (first | exact (Below.refl _ _).alloc (Nat.le_refl _) _ | refine below_drewN ?_ _ | refine Below.setCell ?_ (by simp) _)⟩
    · have b4 : ((s[4].toNat : Int) != 45) = true := by simp; omega
      clear hn h4 h10
      go_enter Tryd.func7, Tryd.ntmps7
      go_wp2
      exact bodyPost_ret (v := .tuple #[.agg #[.int .i64 0, .int .i64 0, .int .i64 0], .int .i64 1]) (by simp [results, Tryd.results7, go_sem]) rfl ⟨rfl, by repeat (first | exact (Below.refl _ _).alloc (Nat.le_refl _) _ | refine below_drewN ?_ _ | refine Below.setCell ?_ (by simp) _)⟩
  · have n10 : ((s.size : Int) != 10) = true := by simp; omega
    clear hn h10
    go_enter Tryd.func7, Tryd.ntmps7
    go_wp2
    exact bodyPost_ret (v := .tuple #[.agg #[.int .i64 0, .int .i64 0, .int .i64 0], .int .i64 1]) (by simp [results, Tryd.results7, go_sem]) rfl ⟨rfl, by repeat (first | exact (Below.refl _ _).alloc (Nat.le_refl _) _ | refine below_drewN ?_ _ | refine Below.setCell ?_ (by simp) _)⟩

set_option maxHeartbeats 2000000 in
theorem pdate_ref_fits (s : ByteArray) (w : World) (h : Txt.fits s.data.toList pat10 = true) :
    Calls Tryd.prog 7 #[.string s] w fun e w' => e = .returned (.tuple #[.agg #[.int .i64 (pdV s (pdY s)), .int .i64 (pdV s (pdM s)), .int .i64 (pdV s (pdD s))], .int .i64 (pdE s)]) ∧ Below w.heap.size w w' := by
  obtain ⟨hl, q4, q7, h1, h2, h3⟩ := (fits10 _).1 h
  rw [len_at] at hl h3
  rw [← ext_list] at h1 h2 h3
  have E : Hid (pdE s = if Cal.vldB (pdY s) (pdM s) (pdD s) = true then 0 else 5) := by unfold Hid pdE; rw [if_pos h]
  have V : Hid (∀ x, pdV s x = if Cal.vldB (pdY s) (pdM s) (pdD s) = true then x else 0) := by intro x; unfold pdV; simp [h]
  have l4 : 4 < s.size := by omega
  have l7 : 7 < s.size := by omega
  rw [getD_45 s 4 l4] at q4
  rw [getD_45 s 7 l7] at q7
  have n10 : ((s.size : Int) != 10) = false := by rw [hl]; rfl
  have b4 : ((s[4].toNat : Int) != 45) = false := by rw [q4]; rfl
  have b7 : ((s[7].toNat : Int) != 45) = false := by rw [q7]; rfl
  have z1 : (s.extract 0 4).size = 4 := by rw [ByteArray.size_extract]; omega
  have z2 : (s.extract 5 7).size = 2 := by rw [ByteArray.size_extract]; omega
  have z3 : (s.extract 8 s.size).size = 2 := by rw [ByteArray.size_extract]; omega
  obtain ⟨g1, v1⟩ := dg_exact _ 4 z1
  obtain ⟨g2, v2⟩ := dg_exact _ 2 z2
  obtain ⟨g3, v3⟩ := dg_exact _ 2 z3
  have d1 : dgB (s.extract 0 4) 4 4 = true := g1.trans h1
  have d2 : dgB (s.extract 5 7) 2 2 = true := g2.trans h2
  have d3 : dgB (s.extract 8 s.size) 2 2 = true := g3.trans h3
  have N1 : Hid (dgV (s.extract 0 4) 4 4 = pdY s) := v1 h1
  have N2 : Hid (dgV (s.extract 5 7) 2 2 = pdM s) := v2 h2
  have N3 : Hid (dgV (s.extract 8 s.size) 2 2 = pdD s) := v3 h3
  have Z : Hid ((s.extract 0 4).size = 4 ∧ (s.extract 5 7).size = 2 ∧ (s.extract 8 s.size).size = 2) := ⟨z1, z2, z3⟩
  clear z1 z2 z3 h1 h2 h3 g1 g2 g3 v1 v2 v3 q4 q7 h
  have i4 : 4 ≤ s.size := by omega
  have i7 : 7 ≤ s.size := by omega
  have i8 : 8 ≤ s.size := by omega
  have j4 : (4 : Int) < (s.size : Int) := by omega
  have j7 : (7 : Int) < (s.size : Int) := by omega
  clear hl
  cases hv : Cal.vldB (pdY s) (pdM s) (pdD s)
  · have HV : Hid (Cal.vldB (dgV (s.extract 0 4) 4 4) (dgV (s.extract 5 7) 2 2) (dgV (s.extract 8 s.size) 2 2) = false) := by rw [N1.out, N2.out, N3.out]; exact hv
    rw [hv] at E V
    clear hv
    go_enter Tryd.func7, Tryd.ntmps7
    go_wp2_with (first
      | (go_at_call 26; refine (digits_same _ _ _ _ (by first | (rw [Z.out.1]; omega) | (rw [Z.out.2.1]; omega) | (rw [Z.out.2.2]; omega)) (by omega)).mono ?_; rintro e w1 ⟨rfl, rfl⟩)
      | (go_at_call 27; refine (isdate_no _ _ _ _ HV.out).mono ?_; rintro e w3 ⟨rfl, hb⟩; have hz := box2_size hb; obtain ⟨d0, c0⟩ := box2_cell hb 0; obtain ⟨d1, c1⟩ := box2_cell hb 1; obtain ⟨d2, c2⟩ := box2_cell hb 2; obtain ⟨f0, -⟩ := box2_free hb 0; obtain ⟨f1, -⟩ := box2_free hb 1; obtain ⟨f2, -⟩ := box2_free hb 2; simp at c0 c1 c2 d0 d1 d2))
    refine bodyPost_ret (v := .tuple #[.agg #[.int .i64 0, .int .i64 0, .int .i64 0], .int .i64 5]) (by simp [results, Tryd.results7, go_sem, d0, d1, d2]) rfl ⟨?_, (((below3 hb).setCell (Nat.le_refl _) _).setCell (Nat.le_refl _) _).setCell (Nat.le_refl _) _⟩
    rw [E.out, V.out, V.out, V.out]; rfl
  · have HV : Hid (Cal.vldB (dgV (s.extract 0 4) 4 4) (dgV (s.extract 5 7) 2 2) (dgV (s.extract 8 s.size) 2 2) = true) := by rw [N1.out, N2.out, N3.out]; exact hv
    rw [hv] at E V
    clear hv
    go_enter Tryd.func7, Tryd.ntmps7
    go_wp2_with (first
      | (go_at_call 26; refine (digits_same _ _ _ _ (by first | (rw [Z.out.1]; omega) | (rw [Z.out.2.1]; omega) | (rw [Z.out.2.2]; omega)) (by omega)).mono ?_; rintro e w1 ⟨rfl, rfl⟩)
      | (go_at_call 27; refine (isdate_yes _ _ _ _ HV.out).mono ?_; rintro e w3 ⟨rfl, hb⟩; have hz := box2_size hb; obtain ⟨d0, c0⟩ := box2_cell hb 0; obtain ⟨d1, c1⟩ := box2_cell hb 1; obtain ⟨d2, c2⟩ := box2_cell hb 2; obtain ⟨f0, -⟩ := box2_free hb 0; obtain ⟨f1, -⟩ := box2_free hb 1; obtain ⟨f2, -⟩ := box2_free hb 2; simp at c0 c1 c2 d0 d1 d2))
    refine bodyPost_ret (v := .tuple #[.agg #[.int .i64 (dgV (s.extract 0 4) 4 4), .int .i64 (dgV (s.extract 5 7) 2 2), .int .i64 (dgV (s.extract 8 s.size) 2 2)], .int .i64 0]) (by simp [results, Tryd.results7, go_sem, d0, d1, d2]) rfl ⟨?_, (((below3 hb).setCell (Nat.le_refl _) _).setCell (Nat.le_refl _) _).setCell (Nat.le_refl _) _⟩
    rw [E.out, V.out, V.out, V.out, N1.out, N2.out, N3.out]; rfl

theorem pdate_ref_any (s : ByteArray) (w : World) (hs : s.size ≤ 9223372036854775807) :
    Calls Tryd.prog 7 #[.string s] w fun e w' => e = .returned (.tuple #[.agg #[.int .i64 (pdV s (pdY s)), .int .i64 (pdV s (pdM s)), .int .i64 (pdV s (pdD s))], .int .i64 (pdE s)]) ∧ Below w.heap.size w w' := by
  cases h : Txt.fits s.data.toList pat10
  · have := pdate_ref_syntax s w hs h
    simpa [pdV, pdE, h] using this
  · exact pdate_ref_fits s w h

end Go.Proofs.YtfdldadjimcciaaDoor
