/-
  The contract of the program's ParseDate.
-/
import Derived.Test.YtfdldadjimcciaaDoorTxtDate
namespace Go.Proofs.YtfdldadjimcciaaDoor
open Go.ChangeShapes Go.WideShapes Go.ChangeAt Go.RowKit

theorem below_drew2 {w w1 : World} {o u : Obj} {n : Nat} (h : Below (((w.alloc o).drewN n).alloc u).heap.size (((w.alloc o).drewN n).alloc u) w1) : Below ((w.alloc o).alloc u).heap.size ((w.alloc o).alloc u) w1 := ⟨h.os, h.tape, h.output, h.size, h.block⟩

set_option maxHeartbeats 2000000 in
theorem pdate_fits (s : ByteArray) (w : World) (h : Txt.fits s.data.toList pat10 = true) :
    Calls Tryd.prog 6 #[.string s] w fun e w' => e = .returned (.tuple #[.agg #[.int .i64 (pdV s (pdY s)), .int .i64 (pdV s (pdM s)), .int .i64 (pdV s (pdD s))], .int .i64 (pdE s)]) ∧ Below w.heap.size w w' := by
  obtain ⟨hl, -, -, h1, h2, h3⟩ := (fits10 _).1 h
  rw [len_at] at hl h3
  rw [← ext_list] at h1 h2 h3
  have E : Hid (pdE s = if Cal.vldB (pdY s) (pdM s) (pdD s) = true then 0 else 5) := by unfold Hid pdE; rw [if_pos h]
  have V : Hid (∀ x, pdV s x = if Cal.vldB (pdY s) (pdM s) (pdD s) = true then x else 0) := by intro x; unfold pdV; simp [h]
  have H := Lib.hid h
  have H1 : Hid (allB (s.extract 0 4) = true) := h1
  have H2 : Hid (allB (s.extract 5 7) = true) := h2
  have H3 : Hid (allB (s.extract 8 s.size) = true) := h3
  have hsz : s.size ≤ 10 := by omega
  have hsz2 : 10 ≤ s.size := by omega
  clear h h1 h2 h3 hl
  have b4 : 4 ≤ s.size := by omega
  have b7 : 7 ≤ s.size := by omega
  have b8 : 8 ≤ s.size := by omega
  have i4 : (4 : Int) ≤ (s.size : Int) := by omega
  have i7 : (7 : Int) ≤ (s.size : Int) := by omega
  have i8 : (8 : Int) ≤ (s.size : Int) := by omega
  have k1 : (s.extract 0 4).size ≤ 11 := by rw [ByteArray.size_extract]; omega
  have k2 : (s.extract 5 7).size ≤ 11 := by rw [ByteArray.size_extract]; omega
  have k3 : (s.extract 8 s.size).size ≤ 11 := by rw [ByteArray.size_extract]; omega
  have K1 := Lib.hid k1
  have K2 := Lib.hid k2
  have K3 := Lib.hid k3
  clear k1 k2 k3
  go_enter Tryd.func6, Tryd.ntmps6
  go_wp2_with (go_at_call 23; refine (matches_lit _ _ _ _ _ (by rfl) (by omega) (by decide) H.out).mono ?_; rintro e w1 ⟨rfl, n, rfl⟩)
  go_region_held3 (fun _ => True) (exact True.intro)
    (first | (go_at_call 24; refine (number_same _ _ (by first | exact K1.out | exact K2.out | exact K3.out) (by first | exact H1.out | exact H2.out | exact H3.out)).mono ?_; rintro e w1 ⟨rfl, rfl⟩))
  all_goals
    cases hv : Cal.vldB (pdY s) (pdM s) (pdD s)
    · have HV := Lib.hid hv
      rw [hv] at E V
      clear hv
      go_wp2_with (go_at_call 25; refine (valid_no _ _ _ _ HV.out).mono ?_; rintro e w3 ⟨rfl, hb0⟩; have hb := below_drew2 hb0; have hz := box2_size hb; obtain ⟨-, c0⟩ := box2_cell hb 0; obtain ⟨-, c1⟩ := box2_cell hb 1; obtain ⟨-, c2⟩ := box2_cell hb 2; obtain ⟨d0, -⟩ := box2_cell hb 0; obtain ⟨d1, -⟩ := box2_cell hb 1; obtain ⟨d2, -⟩ := box2_cell hb 2; obtain ⟨f0, -⟩ := box2_free hb 0; obtain ⟨f1, -⟩ := box2_free hb 1; obtain ⟨f2, -⟩ := box2_free hb 2; simp at c0 c1 c2 d0 d1 d2; clear hb0)
      refine bodyPost_ret (v := .tuple #[.agg #[.int .i64 0, .int .i64 0, .int .i64 0], .int .i64 5]) (by simp [results, Tryd.results6, go_sem, d0, d1, d2]) rfl ⟨?_, (((below3 hb).setCell (Nat.le_refl _) _).setCell (Nat.le_refl _) _).setCell (Nat.le_refl _) _⟩
      rw [E.out, V.out, V.out, V.out]; rfl
    · have HV := Lib.hid hv
      rw [hv] at E V
      clear hv
      go_wp2_with (go_at_call 25; refine (valid_yes _ _ _ _ HV.out).mono ?_; rintro e w3 ⟨rfl, hb0⟩; have hb := below_drew2 hb0; have hz := box2_size hb; obtain ⟨-, c0⟩ := box2_cell hb 0; obtain ⟨-, c1⟩ := box2_cell hb 1; obtain ⟨-, c2⟩ := box2_cell hb 2; obtain ⟨d0, -⟩ := box2_cell hb 0; obtain ⟨d1, -⟩ := box2_cell hb 1; obtain ⟨d2, -⟩ := box2_cell hb 2; obtain ⟨f0, -⟩ := box2_free hb 0; obtain ⟨f1, -⟩ := box2_free hb 1; obtain ⟨f2, -⟩ := box2_free hb 2; simp at c0 c1 c2 d0 d1 d2; clear hb0)
      refine bodyPost_ret (v := .tuple #[.agg #[.int .i64 (numB (s.extract 0 4)), .int .i64 (numB (s.extract 5 7)), .int .i64 (numB (s.extract 8 s.size))], .int .i64 0]) (by simp [results, Tryd.results6, go_sem, d0, d1, d2]) rfl ⟨?_, (((below3 hb).setCell (Nat.le_refl _) _).setCell (Nat.le_refl _) _).setCell (Nat.le_refl _) _⟩
      rw [E.out, V.out, V.out, V.out]; rfl

theorem pdate_any (s : ByteArray) (w : World) (hs : s.size ≤ 9223372036854775807) :
    Calls Tryd.prog 6 #[.string s] w fun e w' => e = .returned (.tuple #[.agg #[.int .i64 (pdV s (pdY s)), .int .i64 (pdV s (pdM s)), .int .i64 (pdV s (pdD s))], .int .i64 (pdE s)]) ∧ Below w.heap.size w w' := by
  cases h : Txt.fits s.data.toList pat10
  · have := pdate_syntax s w hs h
    simpa [pdV, pdE, h] using this
  · exact pdate_fits s w h

end Go.Proofs.YtfdldadjimcciaaDoor
