/-
  The contracts of both ParseDates.
-/
import Derived.Test.YtfdldadjimcciaaDoorTxtForms
import Derived.Test.YtfdldadjimcciaaDoorCalProg2
import Derived.StillTailTactics
namespace Go.Proofs.YtfdldadjimcciaaDoor
set_option linter.unusedVariables false
set_option linter.unusedSimpArgs false
open Go.ChangeShapes Go.WideShapes Go.ChangeAt Go.RowKit

def pat10 : List UInt8 := [48, 48, 48, 48, 45, 48, 48, 45, 48, 48]
theorem list10 (l : List UInt8) (h : l.length = 10) : ∃ a b c d e f g i j k, l = [a, b, c, d, e, f, g, i, j, k] := by
  match l, h with
  | [a, b, c, d, e, f, g, i, j, k], _ => exact ⟨a, b, c, d, e, f, g, i, j, k, rfl⟩
theorem list5 (l : List UInt8) (h : l.length = 5) : ∃ a b c d e, l = [a, b, c, d, e] := by
  match l, h with
  | [a, b, c, d, e], _ => exact ⟨a, b, c, d, e, rfl⟩
theorem ext_list (s : ByteArray) (a b : Nat) : (s.extract a b).data.toList = (s.data.toList.take b).drop a := by
  rw [ByteArray.data_extract]; simp [List.extract_eq_take_drop, List.take_drop]
  by_cases h : a ≤ b
  · rw [show a + (b - a) = b from by omega]
  · rw [List.drop_eq_nil_of_le (by simp; omega), List.drop_eq_nil_of_le (by simp; omega)]

theorem fits10 (l : List UInt8) : Txt.fits l pat10 = true ↔ (l.length = 10 ∧ l.getD 4 0 = 45 ∧ l.getD 7 0 = 45 ∧ Txt.allD ((l.take 4).drop 0) = true ∧ Txt.allD ((l.take 7).drop 5) = true ∧ Txt.allD ((l.take l.length).drop 8) = true) := by
  constructor
  · intro h
    have hl := Txt.fits_len _ _ h
    obtain ⟨a, b, c, d, e, f, g, i, j, k, rfl⟩ := list10 l hl
    simp [pat10, Txt.fits, Txt.fitB, Txt.allD] at h ⊢
    exact ⟨h.2.2.2.2.1, h.2.2.2.2.2.2.2.1, ⟨h.1, h.2.1, h.2.2.1, h.2.2.2.1⟩, ⟨h.2.2.2.2.2.1, h.2.2.2.2.2.2.1⟩, h.2.2.2.2.2.2.2.2⟩
  · rintro ⟨hl, h⟩
    obtain ⟨a, b, c, d, e, f, g, i, j, k, rfl⟩ := list10 l hl
    simp [pat10, Txt.fits, Txt.fitB, Txt.allD] at h ⊢
    obtain ⟨h1, h2, ⟨h3, h4, h5, h6⟩, ⟨h7, h8⟩, h9, h10⟩ := h
    exact ⟨h3, h4, h5, h6, h1, h7, h8, h2, h9, h10⟩

theorem matches_lit (s p : ByteArray) (q : List UInt8) (b : Bool) (w : World) (hq : p.data.toList = q) (hs : s.size ≤ 9223372036854775807) (hp : p.size ≤ 100) (h : Txt.fits s.data.toList q = b) :
    Calls Tryd.prog 23 #[.string s, .string p] w fun e w' => e = .returned (.bool b) ∧ ∃ n, w' = w.drewN n := by
  rw [← h, ← hq]; exact matches_any s p w hs (by omega)

/-- Numbers and tests of a text, kept whole: the walk must not take them apart. -/
def numB (s : ByteArray) : Int := Txt.num s.data.toList
def allB (s : ByteArray) : Bool := Txt.allD s.data.toList
def fitS (s : ByteArray) (p : List UInt8) : Bool := Txt.fits s.data.toList p
theorem number_same (s : ByteArray) (w : World) (hs : s.size ≤ 11) (hd : allB s = true) :
    Calls Tryd.prog 24 #[.string s] w fun e w' => e = .returned (.int .i64 (numB s)) ∧ w' = w :=
  (number_any s w hs hd).mono fun _ _ ⟨he, hw⟩ => ⟨he, hw.symm⟩
theorem numB_bd (s : ByteArray) (k : Nat) (hs : s.size ≤ k) (hd : allB s = true) : 0 ≤ numB s ∧ numB s < (10 ^ k : Nat) := by
  have h := Txt.num_bd _ hd
  rw [len_at] at h
  have : 10 ^ s.size ≤ 10 ^ k := Nat.pow_le_pow_right (by omega) hs
  exact ⟨h.1, by unfold numB; omega⟩

def pdY (s : ByteArray) : Int := numB (s.extract 0 4)
def pdM (s : ByteArray) : Int := numB (s.extract 5 7)
def pdD (s : ByteArray) : Int := numB (s.extract 8 s.size)
/-- What both ParseDates return: the error, and the date. -/
def pdE (s : ByteArray) : Int := if Txt.fits s.data.toList pat10 = true then (if Cal.vldB (pdY s) (pdM s) (pdD s) = true then 0 else 5) else 1
def pdV (s : ByteArray) (x : Int) : Int := if Txt.fits s.data.toList pat10 = true ∧ Cal.vldB (pdY s) (pdM s) (pdD s) = true then x else 0

theorem cells3_free {w w1 : World} {xs : Array Value} {T : TypeId} (hb : Below (w.alloc (.cells xs T)).heap.size (w.alloc (.cells xs T)) w1) : w.heap.size < w1.heap.size ∧ w1.frozen? ⟨w.heap.size, 0, none⟩ = false ∧ w1.frozen? ⟨w.heap.size, 1, none⟩ = false ∧ w1.frozen? ⟨w.heap.size, 2, none⟩ = false ∧
    w1.cell? ⟨w.heap.size, 0, none⟩ = xs[0]? ∧ w1.cell? ⟨w.heap.size, 1, none⟩ = xs[1]? ∧ w1.cell? ⟨w.heap.size, 2, none⟩ = xs[2]? :=
  ⟨box_size hb, box_free hb 0, box_free hb 1, box_free hb 2, box_cell hb 0, box_cell hb 1, box_cell hb 2⟩

set_option maxHeartbeats 2000000 in
theorem pdate_syntax (s : ByteArray) (w : World) (hs : s.size ≤ 9223372036854775807) (h : Txt.fits s.data.toList pat10 = false) :
    Calls Tryd.prog 6 #[.string s] w fun e w' => e = .returned (.tuple #[.agg #[.int .i64 0, .int .i64 0, .int .i64 0], .int .i64 1]) ∧ Below w.heap.size w w' := by
  have H := Lib.hid h
  clear h
  go_enter Tryd.func6, Tryd.ntmps6
  go_wp2_with (go_at_call 23; refine (matches_lit _ _ _ _ _ (by rfl) hs (by decide) H.out).mono ?_; rintro e w1 ⟨rfl, n, rfl⟩)
  exact bodyPost_ret (v := .tuple #[.agg #[.int .i64 0, .int .i64 0, .int .i64 0], .int .i64 1]) (by simp [results, Tryd.results6, go_sem]) rfl ⟨rfl, by repeat (first | exact (Below.refl _ _).alloc (Nat.le_refl _) _ | refine below_drewN ?_ _ | refine Below.setCell ?_ (by simp) _)⟩

end Go.Proofs.YtfdldadjimcciaaDoor
