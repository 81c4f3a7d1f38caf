/-
  Parsing inverts formatting: plain facts; and boxes of three cells.
-/
import Derived.Test.YtfdldadjimcciaaDoorTxtFmt
import Derived.Test.YtfdldadjimcciaaDoorTxtClock
namespace Go.Proofs.YtfdldadjimcciaaDoor
set_option linter.unusedVariables false
set_option linter.unusedSimpArgs false
open Go.ChangeShapes Go.WideShapes Go.ChangeAt Go.RowKit

theorem list4 (l : List UInt8) (h : l.length = 4) : ∃ a b c d, l = [a, b, c, d] := by
  match l, h with
  | [a, b, c, d], _ => exact ⟨a, b, c, d, rfl⟩
theorem list2 (l : List UInt8) (h : l.length = 2) : ∃ a b, l = [a, b] := by
  match l, h with
  | [a, b], _ => exact ⟨a, b, rfl⟩
theorem padS_list (n : Int) (k : Nat) : (padS n k).data.toList = Txt.pad n.toNat k := by simp [padS]
theorem app_list (a b : ByteArray) : (a ++ b).data.toList = a.data.toList ++ b.data.toList := by simp
theorem pad_facts (n : Int) (k : Nat) (h0 : 0 ≤ n) (hk : 1 ≤ k) (h1 : n < (10 ^ k : Nat)) : (Txt.pad n.toNat k).length = k ∧ Txt.allD (Txt.pad n.toNat k) = true ∧ Txt.num (Txt.pad n.toNat k) = n := by
  refine ⟨?_, Txt.pad_allD _ _, by rw [Txt.pad_num]; omega⟩
  have := padS_size n k hk h1
  rw [← len_at, padS_list] at this
  exact this

theorem fdS_list (y m d : Int) : (fdS y m d).data.toList = Txt.pad y.toNat 4 ++ [45] ++ Txt.pad m.toNat 2 ++ [45] ++ Txt.pad d.toNat 2 := by
  unfold fdS; rw [app_list, app_list, app_list, app_list, padS_list, padS_list, padS_list]
theorem fdS_size (y m d : Int) (h : Cal.vldB y m d = true) : (fdS y m d).size = 10 := by
  obtain ⟨a1, a2, a3, a4, a5, a6⟩ := (Cal.vld_iff y m d).1 h
  have hd := Cal.dim_bd y m
  have p1 := (pad_facts y 4 (by omega) (by omega) (by omega)).1
  have p2 := (pad_facts m 2 (by omega) (by omega) (by omega)).1
  have p3 := (pad_facts d 2 (by omega) (by omega) (by omega)).1
  rw [← len_at, fdS_list]; simp [p1, p2, p3]
theorem parse_back (y m d : Int) (h : Cal.vldB y m d = true) : Txt.fits (fdS y m d).data.toList pat10 = true ∧ pdY (fdS y m d) = y ∧ pdM (fdS y m d) = m ∧ pdD (fdS y m d) = d := by
  have hz := fdS_size y m d h
  obtain ⟨a1, a2, a3, a4, a5, a6⟩ := (Cal.vld_iff y m d).1 h
  have hd := Cal.dim_bd y m
  obtain ⟨l1, e1, n1⟩ := pad_facts y 4 (by omega) (by omega) (by omega)
  obtain ⟨l2, e2, n2⟩ := pad_facts m 2 (by omega) (by omega) (by omega)
  obtain ⟨l3, e3, n3⟩ := pad_facts d 2 (by omega) (by omega) (by omega)
  obtain ⟨p, q, r, s, hy⟩ := list4 _ l1
  obtain ⟨t, u, hm⟩ := list2 _ l2
  obtain ⟨x, z, hx⟩ := list2 _ l3
  have hl : (fdS y m d).data.toList = [p, q, r, s, 45, t, u, 45, x, z] := by rw [fdS_list, hy, hm, hx]; rfl
  rw [hy] at e1 n1
  rw [hm] at e2 n2
  rw [hx] at e3 n3
  refine ⟨?_, ?_, ?_, ?_⟩
  · rw [fits10, hl]; exact ⟨rfl, rfl, rfl, e1, e2, e3⟩
  · unfold pdY numB; rw [ext_list, hl]; exact n1
  · unfold pdM numB; rw [ext_list, hl]; exact n2
  · unfold pdD numB; rw [ext_list, hl, hz]; exact n3
theorem parse_back_all (y m d : Int) (h : Cal.vldB y m d = true) : pdE (fdS y m d) = 0 ∧ pdV (fdS y m d) (pdY (fdS y m d)) = y ∧ pdV (fdS y m d) (pdM (fdS y m d)) = m ∧ pdV (fdS y m d) (pdD (fdS y m d)) = d := by
  obtain ⟨h1, h2, h3, h4⟩ := parse_back y m d h
  unfold pdE pdV; rw [h1, h2, h3, h4, h]; simp

theorem fcS_list (c : Int) : (fcS c).data.toList = Txt.pad (c / 60).toNat 2 ++ [58] ++ Txt.pad (c % 60).toNat 2 := by
  unfold fcS; rw [app_list, app_list, padS_list, padS_list]
theorem fcS_size (c : Int) (h : fcB c = true) : (fcS c).size = 5 := by
  simp [fcB] at h
  have p1 := (pad_facts (c / 60) 2 (by omega) (by omega) (by omega)).1
  have p2 := (pad_facts (c % 60) 2 (by omega) (by omega) (by omega)).1
  rw [← len_at, fcS_list]; simp [p1, p2]
theorem clock_back (c : Int) (h : fcB c = true) : Txt.fits (fcS c).data.toList pat5 = true ∧ pcH (fcS c) = c / 60 ∧ pcM (fcS c) = c % 60 := by
  have hz := fcS_size c h
  simp [fcB] at h
  obtain ⟨l1, e1, n1⟩ := pad_facts (c / 60) 2 (by omega) (by omega) (by omega)
  obtain ⟨l2, e2, n2⟩ := pad_facts (c % 60) 2 (by omega) (by omega) (by omega)
  obtain ⟨p, q, hp⟩ := list2 _ l1
  obtain ⟨t, u, ht⟩ := list2 _ l2
  have hl : (fcS c).data.toList = [p, q, 58, t, u] := by rw [fcS_list, hp, ht]; rfl
  rw [hp] at e1 n1
  rw [ht] at e2 n2
  refine ⟨?_, ?_, ?_⟩
  · rw [fits5, hl]; exact ⟨rfl, rfl, e1, e2⟩
  · unfold pcH numB; rw [ext_list, hl]; exact n1
  · unfold pcM numB; rw [ext_list, hl, hz]; exact n2
theorem clock_back_all (c : Int) (h : fcB c = true) : pcE (fcS c) = 0 ∧ pcV (fcS c) = c := by
  obtain ⟨h1, h2, h3⟩ := clock_back c h
  have hB : pcB (fcS c) = true := by simp [fcB] at h; unfold pcB; rw [h2, h3]; simp; omega
  unfold pcE pcV; rw [h1, hB, h2, h3]; simp; omega

/-- Three cells of a block. -/
def Box3 (W : World) (b : Nat) (x y z : Value) : Prop := W.cell? ⟨b, 0, none⟩ = some x ∧ W.cell? ⟨b, 1, none⟩ = some y ∧ W.cell? ⟨b, 2, none⟩ = some z
theorem Box3.lt {W : World} {b : Nat} {x y z : Value} (h : Box3 W b x y z) : b < W.heap.size := block_lt_of_cell h.1
theorem Box3.next {W W' : World} {b : Nat} {x y z : Value} (h : Box3 W b x y z) (hb : Below W.heap.size W W') : Box3 W' b x y z :=
  ⟨(hb.cell (p := ⟨b, 0, none⟩) h.lt).trans h.1, (hb.cell (p := ⟨b, 1, none⟩) h.lt).trans h.2.1, (hb.cell (p := ⟨b, 2, none⟩) h.lt).trans h.2.2⟩
theorem Box3.al {W : World} {b : Nat} {x y z : Value} (h : Box3 W b x y z) (o : Obj) : Box3 (W.alloc o) b x y z := h.next ((Below.refl _ _).alloc (Nat.le_refl _) o)
theorem Box3.new (W : World) (T : TypeId) (x y z : Value) : Box3 (W.alloc (.cells #[x, y, z] T)) W.heap.size x y z := by
  refine ⟨?_, ?_, ?_⟩ <;> simp

end Go.Proofs.YtfdldadjimcciaaDoor
