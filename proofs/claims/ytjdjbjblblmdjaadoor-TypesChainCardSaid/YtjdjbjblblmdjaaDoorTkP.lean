/-
  Plain laws of scanning: words byte by byte, lines of plus signs, a closed line; lists of tokens in memory.
-/
import Derived.Test.YtjdjbjblblmdjaaDoorTkW
import Derived.Below
namespace Go.Proofs.YtjdjbjblblmdjaaDoor
set_option linter.unusedVariables false
set_option linter.unusedSimpArgs false
open Go.ChangeShapes Go.WideShapes Go.ChangeAt Go.RowKit

namespace Tk
theorem wl_cons (c : UInt8) (l : List UInt8) : wl (c :: l) = if inW c = true then wl l + 1 else 0 := by
  unfold wl
  rw [List.takeWhile_cons]
  split <;> simp
theorem wl_step (l : List UInt8) : ∀ j, j ≤ wl l → j < l.length → (inW (l.getD j 0) = true → j + 1 ≤ wl l) ∧ (inW (l.getD j 0) = false → wl l = j) := by
  induction l with
  | nil => intro j _ h; simp at h
  | cons c l ih =>
    intro j hj hl
    rw [wl_cons] at hj ⊢
    cases j with
    | zero =>
      rw [List.getD_cons_zero]
      constructor
      · intro h; rw [if_pos h]; omega
      · intro h; rw [h]; rfl
    | succ j =>
      rw [List.getD_cons_succ]
      by_cases hc : inW c = true
      · rw [if_pos hc] at hj ⊢
        obtain ⟨q1, q2⟩ := ih j (by omega) (by simpa using hl)
        exact ⟨fun h => by have := q1 h; omega, fun h => by rw [q2 h]⟩
      · rw [if_neg hc] at hj; omega
theorem take_wl (l : List UInt8) : l.take (wl l) = l.takeWhile inW := by
  induction l with
  | nil => rfl
  | cons c l ih =>
    rw [wl_cons, List.takeWhile_cons]
    split
    · rw [List.take_succ_cons, ih]
    · rfl
theorem word_bytes (s : ByteArray) (i : Nat) : ∀ b ∈ (s.extract i (i + wl (s.data.toList.drop i))).data.toList, inW b = true := by
  intro b hb
  rw [ext_list, List.drop_take, show i + wl (s.data.toList.drop i) - i = wl (s.data.toList.drop i) by omega, take_wl] at hb
  exact List.all_eq_true.1 List.all_takeWhile b hb
end Tk

/-- The cells of a list of tokens. -/
def tkC (D : List Tk.T4) : List Value := D.flatMap fun t => [.int .i64 t.t.kind, .string t.t.text, .int .i64 t.t.num, .int .i64 t.at']
theorem tkC_len (D : List Tk.T4) : (tkC D).length = D.length * 4 := by
  induction D with
  | nil => rfl
  | cons c l ih => simp [tkC] at *; omega
theorem tkC_snoc (D : List Tk.T4) (t : Tk.T4) : tkC (D ++ [t]) = tkC D ++ [.int .i64 t.t.kind, .string t.t.text, .int .i64 t.t.num, .int .i64 t.at'] := by simp [tkC]
theorem tkC_get (D : List Tk.T4) (i : Nat) (t : Tk.T4) (h : D[i]? = some t) : (tkC D)[i * 4]? = some (.int .i64 t.t.kind) ∧ (tkC D)[i * 4 + 1]? = some (.string t.t.text) ∧ (tkC D)[i * 4 + 2]? = some (.int .i64 t.t.num) ∧ (tkC D)[i * 4 + 3]? = some (.int .i64 t.at') := by
  induction D generalizing i with
  | nil => simp at h
  | cons c l ih =>
    have e : tkC (c :: l) = [.int .i64 c.t.kind, .string c.t.text, .int .i64 c.t.num, .int .i64 c.at'] ++ tkC l := by simp [tkC]
    cases i with
    | zero => simp at h; subst h; rw [e]; exact ⟨rfl, rfl, rfl, rfl⟩
    | succ i =>
      have := ih i (by simpa using h)
      rw [e]
      refine ⟨?_, ?_, ?_, ?_⟩
      · rw [show (i + 1) * 4 = 4 + i * 4 by omega, List.getElem?_append_right (by simp)]; simpa using this.1
      · rw [show (i + 1) * 4 + 1 = 4 + (i * 4 + 1) by omega, List.getElem?_append_right (by simp)]; simpa using this.2.1
      · rw [show (i + 1) * 4 + 2 = 4 + (i * 4 + 2) by omega, List.getElem?_append_right (by simp)]; simpa using this.2.2.1
      · rw [show (i + 1) * 4 + 3 = 4 + (i * 4 + 3) by omega, List.getElem?_append_right (by simp)]; simpa using this.2.2.2
/-- A list of tokens in memory. -/
def TkAt (w : World) (D : List Tk.T4) (v : Value) : Prop := ∃ (p : Option Addr) (cap : Nat), v = .slice p D.length cap ∧ D.length ≤ cap ∧ D.length ≤ 2932031007402 ∧ (D ≠ [] → ∃ g O, p = some ⟨g, O, none⟩ ∧ ∀ j u, (tkC D)[j]? = some u → w.cell? ⟨g, O + j, none⟩ = some u)
theorem TkAt.next {w w' : World} {D : List Tk.T4} {v : Value} (h : TkAt w D v) (hb : Below w.heap.size w w') : TkAt w' D v := by
  obtain ⟨p, cap, h1, h2, h3, h4⟩ := h
  refine ⟨p, cap, h1, h2, h3, fun q => ?_⟩
  obtain ⟨g, O, e, hc⟩ := h4 q
  refine ⟨g, O, e, fun j u hu => ?_⟩
  have := hc j u hu
  rw [hb.cell (block_lt_of_cell this)]; exact this
theorem TkAt.get {w : World} {D : List Tk.T4} {p : Option Addr} {n cap : Nat} (h : TkAt w D (.slice p n cap)) {i : Nat} {t : Tk.T4} (hi : D[i]? = some t) : ∃ g O, p = some ⟨g, O, none⟩ ∧
    w.cell? ⟨g, O + i * 4, none⟩ = some (.int .i64 t.t.kind) ∧ w.cell? ⟨g, O + i * 4 + 1, none⟩ = some (.string t.t.text) ∧ w.cell? ⟨g, O + i * 4 + 2, none⟩ = some (.int .i64 t.t.num) ∧ w.cell? ⟨g, O + i * 4 + 3, none⟩ = some (.int .i64 t.at') := by
  obtain ⟨p', cap', h1, h2, h3, h4⟩ := h
  obtain ⟨g, O, e, hc⟩ := h4 (by intro q; rw [q] at hi; simp at hi)
  injection h1 with q1 q2 q3
  obtain ⟨c0, c1, c2, c3⟩ := tkC_get D i t hi
  exact ⟨g, O, q1.trans e, hc _ _ c0, by rw [Nat.add_assoc]; exact hc _ _ c1, by rw [Nat.add_assoc]; exact hc _ _ c2, by rw [Nat.add_assoc]; exact hc _ _ c3⟩
theorem tk_of_own {w : World} {base n : Nat} {v : Value} {D : List Tk.T4} (h : w.ownsRow base 30 4 v n (tkC D)) (hn : n ≤ 2932031007402) : TkAt w D v := by
  have hl := h.1
  rw [tkC_len] at hl
  have hl2 : D.length = n := by omega
  rcases h.2 with ⟨hv, h0⟩ | ⟨g, cap, cur, hv, hcap⟩
  · obtain rfl : D = [] := List.eq_nil_of_length_eq_zero (by omega)
    exact ⟨none, 0, hv, Nat.zero_le _, Nat.zero_le _, fun q => absurd rfl q⟩
  · subst hv
    refine ⟨some ⟨g, 0, none⟩, cap, by rw [hl2], by rw [hl2]; exact hcap.2.2.1, by omega, fun _ => ⟨g, 0, rfl, fun j u hu => ?_⟩⟩
    have hj := (List.getElem?_eq_some_iff.1 hu).1
    rw [tkC_len] at hj
    rw [Nat.zero_add, h.cellAt j (by omega)]
    exact hu
theorem Tryd.infoTk : (Tryd.prog.info? 30).map (fun i => (i.zero, i.size, i.bytes)) = some (some (.agg #[.int .i64 0, .string ⟨#[]⟩, .int .i64 0, .int .i64 0]), 4, 40) := by kernel_rfl

end Go.Proofs.YtjdjbjblblmdjaaDoor
