/-
  Plain laws of scanning: words byte by byte, lines of plus signs, a closed line; lists of tokens in memory.
-/
import Derived.Test.YtgcjkfkfdehpcaaGreatTkW
import Derived.Below
namespace Go.Proofs.YtgcjkfkfdehpcaaGreat
set_option linter.unusedVariables false
set_option linter.unusedSimpArgs false
open Go.ChangeShapes Go.WideShapes Go.ChangeAt Go.RowKit

namespace Tk
theorem wl_nil : wl [] = 0 := rfl
theorem wl_cons (c : UInt8) (l : List UInt8) : wl (c :: l) = if inW c = true then wl l + 1 else 0 := by
  unfold wl
  rw [List.takeWhile_cons]
  split <;> simp
theorem wl_step (l : List UInt8) : ∀ j, j ≤ wl l → j < l.length → (inW (l.getD j 0) = true → j + 1 ≤ wl l) ∧ (inW (l.getD j 0) = false → wl l = j) := by
  induction l with
  | nil => intro j _ h; simp at h
  | cons c l ih =>
    intro j hj hl
    rw [wl_cons] at hj ⊢
    cases j with
    | zero =>
      rw [List.getD_cons_zero]
      constructor
      · intro h; rw [if_pos h]; omega
      · intro h; rw [h]; rfl
    | succ j =>
      rw [List.getD_cons_succ]
      by_cases hc : inW c = true
      · rw [if_pos hc] at hj ⊢
        obtain ⟨q1, q2⟩ := ih j (by omega) (by simpa using hl)
        exact ⟨fun h => by have := q1 h; omega, fun h => by rw [q2 h]⟩
      · rw [if_neg hc] at hj; omega
theorem take_wl (l : List UInt8) : l.take (wl l) = l.takeWhile inW := by
  induction l with
  | nil => rfl
  | cons c l ih =>
    rw [wl_cons, List.takeWhile_cons]
    split
    · rw [List.take_succ_cons, ih]
    · rfl
theorem word_bytes (s : ByteArray) (i : Nat) : ∀ b ∈ (s.extract i (i + wl (s.data.toList.drop i))).data.toList, inW b = true := by
  intro b hb
  rw [ext_list, List.drop_take, show i + wl (s.data.toList.drop i) - i = wl (s.data.toList.drop i) by omega, take_wl] at hb
  exact List.all_eq_true.1 List.all_takeWhile b hb
theorem wl_zero (l : List UInt8) (h : inW (l.getD 0 0) = false) : wl l = 0 := by
  cases l with
  | nil => rfl
  | cons c l => rw [wl_cons, show inW c = false from h]; rfl
/-- A line of plus signs with blanks between them, read as far as m of them. -/
theorem scan_plus (s : ByteArray) (n : Nat) (hn : 2 * n ≤ s.size) (h0 : ∀ i, i < n → s.data.toList.getD (2 * i) 0 = 43) (h1 : ∀ i, i < n → s.data.toList.getD (2 * i + 1) 0 = 32) :
    ∀ m, m ≤ n → m ≤ 400 → ∃ D : List T4, D.length = m ∧ scanT s = scan s (s.size - 2 * m) (2 * m) D := by
  intro m
  induction m with
  | zero => intro _ _; exact ⟨[], rfl, rfl⟩
  | succ m ih =>
    intro hm h4
    obtain ⟨D, hD, e⟩ := ih (by omega) (by omega)
    have a0 := h0 m (by omega)
    have a1 := h1 m (by omega)
    have hp := plus_tok s (2 * m) (by omega) a0
    rw [scan_step s (2 * m) D (by omega), a0, if_neg (by decide), if_neg (by decide), hp] at e
    dsimp only at e
    rw [if_neg (by omega), scan_step s (2 * m + 1) _ (by omega), a1, if_neg (by decide), if_pos (by decide)] at e
    refine ⟨_, ?_, e⟩
    simp [hD]
where
  plus_tok (s : ByteArray) (i : Nat) (hi : i < s.size) (h : s.data.toList.getD i 0 = 43) : tokAt s i = (some ⟨5, s.extract i (i + 1), 0⟩, 1) := by
    have hs : sgn (s.data.toList.drop i) = 1 := by
      unfold sgn
      rw [getD_drop, h, if_neg (fun q => absurd q.1 (by decide)), if_pos ⟨by rw [List.length_drop, show s.data.toList.length = s.size from Array.length_toList]; omega, by decide⟩]
    unfold tokAt
    rw [h, if_neg (by decide), hs]
    rfl
end Tk

/-- The cells of a list of tokens. -/
def tkC (D : List Tk.T4) : List Value := D.flatMap fun t => [.int .i64 t.t.kind, .string t.t.text, .int .i64 t.t.num, .int .i64 t.at']
theorem tkC_len (D : List Tk.T4) : (tkC D).length = D.length * 4 := by
  induction D with
  | nil => rfl
  | cons c l ih => simp [tkC] at *; omega
theorem tkC_snoc (D : List Tk.T4) (t : Tk.T4) : tkC (D ++ [t]) = tkC D ++ [.int .i64 t.t.kind, .string t.t.text, .int .i64 t.t.num, .int .i64 t.at'] := by simp [tkC]
theorem tkC_get (D : List Tk.T4) (i : Nat) (t : Tk.T4) (h : D[i]? = some t) : (tkC D)[i * 4]? = some (.int .i64 t.t.kind) ∧ (tkC D)[i * 4 + 1]? = some (.string t.t.text) ∧ (tkC D)[i * 4 + 2]? = some (.int .i64 t.t.num) ∧ (tkC D)[i * 4 + 3]? = some (.int .i64 t.at') := by
  induction D generalizing i with
  | nil => simp at h
  | cons c l ih =>
    have e : tkC (c :: l) = [.int .i64 c.t.kind, .string c.t.text, .int .i64 c.t.num, .int .i64 c.at'] ++ tkC l := by simp [tkC]
    cases i with
    | zero => simp at h; subst h; rw [e]; exact ⟨rfl, rfl, rfl, rfl⟩
    | succ i =>
      have := ih i (by simpa using h)
      rw [e]
      refine ⟨?_, ?_, ?_, ?_⟩
      · rw [show (i + 1) * 4 = 4 + i * 4 by omega, List.getElem?_append_right (by simp)]; simpa using this.1
      · rw [show (i + 1) * 4 + 1 = 4 + (i * 4 + 1) by omega, List.getElem?_append_right (by simp)]; simpa using this.2.1
      · rw [show (i + 1) * 4 + 2 = 4 + (i * 4 + 2) by omega, List.getElem?_append_right (by simp)]; simpa using this.2.2.1
      · rw [show (i + 1) * 4 + 3 = 4 + (i * 4 + 3) by omega, List.getElem?_append_right (by simp)]; simpa using this.2.2.2
/-- A list of tokens in memory. -/
def TkAt (w : World) (D : List Tk.T4) (v : Value) : Prop := ∃ (p : Option Addr) (cap : Nat), v = .slice p D.length cap ∧ D.length ≤ cap ∧ D.length ≤ 2932031007402 ∧ (D ≠ [] → ∃ g O, p = some ⟨g, O, none⟩ ∧ ∀ j u, (tkC D)[j]? = some u → w.cell? ⟨g, O + j, none⟩ = some u)
theorem TkAt.next {w w' : World} {D : List Tk.T4} {v : Value} (h : TkAt w D v) (hb : Below w.heap.size w w') : TkAt w' D v := by
  obtain ⟨p, cap, h1, h2, h3, h4⟩ := h
  refine ⟨p, cap, h1, h2, h3, fun q => ?_⟩
  obtain ⟨g, O, e, hc⟩ := h4 q
  refine ⟨g, O, e, fun j u hu => ?_⟩
  have := hc j u hu
  rw [hb.cell (block_lt_of_cell this)]; exact this
theorem TkAt.get {w : World} {D : List Tk.T4} {p : Option Addr} {n cap : Nat} (h : TkAt w D (.slice p n cap)) {i : Nat} {t : Tk.T4} (hi : D[i]? = some t) : ∃ g O, p = some ⟨g, O, none⟩ ∧
    w.cell? ⟨g, O + i * 4, none⟩ = some (.int .i64 t.t.kind) ∧ w.cell? ⟨g, O + i * 4 + 1, none⟩ = some (.string t.t.text) ∧ w.cell? ⟨g, O + i * 4 + 2, none⟩ = some (.int .i64 t.t.num) ∧ w.cell? ⟨g, O + i * 4 + 3, none⟩ = some (.int .i64 t.at') := by
  obtain ⟨p', cap', h1, h2, h3, h4⟩ := h
  obtain ⟨g, O, e, hc⟩ := h4 (by intro q; rw [q] at hi; simp at hi)
  injection h1 with q1 q2 q3
  obtain ⟨c0, c1, c2, c3⟩ := tkC_get D i t hi
  exact ⟨g, O, q1.trans e, hc _ _ c0, by rw [Nat.add_assoc]; exact hc _ _ c1, by rw [Nat.add_assoc]; exact hc _ _ c2, by rw [Nat.add_assoc]; exact hc _ _ c3⟩
theorem tk_of_own {w : World} {base n : Nat} {v : Value} {D : List Tk.T4} (h : w.ownsRow base 44 4 v n (tkC D)) (hn : n ≤ 2932031007402) : TkAt w D v := by
  have hl := h.1
  rw [tkC_len] at hl
  have hl2 : D.length = n := by omega
  rcases h.2 with ⟨hv, h0⟩ | ⟨g, cap, cur, hv, hcap⟩
  · obtain rfl : D = [] := List.eq_nil_of_length_eq_zero (by omega)
    exact ⟨none, 0, hv, Nat.zero_le _, Nat.zero_le _, fun q => absurd rfl q⟩
  · subst hv
    refine ⟨some ⟨g, 0, none⟩, cap, by rw [hl2], by rw [hl2]; exact hcap.2.2.1, by omega, fun _ => ⟨g, 0, rfl, fun j u hu => ?_⟩⟩
    have hj := (List.getElem?_eq_some_iff.1 hu).1
    rw [tkC_len] at hj
    rw [Nat.zero_add, h.cellAt j (by omega)]
    exact hu
theorem Tryz.infoTk : (Tryz.prog.info? 44).map (fun i => (i.zero, i.size, i.bytes)) = some (some (.agg #[.int .i64 0, .string ⟨#[]⟩, .int .i64 0, .int .i64 0]), 4, 40) := by kernel_rfl

/-- The line of the sanity check. -/
def awS : ByteArray := ⟨#[97, 32, 60, 61, 32, 55, 58, 51, 48, 32, 35, 32, 98]⟩
theorem aw_scan : Tk.scanT awS = ([⟨⟨1, ⟨#[97]⟩, 0⟩, 0⟩, ⟨⟨5, ⟨#[60, 61]⟩, 0⟩, 2⟩, ⟨⟨3, ⟨#[]⟩, 450⟩, 5⟩], 0, 0) := by kernel_rfl

end Go.Proofs.YtgcjkfkfdehpcaaGreat
