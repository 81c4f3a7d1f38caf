/-
  Rows of literals: their form and their values.
  Boxes of four cells.
-/
import Derived.Test.YtfoedbfkddoibaaTrL
import Derived.Test.YtfoedbfkddoibaaTr1
namespace Go.Proofs.Ytfoedbfkddoibaa
section
set_option linter.unusedVariables false
set_option linter.unusedSimpArgs false
open Go.RowKit
open Go.Deep (BT)

theorem lit_form (c : Ch) (h : isLit c = true) (hw : (wfB c.a (len c.k) && wfT c.k) = true) :
    (c.k = .nil ∧ 1 ≤ c.a.op ∧ c.a.op ≤ 5) ∨ ∃ b o a, c.k = .node b o a .nil .nil ∧ c.a.op = 7 ∧ (a.op = 1 ∨ a.op = 2) ∧ 0 ≤ a.num ∧ a.num ≤ 1099511627776 := by
  obtain ⟨b, o, a, k⟩ := c
  dsimp only at hw ⊢
  rw [Bool.and_eq_true] at hw
  obtain ⟨h1, h2, h3, h4⟩ := wf_parts hw.1
  unfold isLit at h
  rw [decide_eq_true_eq] at h
  dsimp only at h
  by_cases h5 : a.op ≤ 5
  · left
    refine ⟨?_, h1.1, h5⟩
    unfold argB at h2
    rw [if_pos (by omega)] at h2
    exact len_zero (by simpa using h2)
  · right
    have h7 : a.op = 7 ∧ (kop ⟨b, o, a, k⟩ = 1 ∨ kop ⟨b, o, a, k⟩ = 2) := by
      rcases h with h | h | h | h | h | h
      · omega
      · omega
      · omega
      · omega
      · omega
      · exact h
    unfold argB at h2
    rw [if_neg (by omega), if_pos (Or.inl h7.1)] at h2
    have hl : len k = 1 := by simp at h2; omega
    cases k with
    | nil => simp [len] at hl
    | node b1 o1 a1 k1 r1 =>
      have hr : r1 = .nil := len_zero (by simp [len] at hl; omega)
      subst hr
      have hk : a1.op = 1 ∨ a1.op = 2 := h7.2
      have hw2 : ((wfB a1 (len k1) && wfT k1) && true) = true := hw.2
      rw [Bool.and_true, Bool.and_eq_true] at hw2
      obtain ⟨g1, g2, g3, g4⟩ := wf_parts hw2.1
      unfold argB at g2
      rw [if_pos (by omega)] at g2
      have hk1 : k1 = .nil := len_zero (by simpa using g2)
      subst hk1
      unfold numB at g3
      rw [if_pos hk, decide_eq_true_eq] at g3
      exact ⟨b1, o1, a1, rfl, h7.1, hk, g3.1, g3.2⟩
theorem lit_ev (nm : ByteArray → Int) (c : Ch) (h : isLit c = true) (hw : (wfB c.a (len c.k) && wfT c.k) = true) : ev1 nm c.a (evF nm c.k) = litV c := by
  rcases lit_form c h hw with ⟨hk, h1, h5⟩ | ⟨b, o, a, hk, h7, ha, h0, hn9⟩
  · unfold ev1 litV
    by_cases q1 : c.a.op = 1 ∨ c.a.op = 2 ∨ c.a.op = 3
    · rw [if_pos q1, if_pos q1]
    · rw [if_neg q1, if_neg q1]
      by_cases q4 : c.a.op = 4
      · rw [if_pos q4, if_pos q4]
      · rw [if_neg q4, if_neg q4, if_pos (by omega), if_pos (by omega)]
  · have e : knum c = a.num := by unfold knum; rw [hk]; rfl
    unfold litV
    rw [e, hk]
    have e2 : evF nm (.node b o a .nil .nil) = [a.num] := by
      rw [evF]
      congr 1
      unfold ev1
      rw [if_pos (by omega)]
    rw [e2]
    unfold ev1
    rw [if_neg (by omega), if_neg (by omega), if_neg (by omega), if_neg (by omega), if_neg (by omega), if_neg (by omega), if_neg (by omega), h7]
    unfold opV
    rw [if_neg (by omega), if_neg (by omega), if_neg (by omega), if_neg (by omega), if_pos rfl]
    show addV 0 (negV a.num) = -a.num
    have hn : negV a.num = -a.num := by unfold negV; rw [IntKind.wrap_i64]; omega
    rw [hn]
    unfold addV clampI
    omega
theorem lits_ok (nm : ByteArray → Int) (k : Fo) (h : (kids k).all isLit = true) (hw : wfT k = true) : LnB k ∧ NamF (fun _ => False) k ∧ evF nm k = (kids k).map litV := by
  induction k with
  | nil => exact ⟨trivial, trivial, rfl⟩
  | node b o a k r ihk ihr =>
    have h' : (isLit ⟨b, o, a, k⟩ && (kids r).all isLit) = true := h
    rw [Bool.and_eq_true] at h'
    have hw' : ((wfB a (len k) && wfT k) && wfT r) = true := hw
    rw [Bool.and_eq_true] at hw'
    obtain ⟨r1, r2, r3⟩ := ihr h'.2 hw'.2
    have hv := lit_ev nm ⟨b, o, a, k⟩ h'.1 hw'.1
    refine ⟨⟨?_, r1⟩, ⟨⟨?_, ?_⟩, r2⟩, ?_⟩
    · rcases lit_form ⟨b, o, a, k⟩ h'.1 hw'.1 with ⟨hk, -⟩ | ⟨b1, o1, a1, hk, -⟩
      · dsimp only at hk; subst hk; exact ⟨by simp [len], trivial⟩
      · dsimp only at hk; subst hk; exact ⟨by simp [len], ⟨by simp [len], trivial⟩, trivial⟩
    · intro q
      rcases lit_form ⟨b, o, a, k⟩ h'.1 hw'.1 with ⟨hk, h1, h5⟩ | ⟨b1, o1, a1, hk, h7, -⟩
      · dsimp only at h5; omega
      · dsimp only at h7; omega
    · rcases lit_form ⟨b, o, a, k⟩ h'.1 hw'.1 with ⟨hk, -⟩ | ⟨b1, o1, a1, hk, h7, ha, -⟩
      · dsimp only at hk; subst hk; trivial
      · dsimp only at hk; subst hk; exact ⟨⟨fun q => by omega, trivial⟩, trivial⟩
    · show ev1 nm a (evF nm k) :: evF nm r = litV ⟨b, o, a, k⟩ :: (kids r).map litV
      rw [hv, r3]
theorem smL_ef (sc : Int) (T : List Int) (k : Fo) (h : smL sc T ((kids k).map ec)) : wfT k = true := by
  have := smL_wf sc h
  rw [← ef_kids, wfT_ef] at this
  exact this
theorem kd_kids (sc : Int) (T : List Int) (k : Fo) (h : smL sc T ((kids k).map ec)) (hT : ∀ t ∈ T, 1 ≤ t ∧ t ≤ 4) (hl : (kids k).all isLit = true) : kdF k = T := by
  have := kdF_sm sc h hT (by rw [all_ec]; exact hl)
  rw [← ef_kids, kd_ef] at this
  exact this
end

section
set_option linter.unusedVariables false
set_option linter.unusedSimpArgs false
open Go.ChangeShapes Go.WideShapes Go.ChangeAt Go.RowKit
open Go.Deep (BT)

/-- A box of four cells that may be written. -/
structure BX4 (w : World) (g : Nat) (v0 v1 v2 v3 : Value) : Prop where
  r0 : w.cell? ⟨g, 0, none⟩ = some v0
  r1 : w.cell? ⟨g, 1, none⟩ = some v1
  r2 : w.cell? ⟨g, 2, none⟩ = some v2
  r3 : w.cell? ⟨g, 3, none⟩ = some v3
  f0 : w.frozen? ⟨g, 0, none⟩ = false
  f1 : w.frozen? ⟨g, 1, none⟩ = false
  f2 : w.frozen? ⟨g, 2, none⟩ = false
  f3 : w.frozen? ⟨g, 3, none⟩ = false
  lt : g < w.heap.size
theorem BX4.next {w w' : World} {g : Nat} {v0 v1 v2 v3 : Value} (h : BX4 w g v0 v1 v2 v3) (hb : Below w.heap.size w w') : BX4 w' g v0 v1 v2 v3 where
  r0 := by rw [hb.cell (p := ⟨g, 0, none⟩) h.lt]; exact h.r0
  r1 := by rw [hb.cell (p := ⟨g, 1, none⟩) h.lt]; exact h.r1
  r2 := by rw [hb.cell (p := ⟨g, 2, none⟩) h.lt]; exact h.r2
  r3 := by rw [hb.cell (p := ⟨g, 3, none⟩) h.lt]; exact h.r3
  f0 := by rw [hb.frozen (p := ⟨g, 0, none⟩) h.lt]; exact h.f0
  f1 := by rw [hb.frozen (p := ⟨g, 1, none⟩) h.lt]; exact h.f1
  f2 := by rw [hb.frozen (p := ⟨g, 2, none⟩) h.lt]; exact h.f2
  f3 := by rw [hb.frozen (p := ⟨g, 3, none⟩) h.lt]; exact h.f3
  lt := Nat.lt_of_lt_of_le h.lt hb.size
theorem BX4.new (w : World) (v0 v1 v2 v3 : Value) (T : TypeId) : BX4 (w.alloc (.cells #[v0, v1, v2, v3] T)) w.heap.size v0 v1 v2 v3 := by
  constructor <;> simp [go_sem]
theorem set4_below {w wx : World} {r : Nat} {a b c d : Value} (hg : Below w.heap.size w wx) (hw : w.heap.size ≤ r) : Below w.heap.size w ((((wx.setCell ⟨r, 0, none⟩ a).setCell ⟨r, 1, none⟩ b).setCell ⟨r, 2, none⟩ c).setCell ⟨r, 3, none⟩ d) :=
  (((hg.setCell hw _).setCell hw _).setCell hw _).setCell hw _
theorem ExAt.set4 {wx : World} {B r : Nat} {c : Ch} {u0 u1 u2 u3 : Value} (h : ChAt wx B c) (hr : r < B) : ChAt ((((wx.setCell ⟨r, 0, none⟩ u0).setCell ⟨r, 1, none⟩ u1).setCell ⟨r, 2, none⟩ u2).setCell ⟨r, 3, none⟩ u3) B c := by
  have g : ∀ (w : World) (i : Nat) (u : Value), w.grownBy (w.setCell ⟨r, i, none⟩ u) (some r) := fun w i u => ⟨rfl, rfl, rfl, by simp [World.setCell], fun k hk hr => Below.heap_setCell _ _ _ _ (fun e => hr (by rw [e]))⟩
  exact h.grown hr ((((g _ _ _).trans (g _ _ _)).trans (g _ _ _)).trans (g _ _ _))
end

end Go.Proofs.Ytfoedbfkddoibaa
