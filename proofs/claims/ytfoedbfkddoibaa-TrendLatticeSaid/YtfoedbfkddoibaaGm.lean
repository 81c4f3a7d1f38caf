/-
  The values of the constants, plain.
  What eval.Eval answers, plain. No program in sight.
-/
import Derived.Test.YtfoedbfkddoibaaEkn
namespace Go.Proofs.Ytfoedbfkddoibaa
section
set_option linter.unusedVariables false
set_option linter.unusedSimpArgs false
open Go.RowKit
open Go.Deep (BT)

/-- A name's value, the first constants' values known. -/
def nmC (cs : List Cn) (V : List Int) (s : ByteArray) : Int := match firstIx s cs with | some i => V.getD i 0 | none => 0
/-- The values of the first n constants; 0 for one that has no type. -/
def cvN (cs : List Cn) : Nat → List Int
  | 0 => []
  | n + 1 => cvN cs n ++ (match cs[n]? with | some c => [if (rowT cs n).2 = 0 then ev1 (nmC cs (cvN cs n)) c.a (evF (nmC cs (cvN cs n)) c.k) else 0] | none => [0])
def cval (cs : List Cn) (i : Nat) : Int := (cvN cs (i + 1)).getD i 0
/-- What a constant's name stands for. -/
def cvT (cs : List Cn) (s : ByteArray) : Int := match firstIx s cs with | some i => cval cs i | none => 0
theorem cvN_len (cs : List Cn) (n : Nat) : (cvN cs n).length = n := by
  induction n with
  | zero => rfl
  | succ n ih => rw [cvN, List.length_append, ih]; cases cs[n]? <;> rfl
theorem cvN_get (cs : List Cn) (n i : Nat) (h : i < n) : (cvN cs n).getD i 0 = cval cs i := by
  induction n with
  | zero => omega
  | succ n ih =>
    by_cases e : i = n
    · subst e; rfl
    · have : (cvN cs (n + 1)).getD i 0 = (cvN cs n).getD i 0 := by
        rw [cvN, List.getD_eq_getElem?_getD, List.getElem?_append_left (by rw [cvN_len]; omega), ← List.getD_eq_getElem?_getD]
      rw [this]; exact ih (by omega)
theorem cval_eq (cs : List Cn) (i : Nat) (c : Cn) (h : cs[i]? = some c) (ht : (rowT cs i).2 = 0) : cval cs i = ev1 (nmC cs (cvN cs i)) c.a (evF (nmC cs (cvN cs i)) c.k) := by
  unfold cval
  rw [cvN, h, List.getD_eq_getElem?_getD, List.getElem?_append_right (by rw [cvN_len]; omega), cvN_len]
  simp [ht]
theorem place0 (s : ByteArray) : placeT 0 s = none := rfl
theorem at0 (s : ByteArray) : atE 0 s = 6 := rfl

/-- A typed expression: each name is an attribute of the scope or an earlier constant that has a type. -/
def ErlQ (cs : List Cn) (sc : Int) (n : Nat) (s : ByteArray) : Prop := atE sc s = 0 ∨ ∃ j, firstIx s cs = some j ∧ j < n ∧ (rowT cs j).2 = 0
theorem name_erl (cs : List Cn) (sc : Int) (n : Nat) (s : ByteArray) (h : (nameT (lookT cs (tabN cs n)) sc s).2 = 0) : ErlQ cs sc n s := by
  unfold nameT at h
  by_cases q : atE sc s = 0
  · exact .inl q
  · rw [if_neg q, lookT_tab] at h
    right
    cases f : firstIx s cs with
    | none => rw [f] at h; simp at h
    | some j =>
      rw [f] at h
      by_cases hj : j < n
      · simp only [if_pos hj] at h; exact ⟨j, rfl, hj, h⟩
      · simp only [if_neg hj] at h; simp at h
theorem names_row (cs : List Cn) (sc : Int) (n : Nat) (T : Fo) (h : (tyF (lookT cs (tabN cs n)) sc T).1 = 0) (hw : wfT T = true) : NamF (ErlQ cs sc n) T := by
  induction T with
  | nil => trivial
  | node b o a k r ihk ihr =>
    rw [tyF_node] at h
    have hw' : ((wfB a (len k) && wfT k) && wfT r) = true := hw
    simp only [Bool.and_eq_true] at hw'
    obtain ⟨⟨w1, w2⟩, w3⟩ := hw'
    by_cases h1 : (tyT (lookT cs (tabN cs n)) sc a k).2 = 0
    · rw [if_pos h1] at h
      have h2 : (tyF (lookT cs (tabN cs n)) sc r).1 = 0 := by
        by_cases q : (tyF (lookT cs (tabN cs n)) sc r).1 = 0
        · exact q
        · rw [if_neg q] at h; exact absurd h q
      refine ⟨⟨fun h6 => ?_, ?_⟩, ihr h2 w3⟩
      · unfold tyT at h1
        rw [if_pos h6] at h1
        exact name_erl cs sc n _ h1
      · by_cases h6 : a.op = 6
        · have hk0 : k = .nil := by
            apply len_zero
            unfold wfB argB at w1
            rw [h6] at w1
            simp at w1
            omega
          subst hk0
          trivial
        · unfold tyT at h1
          rw [if_neg h6] at h1
          refine ihk ?_ w2
          by_cases q : (tyF (lookT cs (tabN cs n)) sc k).1 = 0
          · exact q
          · rw [if_neg q] at h1; exact absurd h1 q
    · rw [if_neg h1] at h; exact absurd h h1
theorem names_expr (cs : List Cn) (sc : Int) (n : Nat) (a : Nd) (k : Fo) (h : (tyT (lookT cs (tabN cs n)) sc a k).2 = 0) (hw : (wfB a (len k) && wfT k) = true) : (a.op = 6 → ErlQ cs sc n a.name) ∧ NamF (ErlQ cs sc n) k := by
  have h9 := names_row cs sc n (.node 0 0 a k .nil) (by rw [tyF_node, if_pos h]; rfl) (by show ((wfB a (len k) && wfT k) && true) = true; rw [hw]; rfl)
  exact h9.1
/-- Names of the same values give the same value. -/
theorem evF_congr {nm nm' : ByteArray → Int} (T : Fo) (h : NamF (fun s => nm s = nm' s) T) : evF nm T = evF nm' T := by
  induction T with
  | nil => rfl
  | node b o a k r ihk ihr =>
    obtain ⟨⟨h1, h2⟩, h3⟩ := h
    rw [evF, evF, ihk h2, ihr h3]
    congr 1
    unfold ev1
    by_cases h6 : a.op = 6
    · rw [h1 h6]
    · rw [if_neg h6, if_neg h6]
theorem ev1_congr {nm nm' : ByteArray → Int} (a : Nd) (k : Fo) (h : a.op = 6 → nm a.name = nm' a.name) (hk : NamF (fun s => nm s = nm' s) k) : ev1 nm a (evF nm k) = ev1 nm' a (evF nm' k) := by
  have h9 := evF_congr (nm := nm) (nm' := nm') (.node 0 0 a k .nil) ⟨⟨h, hk⟩, trivial⟩
  rw [evF, evF] at h9
  exact (List.cons.inj h9).1
theorem namF_mono {Q Q' : ByteArray → Prop} {T : Fo} (h : NamF Q T) (hq : ∀ s, Q s → Q' s) : NamF Q' T := by
  induction T with
  | nil => trivial
  | node b o a k r ihk ihr => exact ⟨⟨fun h6 => hq _ (h.1.1 h6), ihk h.1.2⟩, ihr h.2⟩
/-- A typed constant's value, its names read among all constants. -/
theorem cval_all (cs : List Cn) (i : Nat) (c : Cn) (h : cs[i]? = some c) (ht : (rowT cs i).2 = 0) (vals : List Int) : cval cs i = ev1 (nmT 0 vals (cvT cs)) c.a (evF (nmT 0 vals (cvT cs)) c.k) := by
  rw [cval_eq cs i c h ht]
  have hr := rowT_eq cs i c h
  rw [hr] at ht
  unfold oneT at ht
  by_cases hv : valE c.a c.k = 0
  · rw [if_pos hv] at ht
    have hw : (wfB c.a (len c.k) && wfT c.k) = true := (val_ok c.a c.k hv).1
    obtain ⟨n1, n2⟩ := names_expr cs 0 i c.a c.k ht hw
    have key : ∀ s, ErlQ cs 0 i s → nmC cs (cvN cs i) s = nmT 0 vals (cvT cs) s := by
      intro s hs
      rcases hs with hs | ⟨j, hj, hji, -⟩
      · rw [at0] at hs; cases hs
      · unfold nmC nmT cvT
        rw [place0, hj]
        exact cvN_get cs i j hji
    exact ev1_congr c.a c.k (fun h6 => key _ (n1 h6)) (namF_mono n2 key)
  · rw [if_neg hv] at ht; exact absurd ht hv
end

section
set_option linter.unusedVariables false
set_option linter.unusedSimpArgs false
open Go.RowKit
open Go.Deep (BT)

end

end Go.Proofs.Ytfoedbfkddoibaa
