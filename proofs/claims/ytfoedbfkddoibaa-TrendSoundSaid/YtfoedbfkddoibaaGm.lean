/-
  The values of the constants, plain.
  What eval.Eval answers, plain. No program in sight.
-/
import Derived.Test.YtfoedbfkddoibaaEkn
namespace Go.Proofs.Ytfoedbfkddoibaa
section
set_option linter.unusedVariables false
set_option linter.unusedSimpArgs false
open Go.RowKit
open Go.Deep (BT)

/-- A name's value, the first constants' values known. -/
def nmC (cs : List Cn) (V : List Int) (s : ByteArray) : Int := match firstIx s cs with | some i => V.getD i 0 | none => 0
/-- The values of the first n constants; 0 for one that has no type. -/
def cvN (cs : List Cn) : Nat → List Int
  | 0 => []
  | n + 1 => cvN cs n ++ (match cs[n]? with | some c => [if (rowT cs n).2 = 0 then ev1 (nmC cs (cvN cs n)) c.a (evF (nmC cs (cvN cs n)) c.k) else 0] | none => [0])
def cval (cs : List Cn) (i : Nat) : Int := (cvN cs (i + 1)).getD i 0
/-- What a constant's name stands for. -/
def cvT (cs : List Cn) (s : ByteArray) : Int := match firstIx s cs with | some i => cval cs i | none => 0
theorem cvN_len (cs : List Cn) (n : Nat) : (cvN cs n).length = n := by
  induction n with
  | zero => rfl
  | succ n ih => rw [cvN, List.length_append, ih]; cases cs[n]? <;> rfl
theorem cvN_get (cs : List Cn) (n i : Nat) (h : i < n) : (cvN cs n).getD i 0 = cval cs i := by
  induction n with
  | zero => omega
  | succ n ih =>
    by_cases e : i = n
    · subst e; rfl
    · have : (cvN cs (n + 1)).getD i 0 = (cvN cs n).getD i 0 := by
        rw [cvN, List.getD_eq_getElem?_getD, List.getElem?_append_left (by rw [cvN_len]; omega), ← List.getD_eq_getElem?_getD]
      rw [this]; exact ih (by omega)
theorem cval_eq (cs : List Cn) (i : Nat) (c : Cn) (h : cs[i]? = some c) (ht : (rowT cs i).2 = 0) : cval cs i = ev1 (nmC cs (cvN cs i)) c.a (evF (nmC cs (cvN cs i)) c.k) := by
  unfold cval
  rw [cvN, h, List.getD_eq_getElem?_getD, List.getElem?_append_right (by rw [cvN_len]; omega), cvN_len]
  simp [ht]
theorem place0 (s : ByteArray) : placeT 0 s = none := rfl
theorem at0 (s : ByteArray) : atE 0 s = 6 := rfl

/-- The places of names. -/
theorem posN_get (L : List (List UInt8)) (j : Nat) (s : ByteArray) (i : Nat) (h : posN L j s = some i) : L[i]? = some s.data.toList := by
  induction j with
  | zero => cases h
  | succ j ih =>
    unfold posN at h
    by_cases q : L[j]? = some s.data.toList
    · rw [if_pos q] at h; cases h; exact q
    · rw [if_neg q] at h; exact ih h
theorem posN_none (L : List (List UInt8)) (j : Nat) (s : ByteArray) (h : posN L j s = none) : ∀ i, i < j → L[i]? ≠ some s.data.toList := by
  induction j with
  | zero => intro i hi; omega
  | succ j ih =>
    unfold posN at h
    by_cases q : L[j]? = some s.data.toList
    · rw [if_pos q] at h; cases h
    · rw [if_neg q] at h
      intro i hi
      by_cases e : i = j
      · subst e; exact q
      · exact ih h i (by omega)
theorem duty_mem (l : List UInt8) (h : Att.dutyT l ≠ 0) : l ∈ Att.dutyL := by
  rw [← Att.ref_duty] at h
  unfold Att.refT at h
  by_cases q : Att.isIn l Att.dutyL = true
  · exact (Att.isIn_iff _ _).1 q
  · rw [if_neg q] at h; exact absurd rfl h
theorem pair_mem (l : List UInt8) (h : Att.pairT l ≠ 0) : l ∈ Att.pairL := by
  rw [← Att.ref_pair] at h
  unfold Att.refT at h
  by_cases q : Att.isIn l Att.pairL = true
  · exact (Att.isIn_iff _ _).1 q
  · rw [if_neg q] at h; exact absurd rfl h
theorem rest_mem (l : List UInt8) (h : Att.restT l ≠ 0) : l ∈ Att.restL := by
  unfold Att.restT at h
  unfold Att.restL
  simp only [List.mem_append, List.mem_cons, List.not_mem_nil, or_false, List.mem_map]
  by_cases q1 : (l == Att.rest) = true
  · exact .inl (.inl (.inl (eq_of_beq q1)))
  · rw [if_neg q1] at h
    by_cases q2 : (l == Att.nights) = true
    · exact .inl (.inl (.inr (.inl (eq_of_beq q2))))
    · rw [if_neg q2] at h
      by_cases q3 : (l == Att.home) = true
      · exact .inl (.inl (.inr (.inr (eq_of_beq q3))))
      · rw [if_neg q3] at h
        by_cases q4 : Lib.hasPrefix l Att.before = true
        · rw [if_pos q4] at h
          rw [Att.pre_iff] at q4
          refine .inl (.inr ⟨l.drop 7, duty_mem _ h, ?_⟩)
          conv => rhs; rw [← List.take_append_drop 7 l]
          rw [show l.take 7 = Att.before from q4]
        · rw [if_neg q4] at h
          by_cases q5 : Lib.hasPrefix l Att.after = true
          · rw [if_pos q5] at h
            rw [Att.pre_iff] at q5
            refine .inr ⟨l.drop 6, duty_mem _ h, ?_⟩
            conv => rhs; rw [← List.take_append_drop 6 l]
            rw [show l.take 6 = Att.after from q5]
          · rw [if_neg q5] at h; exact absurd rfl h
theorem at_mem (sc : Int) (l : List UInt8) (h : Att.atT sc l ≠ 0) : l ∈ Att.listL sc := by
  unfold Att.atT at h
  unfold Att.listL
  by_cases h1 : sc = 1
  · rw [if_pos h1] at h ⊢; exact duty_mem l h
  · rw [if_neg h1] at h ⊢
    by_cases h2 : sc = 2
    · rw [if_pos h2] at h ⊢; exact rest_mem l h
    · rw [if_neg h2] at h ⊢
      by_cases h3 : sc = 3
      · rw [if_pos h3] at h ⊢; exact pair_mem l h
      · rw [if_neg h3] at h; exact absurd rfl h
theorem mem_at (sc : Int) (l : List UInt8) (h : l ∈ Att.listL sc) : Att.atT sc l ≠ 0 := by
  unfold Att.listL at h
  unfold Att.atT
  by_cases h1 : sc = 1
  · rw [if_pos h1] at h ⊢; revert l; decide
  · rw [if_neg h1] at h ⊢
    by_cases h2 : sc = 2
    · rw [if_pos h2] at h ⊢; revert l; decide
    · rw [if_neg h2] at h ⊢
      by_cases h3 : sc = 3
      · rw [if_pos h3] at h ⊢; revert l; decide
      · rw [if_neg h3] at h; cases h
theorem at_scope (sc : Int) (s : ByteArray) (h : atE sc s = 0) : 1 ≤ sc ∧ sc ≤ 3 := by
  unfold atE atS Att.atT at h
  by_cases h1 : sc = 1
  · omega
  · by_cases h2 : sc = 2
    · omega
    · by_cases h3 : sc = 3
      · omega
      · rw [if_neg h1, if_neg h2, if_neg h3] at h; simp at h
theorem place_of_at (sc : Int) (s : ByteArray) (h : atE sc s = 0) : placeT sc s ≠ none := by
  have hb := at_scope sc s h
  unfold placeT
  rw [if_pos (by omega)]
  intro q
  have hm : s.data.toList ∈ Att.listL sc := by
    apply at_mem
    intro z
    unfold atE atS at h
    rw [if_pos z] at h
    cases h
  obtain ⟨i, hi⟩ := List.getElem?_of_mem hm
  exact posN_none _ _ _ q i (List.getElem?_eq_some_iff.1 hi).1 hi
theorem at_of_place (sc : Int) (s : ByteArray) (i : Nat) (h : placeT sc s = some i) : atE sc s = 0 ∧ (Att.listL sc)[i]? = some s.data.toList := by
  unfold placeT at h
  by_cases hb : 0 ≤ sc ∧ sc < 4
  · rw [if_pos hb] at h
    have h2 := posN_get _ _ _ _ h
    refine ⟨?_, h2⟩
    unfold atE atS
    rw [if_neg (mem_at sc _ (List.mem_of_getElem? h2))]
  · rw [if_neg hb] at h; cases h

/-- A typed expression: each name is an attribute of the scope or an earlier constant that has a type. -/
def ErlQ (cs : List Cn) (sc : Int) (n : Nat) (s : ByteArray) : Prop := atE sc s = 0 ∨ ∃ j, firstIx s cs = some j ∧ j < n ∧ (rowT cs j).2 = 0
theorem name_erl (cs : List Cn) (sc : Int) (n : Nat) (s : ByteArray) (h : (nameT (lookT cs (tabN cs n)) sc s).2 = 0) : ErlQ cs sc n s := by
  unfold nameT at h
  by_cases q : atE sc s = 0
  · exact .inl q
  · rw [if_neg q, lookT_tab] at h
    right
    cases f : firstIx s cs with
    | none => rw [f] at h; simp at h
    | some j =>
      rw [f] at h
      by_cases hj : j < n
      · simp only [if_pos hj] at h; exact ⟨j, rfl, hj, h⟩
      · simp only [if_neg hj] at h; simp at h
theorem names_row (cs : List Cn) (sc : Int) (n : Nat) (T : Fo) (h : (tyF (lookT cs (tabN cs n)) sc T).1 = 0) (hw : wfT T = true) : NamF (ErlQ cs sc n) T := by
  induction T with
  | nil => trivial
  | node b o a k r ihk ihr =>
    rw [tyF_node] at h
    have hw' : ((wfB a (len k) && wfT k) && wfT r) = true := hw
    simp only [Bool.and_eq_true] at hw'
    obtain ⟨⟨w1, w2⟩, w3⟩ := hw'
    by_cases h1 : (tyT (lookT cs (tabN cs n)) sc a k).2 = 0
    · rw [if_pos h1] at h
      have h2 : (tyF (lookT cs (tabN cs n)) sc r).1 = 0 := by
        by_cases q : (tyF (lookT cs (tabN cs n)) sc r).1 = 0
        · exact q
        · rw [if_neg q] at h; exact absurd h q
      refine ⟨⟨fun h6 => ?_, ?_⟩, ihr h2 w3⟩
      · unfold tyT at h1
        rw [if_pos h6] at h1
        exact name_erl cs sc n _ h1
      · by_cases h6 : a.op = 6
        · have hk0 : k = .nil := by
            apply len_zero
            unfold wfB argB at w1
            rw [h6] at w1
            simp at w1
            omega
          subst hk0
          trivial
        · unfold tyT at h1
          rw [if_neg h6] at h1
          refine ihk ?_ w2
          by_cases q : (tyF (lookT cs (tabN cs n)) sc k).1 = 0
          · exact q
          · rw [if_neg q] at h1; exact absurd h1 q
    · rw [if_neg h1] at h; exact absurd h h1
theorem names_expr (cs : List Cn) (sc : Int) (n : Nat) (a : Nd) (k : Fo) (h : (tyT (lookT cs (tabN cs n)) sc a k).2 = 0) (hw : (wfB a (len k) && wfT k) = true) : (a.op = 6 → ErlQ cs sc n a.name) ∧ NamF (ErlQ cs sc n) k := by
  have h9 := names_row cs sc n (.node 0 0 a k .nil) (by rw [tyF_node, if_pos h]; rfl) (by show ((wfB a (len k) && wfT k) && true) = true; rw [hw]; rfl)
  exact h9.1
/-- Names of the same values give the same value. -/
theorem evF_congr {nm nm' : ByteArray → Int} (T : Fo) (h : NamF (fun s => nm s = nm' s) T) : evF nm T = evF nm' T := by
  induction T with
  | nil => rfl
  | node b o a k r ihk ihr =>
    obtain ⟨⟨h1, h2⟩, h3⟩ := h
    rw [evF, evF, ihk h2, ihr h3]
    congr 1
    unfold ev1
    by_cases h6 : a.op = 6
    · rw [h1 h6]
    · rw [if_neg h6, if_neg h6]
theorem ev1_congr {nm nm' : ByteArray → Int} (a : Nd) (k : Fo) (h : a.op = 6 → nm a.name = nm' a.name) (hk : NamF (fun s => nm s = nm' s) k) : ev1 nm a (evF nm k) = ev1 nm' a (evF nm' k) := by
  have h9 := evF_congr (nm := nm) (nm' := nm') (.node 0 0 a k .nil) ⟨⟨h, hk⟩, trivial⟩
  rw [evF, evF] at h9
  exact (List.cons.inj h9).1
theorem namF_mono {Q Q' : ByteArray → Prop} {T : Fo} (h : NamF Q T) (hq : ∀ s, Q s → Q' s) : NamF Q' T := by
  induction T with
  | nil => trivial
  | node b o a k r ihk ihr => exact ⟨⟨fun h6 => hq _ (h.1.1 h6), ihk h.1.2⟩, ihr h.2⟩
/-- A typed constant's value, its names read among all constants. -/
theorem cval_all (cs : List Cn) (i : Nat) (c : Cn) (h : cs[i]? = some c) (ht : (rowT cs i).2 = 0) (vals : List Int) : cval cs i = ev1 (nmT 0 vals (cvT cs)) c.a (evF (nmT 0 vals (cvT cs)) c.k) := by
  rw [cval_eq cs i c h ht]
  have hr := rowT_eq cs i c h
  rw [hr] at ht
  unfold oneT at ht
  by_cases hv : valE c.a c.k = 0
  · rw [if_pos hv] at ht
    have hw : (wfB c.a (len c.k) && wfT c.k) = true := (val_ok c.a c.k hv).1
    obtain ⟨n1, n2⟩ := names_expr cs 0 i c.a c.k ht hw
    have key : ∀ s, ErlQ cs 0 i s → nmC cs (cvN cs i) s = nmT 0 vals (cvT cs) s := by
      intro s hs
      rcases hs with hs | ⟨j, hj, hji, -⟩
      · rw [at0] at hs; cases hs
      · unfold nmC nmT cvT
        rw [place0, hj]
        exact cvN_get cs i j hji
    exact ev1_congr c.a c.k (fun h6 => key _ (n1 h6)) (namF_mono n2 key)
  · rw [if_neg hv] at ht; exact absurd ht hv
/-- Values are Go's ints. -/
theorem ev1_i64 (nm : ByteArray → Int) (hn : ∀ s, i64B (nm s)) (a : Nd) (L : List Int) (ha : i64B a.num) (hL : ∀ x ∈ L, i64B x) : i64B (ev1 nm a L) := by
  unfold ev1
  (repeat' split)
  · exact ha
  · unfold i64B; decide
  · unfold i64B; decide
  · exact hn _
  · exact opV_i64 _ _ hL
theorem evF_i64 (nm : ByteArray → Int) (hn : ∀ s, i64B (nm s)) (T : Fo) (h : FoOk T) : ∀ x ∈ evF nm T, i64B x := by
  induction T with
  | nil => intro x hx; cases hx
  | node b o a k r ihk ihr =>
    obtain ⟨h1, h2, h3⟩ := h
    intro x hx
    rcases List.mem_cons.1 hx with rfl | hx
    · exact ev1_i64 nm hn a _ h1.2.1 (ihk h2)
    · exact ihr h3 x hx
theorem cval_i64 (cs : List Cn) (hcs : CsOk cs) (i : Nat) : i64B (cval cs i) := by
  induction i using Nat.strongRecOn with
  | _ i ih =>
    have z : i64B 0 := by unfold i64B; decide
    cases hc : cs[i]? with
    | none =>
      unfold cval
      rw [cvN, hc, List.getD_eq_getElem?_getD, List.getElem?_append_right (by rw [cvN_len]; omega), cvN_len]
      simpa using z
    | some c =>
      by_cases ht : (rowT cs i).2 = 0
      · rw [cval_eq cs i c hc ht]
        have hok := (hcs c (List.mem_of_getElem? hc)).2
        have hn : ∀ s, i64B (nmC cs (cvN cs i) s) := by
          intro s
          unfold nmC
          cases firstIx s cs with
          | none => exact z
          | some j =>
            by_cases hj : j < i
            · show i64B ((cvN cs i).getD j 0)
              rw [cvN_get cs i j hj]; exact ih j hj
            · show i64B ((cvN cs i).getD j 0)
              rw [List.getD_eq_getElem?_getD, List.getElem?_eq_none (by rw [cvN_len]; omega)]
              exact z
        exact ev1_i64 _ hn _ _ hok.1.2.1 (evF_i64 _ hn _ hok.2)
      · unfold cval
        rw [cvN, hc, List.getD_eq_getElem?_getD, List.getElem?_append_right (by rw [cvN_len]; omega), cvN_len]
        simp only [Nat.sub_self, List.getElem?_cons_zero, Option.getD_some, if_neg ht]
        exact z
theorem cvT_i64 (cs : List Cn) (hcs : CsOk cs) (s : ByteArray) : i64B (cvT cs s) := by
  unfold cvT
  cases firstIx s cs with
  | none => show i64B 0; unfold i64B; decide
  | some j => exact cval_i64 cs hcs j
end

section
set_option linter.unusedVariables false
set_option linter.unusedSimpArgs false
open Go.RowKit
open Go.Deep (BT)

/-- The values of the scope's attributes. -/
def valsT (sc : Int) (L : List Av) : List Int := (Att.listL sc).map fun l => limV (atS sc ⟨l.toArray⟩) ((firstAv ⟨l.toArray⟩ L).getD 0)
/-- What Eval answers: type, number, error. -/
def evR (cs : List Cn) (sc : Int) (L : List Av) (a : Nd) (k : Fo) : Int × Int × Int :=
  if (typeOfT cs sc a k).2 ≠ 0 then (0, 0, (typeOfT cs sc a k).2) else if knT sc L a k = false then (0, 0, 6) else ((typeOfT cs sc a k).1, ev1 (nmT sc (valsT sc L) (cvT cs)) a (evF (nmT sc (valsT sc L) (cvT cs)) k), 0)
theorem limV_i64 (k n : Int) (h : i64B n) : i64B (limV k n) := by
  unfold limV
  (repeat' split)
  · unfold i64B; omega
  · exact flagI_i64 _
  · exact clampI_i64 _
end

end Go.Proofs.Ytfoedbfkddoibaa
