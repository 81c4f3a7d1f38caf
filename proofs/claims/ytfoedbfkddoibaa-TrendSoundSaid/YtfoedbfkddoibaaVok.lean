/-
  The values of typed expressions keep to their types. No program in sight.
-/
import Derived.Test.YtfoedbfkddoibaaGm
namespace Go.Proofs.Ytfoedbfkddoibaa
set_option linter.unusedVariables false
set_option linter.unusedSimpArgs false
open Go.RowKit
open Go.Deep (BT)

/-- A value of a type. -/
def vok (t v : Int) : Prop := (t = 1 ∨ t = 2 → -1099511627776 ≤ v ∧ v ≤ 1099511627776) ∧ (t = 3 → 0 ≤ v ∧ v ≤ 1439) ∧ (t = 4 → v = 0 ∨ v = 1)
def voks : List Int → List Int → Prop
  | [], [] => True
  | t :: T, v :: V => vok t v ∧ voks T V
  | _, _ => False
theorem voks_len : ∀ {T V : List Int}, voks T V → T.length = V.length
  | [], [], _ => rfl
  | _ :: T, _ :: V, h => by simp [voks_len h.2]
  | [], _ :: _, h => h.elim
  | _ :: _, [], h => h.elim
theorem voks_get : ∀ {T V : List Int}, voks T V → ∀ i, i < T.length → vok (T.getD i 0) (V.getD i 0)
  | [], [], _, i, h => by simp at h
  | t :: T, v :: V, h, 0, _ => h.1
  | t :: T, v :: V, h, i + 1, hi => by simpa using voks_get h.2 i (by simpa using hi)
  | [], _ :: _, h, _, _ => h.elim
  | _ :: _, [], h, _, _ => h.elim
theorem voks_all {T V : List Int} (h : voks T V) (t : Int) (ha : allI T t = true) : ∀ v ∈ V, vok t v := by
  induction T generalizing V with
  | nil => cases V with
    | nil => intro v hv; cases hv
    | cons v V => exact h.elim
  | cons x T ih => cases V with
    | nil => exact h.elim
    | cons v V =>
      unfold allI at ha
      rw [List.all_cons, Bool.and_eq_true] at ha
      intro u hu
      rcases List.mem_cons.1 hu with rfl | hu
      · rw [← eq_of_beq ha.1]; exact h.1
      · exact ih h.2 ha.2 u hu
theorem vok_clamp (t n : Int) (h : t = 1 ∨ t = 2) : vok t (clampI n) := by
  have := clampI_bd n
  exact ⟨fun _ => this, fun q => by omega, fun q => by omega⟩
theorem vok_flag (b : Bool) : vok 4 (flagI b) := ⟨fun q => by omega, fun q => by omega, fun _ => by cases b <;> simp [flagI]⟩
theorem vok_lim (t n : Int) : vok t (limV t n) := by
  unfold limV
  by_cases h3 : t = 3
  · rw [if_pos h3]; exact ⟨fun q => by omega, fun _ => by omega, fun q => by omega⟩
  · rw [if_neg h3]
    by_cases h4 : t = 4
    · rw [if_pos h4, h4]; exact vok_flag _
    · rw [if_neg h4]
      have := clampI_bd n
      exact ⟨fun _ => this, fun q => absurd q h3, fun q => absurd q h4⟩
theorem minL_ok (t : Int) (x : Int) (L : List Int) (hx : vok t x) (h : ∀ y ∈ L, vok t y) : vok t (minL x L) := by
  induction L generalizing x with
  | nil => exact hx
  | cons y l ih =>
    have hy := h y (by simp)
    refine ih _ ?_ (fun z hz => h z (by simp [hz]))
    rcases Int.le_total x y with q | q
    · rw [Int.min_eq_left q]; exact hx
    · rw [Int.min_eq_right q]; exact hy
theorem maxL_ok (t : Int) (x : Int) (L : List Int) (hx : vok t x) (h : ∀ y ∈ L, vok t y) : vok t (maxL x L) := by
  induction L generalizing x with
  | nil => exact hx
  | cons y l ih =>
    have hy := h y (by simp)
    refine ih _ ?_ (fun z hz => h z (by simp [hz]))
    rcases Int.le_total x y with q | q
    · rw [Int.max_eq_right q]; exact hy
    · rw [Int.max_eq_left q]; exact hx
theorem div_ok (t a b : Int) (h : t = 1 ∨ t = 2) : vok t (divV a b) := by
  unfold divV
  split
  · exact ⟨fun _ => by omega, fun q => by omega, fun q => by omega⟩
  · exact vok_clamp t _ h
theorem allI_get {T : List Int} {t : Int} (h : allI T t = true) (i : Nat) (hi : i < T.length) : T.getD i 0 = t := by
  unfold allI at h
  rw [List.all_eq_true] at h
  rw [List.getD_eq_getElem?_getD, List.getElem?_eq_getElem hi]
  exact eq_of_beq (h _ (List.getElem_mem hi))
/-- The arguments of the operators on truth values are truth values. -/
def boolArgs (op : Int) (V : List Int) : Prop := (op = 14 → V.getD 0 0 = 0 ∨ V.getD 0 0 = 1) ∧ (op = 19 → V.getD 0 0 = 0 ∨ V.getD 0 0 = 1) ∧ (op = 20 ∨ op = 21 ∨ op = 22 → (V.getD 0 0 = 0 ∨ V.getD 0 0 = 1) ∧ (V.getD 1 0 = 0 ∨ V.getD 1 0 = 1))
theorem bool_args (op : Int) (n : Int) (T V : List Int) (h : voks T V) (hn : n = T.length) (h7 : 7 ≤ op ∧ op ≤ 22) (ha : argB op n = true) (hr : resT op T ≠ 0) : boolArgs op V := by
  subst hn
  have hg := voks_get h
  refine ⟨fun e => ?_, fun e => ?_, fun e => ?_⟩
  · subst e
    have hl : T.length = 3 := by simp [argB] at ha; omega
    unfold resT at hr
    simp at hr
    exact (hg 0 (by omega)).2.2 (by simpa using hr.1)
  · subst e
    have hl : T.length = 1 := by simp [argB] at ha; omega
    have hc : allI T 4 = true := by
      unfold resT cmpB at hr
      simp at hr
      exact hr
    exact (hg 0 (by omega)).2.2 (allI_get hc 0 (by omega))
  · have hl : T.length = 2 := by
      unfold argB at ha
      rw [if_neg (by omega), if_neg (by omega), if_neg (by omega), if_neg (by omega)] at ha
      simp at ha
      omega
    have hc : allI T 4 = true := by
      have hc2 : cmpB op T = allI T 4 := by unfold cmpB; rw [if_neg (by omega), if_neg (by omega), if_neg (by omega)]
      unfold resT at hr
      rw [if_neg (by omega), if_neg (by omega), if_neg (by omega), if_neg (by omega), if_neg (by omega), if_neg (by omega), if_neg (by omega), hc2] at hr
      by_cases q : allI T 4 = true
      · exact q
      · rw [if_neg q] at hr; exact absurd rfl hr
    exact ⟨(hg 0 (by omega)).2.2 (allI_get hc 0 (by omega)), (hg 1 (by omega)).2.2 (allI_get hc 1 (by omega))⟩
theorem bits01 (a b : Int) (ha : a = 0 ∨ a = 1) (hb : b = 0 ∨ b = 1) : bits .and .i64 a b = min a b ∧ bits .or .i64 a b = max a b ∧ bits .or .i64 (notV a) b = max (1 - a) b ∧ notV a = 1 - a := by
  rcases ha with rfl | rfl <;> rcases hb with rfl | rfl <;> decide
/-- An operator on values of its arguments' types gives a value of its type. -/
theorem op_ok (op : Int) (T V : List Int) (h : voks T V) (h7 : 7 ≤ op ∧ op ≤ 22) (ha : argB op (T.length : Int) = true) (hr : resT op T ≠ 0) : vok (resT op T) (opV op V) := by
  have hB := bool_args op _ T V h rfl h7 ha hr
  have hg := voks_get h
  have hl := voks_len h
  unfold resT at hr ⊢
  rw [if_neg (by omega), if_neg (by omega), if_neg (by omega), if_neg (by omega)] at hr ⊢
  by_cases q1 : op = 7 ∨ op = 8 ∨ op = 9 ∨ op = 12 ∨ op = 13
  · rw [if_pos q1] at hr ⊢
    by_cases q2 : (amtB (T.getD 0 0) && allI T (T.getD 0 0)) = true
    · rw [if_pos q2] at hr ⊢
      rw [Bool.and_eq_true] at q2
      obtain ⟨q3, q4⟩ := q2
      have hA : T.getD 0 0 = 1 ∨ T.getD 0 0 = 2 := by unfold amtB at q3; simpa using q3
      have hV := voks_all h _ q4
      generalize T.getD 0 0 = t at *
      have hpos : 1 ≤ T.length := by
        unfold argB at ha
        (repeat' split at ha) <;> (simp at ha; omega)
      have h0 : vok t (V.getD 0 0) := by
        refine hV _ ?_
        rw [List.getD_eq_getElem?_getD, List.getElem?_eq_getElem (by omega)]
        exact List.getElem_mem _
      have hd : ∀ y ∈ V.drop 1, vok t y := fun y hy => hV y (List.mem_of_mem_drop hy)
      unfold opV
      rcases q1 with e | e | e | e | e <;> subst e
      · simp only [show ¬ (7 : Int) = 14 by decide, show ¬ (7 : Int) = 12 by decide, show ¬ (7 : Int) = 13 by decide, show ¬ (7 : Int) = 15 by decide, if_false, if_true]; exact vok_clamp t _ hA
      · simp only [show ¬ (8 : Int) = 14 by decide, show ¬ (8 : Int) = 12 by decide, show ¬ (8 : Int) = 13 by decide, show ¬ (8 : Int) = 15 by decide, show ¬ (8 : Int) = 7 by decide, show ¬ (8 : Int) = 19 by decide, if_false, cmbV, if_true]; exact vok_clamp t _ hA
      · simp only [show ¬ (9 : Int) = 14 by decide, show ¬ (9 : Int) = 12 by decide, show ¬ (9 : Int) = 13 by decide, show ¬ (9 : Int) = 15 by decide, show ¬ (9 : Int) = 7 by decide, show ¬ (9 : Int) = 19 by decide, show ¬ (9 : Int) = 8 by decide, if_false, cmbV, if_true]; exact vok_clamp t _ hA
      · simp only [show ¬ (12 : Int) = 14 by decide, if_false, if_true]; exact minL_ok t _ _ h0 hd
      · simp only [show ¬ (13 : Int) = 14 by decide, show ¬ (13 : Int) = 12 by decide, if_false, if_true]; exact maxL_ok t _ _ h0 hd
    · rw [if_neg q2] at hr; exact absurd rfl hr
  · rw [if_neg q1] at hr ⊢
    by_cases q2 : op = 10 ∨ op = 11
    · rw [if_pos q2] at hr ⊢
      have hp : prodT op (T.getD 0 0) (T.getD 1 0) = 1 ∨ prodT op (T.getD 0 0) (T.getD 1 0) = 2 := by
        generalize T.getD 0 0 = a at *
        generalize T.getD 1 0 = b at *
        unfold prodT at hr ⊢
        (repeat' split) <;> first | exact .inl rfl | exact .inr rfl | (exfalso; apply hr; (repeat' split) <;> first | rfl | omega)
      generalize prodT op (T.getD 0 0) (T.getD 1 0) = t at *
      unfold opV cmbV
      rcases q2 with e | e <;> subst e
      · simp only [show ¬ (10 : Int) = 14 by decide, show ¬ (10 : Int) = 12 by decide, show ¬ (10 : Int) = 13 by decide, show ¬ (10 : Int) = 15 by decide, show ¬ (10 : Int) = 7 by decide, show ¬ (10 : Int) = 19 by decide, show ¬ (10 : Int) = 8 by decide, show ¬ (10 : Int) = 9 by decide, if_false, if_true]; exact vok_clamp t _ hp
      · simp only [show ¬ (11 : Int) = 14 by decide, show ¬ (11 : Int) = 12 by decide, show ¬ (11 : Int) = 13 by decide, show ¬ (11 : Int) = 15 by decide, show ¬ (11 : Int) = 7 by decide, show ¬ (11 : Int) = 19 by decide, show ¬ (11 : Int) = 8 by decide, show ¬ (11 : Int) = 9 by decide, show ¬ (11 : Int) = 10 by decide, if_false, if_true]; exact div_ok t _ _ hp
    · rw [if_neg q2] at hr ⊢
      by_cases q3 : op = 14
      · rw [if_pos q3] at hr ⊢
        subst q3
        have hl3 : T.length = 3 := by simp [argB] at ha; omega
        by_cases q4 : T.getD 0 0 = 4 ∧ T.getD 1 0 = T.getD 2 0
        · rw [if_pos q4]
          unfold opV
          rw [if_pos rfl]
          split
          · exact hg 1 (by omega)
          · rw [q4.2]; exact hg 2 (by omega)
        · rw [if_neg q4] at hr; exact absurd rfl hr
      · rw [if_neg q3] at hr ⊢
        by_cases q4 : cmpB op T = true
        · rw [if_pos q4]
          have hop : op = 15 ∨ op = 16 ∨ op = 17 ∨ op = 18 ∨ op = 19 ∨ op = 20 ∨ op = 21 ∨ op = 22 := by omega
          unfold opV cmbV
          rcases hop with e | e | e | e | e | e | e | e <;> subst e
          · simp only [show ¬ (15 : Int) = 14 by decide, show ¬ (15 : Int) = 12 by decide, show ¬ (15 : Int) = 13 by decide, if_false, if_true]; exact vok_flag _
          · simp (config := { decide := true }) only [if_false, if_true]; exact vok_flag _
          · simp (config := { decide := true }) only [if_false, if_true]; exact vok_flag _
          · simp (config := { decide := true }) only [if_false, if_true]; exact vok_flag _
          · simp (config := { decide := true }) only [if_false, if_true]
            have h9 := hB.2.1 rfl
            rw [(bits01 _ 0 h9 (.inl rfl)).2.2.2]
            exact ⟨fun q => by omega, fun q => by omega, fun _ => by omega⟩
          · simp (config := { decide := true }) only [if_false, if_true]
            have h9 := hB.2.2 (.inl rfl)
            rw [(bits01 _ _ h9.1 h9.2).1]
            exact ⟨fun q => by omega, fun q => by omega, fun _ => by omega⟩
          · simp (config := { decide := true }) only [if_false, if_true]
            have h9 := hB.2.2 (.inr (.inl rfl))
            rw [(bits01 _ _ h9.1 h9.2).2.1]
            exact ⟨fun q => by omega, fun q => by omega, fun _ => by omega⟩
          · simp (config := { decide := true }) only [if_false, if_true]
            have h9 := hB.2.2 (.inr (.inr rfl))
            rw [(bits01 _ _ h9.1 h9.2).2.2.1]
            exact ⟨fun q => by omega, fun q => by omega, fun _ => by omega⟩
        · rw [if_neg q4] at hr; exact absurd rfl hr

/-- The names' values keep to their types. -/
def NmOk (look : Look) (sc : Int) (nm : ByteArray → Int) : Prop := ∀ s, (nameT look sc s).2 = 0 → vok (nameT look sc s).1 (nm s)
theorem lit_ok (a : Nd) (n : Int) (hw : wfB a n = true) (h6 : a.op ≠ 6) (h7 : ¬ 7 ≤ a.op) (T V : List Int) (nm : ByteArray → Int) : vok (resT a.op T) (ev1 nm a V) := by
  unfold wfB at hw
  simp only [Bool.and_eq_true, decide_eq_true_eq] at hw
  obtain ⟨⟨⟨h1, -⟩, h2⟩, -⟩ := hw
  have hop : a.op = 1 ∨ a.op = 2 ∨ a.op = 3 ∨ a.op = 4 ∨ a.op = 5 := by omega
  unfold numB at h2
  unfold resT ev1
  rcases hop with e | e | e | e | e <;> rw [e] at h2 ⊢ <;> simp (config := { decide := true }) only [if_true, if_false, decide_eq_true_eq] at h2 ⊢
  · exact ⟨fun _ => by omega, fun q => by omega, fun q => by omega⟩
  · exact ⟨fun _ => by omega, fun q => by omega, fun q => by omega⟩
  · exact ⟨fun q => by omega, fun _ => by omega, fun q => by omega⟩
  · exact ⟨fun q => by omega, fun q => by omega, fun _ => .inr rfl⟩
  · exact ⟨fun q => by omega, fun q => by omega, fun _ => .inl rfl⟩
theorem ty_parts (look : Look) (sc : Int) (a : Nd) (k : Fo) (h : (tyT look sc a k).2 = 0) (h6 : a.op ≠ 6) : (tyF look sc k).1 = 0 ∧ resT a.op (tyF look sc k).2 ≠ 0 ∧ (tyT look sc a k).1 = resT a.op (tyF look sc k).2 := by
  unfold tyT at h ⊢
  rw [if_neg h6] at h ⊢
  by_cases q : (tyF look sc k).1 = 0
  · rw [if_pos q] at h ⊢
    by_cases q2 : resT a.op (tyF look sc k).2 = 0
    · rw [if_pos q2] at h; cases h
    · rw [if_neg q2]; exact ⟨q, q2, rfl⟩
  · rw [if_neg q] at h; exact absurd h q
theorem ty_row (look : Look) (sc : Int) (b o : Nat) (a : Nd) (k r : Fo) (h : (tyF look sc (.node b o a k r)).1 = 0) : (tyT look sc a k).2 = 0 ∧ (tyF look sc r).1 = 0 ∧ (tyF look sc (.node b o a k r)).2 = (tyT look sc a k).1 :: (tyF look sc r).2 := by
  rw [tyF_node] at h ⊢
  by_cases h1 : (tyT look sc a k).2 = 0
  · rw [if_pos h1] at h ⊢
    by_cases h2 : (tyF look sc r).1 = 0
    · rw [if_pos h2]; exact ⟨h1, h2, rfl⟩
    · rw [if_neg h2] at h; exact absurd h h2
  · rw [if_neg h1] at h; exact absurd h h1
theorem evF_ok (look : Look) (sc : Int) (nm : ByteArray → Int) (hn : NmOk look sc nm) (T : Fo) (h : (tyF look sc T).1 = 0) (hw : wfT T = true) : voks (tyF look sc T).2 (evF nm T) := by
  induction T with
  | nil => trivial
  | node b o a k r ihk ihr =>
    obtain ⟨h1, h2, h3⟩ := ty_row look sc b o a k r h
    have hw' : ((wfB a (len k) && wfT k) && wfT r) = true := hw
    simp only [Bool.and_eq_true] at hw'
    obtain ⟨⟨w1, w2⟩, w3⟩ := hw'
    rw [h3, evF]
    refine ⟨?_, ihr h2 w3⟩
    by_cases h6 : a.op = 6
    · have e1 : tyT look sc a k = nameT look sc a.name := by unfold tyT; rw [if_pos h6]
      have e2 : ev1 nm a (evF nm k) = nm a.name := by unfold ev1; rw [if_neg (by omega), if_neg (by omega), if_neg (by omega), if_pos h6]
      rw [e1] at h1 ⊢
      rw [e2]
      exact hn _ h1
    · obtain ⟨p1, p2, p3⟩ := ty_parts look sc a k h1 h6
      rw [p3]
      by_cases h7 : 7 ≤ a.op
      · have hb : a.op ≤ 22 := by
          unfold wfB at w1
          simp only [Bool.and_eq_true, decide_eq_true_eq] at w1
          omega
        have ha : argB a.op (len k) = true := by
          unfold wfB at w1
          simp only [Bool.and_eq_true, decide_eq_true_eq] at w1
          exact w1.1.1.2
        have e2 : ev1 nm a (evF nm k) = opV a.op (evF nm k) := by unfold ev1; rw [if_neg (by omega), if_neg (by omega), if_neg (by omega), if_neg h6]
        rw [e2]
        exact op_ok a.op _ _ (ihk p1 w2) ⟨h7, hb⟩ (by rw [tyF_len look sc k p1]; exact ha) p2
      · exact lit_ok a _ w1 h6 h7 _ _ nm
theorem ev_ok (look : Look) (sc : Int) (nm : ByteArray → Int) (hn : NmOk look sc nm) (a : Nd) (k : Fo) (h : (tyT look sc a k).2 = 0) (hw : (wfB a (len k) && wfT k) = true) : vok (tyT look sc a k).1 (ev1 nm a (evF nm k)) := by
  have h9 := evF_ok look sc nm hn (.node 0 0 a k .nil) (by rw [tyF_node, if_pos h]; rfl) (by show ((wfB a (len k) && wfT k) && true) = true; rw [hw]; rfl)
  rw [(ty_row look sc 0 0 a k .nil (by rw [tyF_node, if_pos h]; rfl)).2.2, evF] at h9
  exact h9.1
/-- A constant's value keeps to its type. -/
theorem cval_ok (cs : List Cn) (i : Nat) (ht : (rowT cs i).2 = 0) : vok (rowT cs i).1 (cval cs i) := by
  induction i using Nat.strongRecOn with
  | _ i ih =>
    cases hc : cs[i]? with
    | none =>
      unfold rowT at ht
      rw [tabN, hc, List.getD_eq_getElem?_getD, List.getElem?_append_right (by rw [tabN_len]; omega), tabN_len] at ht
      simp at ht
    | some c =>
      rw [cval_eq cs i c hc ht]
      rw [rowT_eq cs i c hc] at ht ⊢
      unfold oneT at ht ⊢
      by_cases hv : valE c.a c.k = 0
      · rw [if_pos hv] at ht ⊢
        refine ev_ok _ 0 _ ?_ c.a c.k ht (val_ok c.a c.k hv).1
        intro s hs
        have e : nameT (lookT cs (tabN cs i)) 0 s = lookT cs (tabN cs i) s := rfl
        rw [e, lookT_tab] at hs ⊢
        unfold nmC
        cases f : firstIx s cs with
        | none => rw [f] at hs; simp at hs
        | some j =>
          rw [f] at hs
          by_cases hj : j < i
          · simp only [if_pos hj] at hs ⊢
            rw [show (cvN cs i).getD j 0 = cval cs j from cvN_get cs i j hj]
            exact ih j hj hs
          · simp only [if_neg hj] at hs; simp at hs
      · rw [if_neg hv] at ht; exact absurd ht hv
/-- The values of the attributes that are given. -/
theorem place_val (sc : Int) (L : List Av) (s : ByteArray) (i : Nat) (h : placeT sc s = some i) : (valsT sc L).getD i 0 = limV (atS sc s) ((firstAv s L).getD 0) := by
  obtain ⟨-, h2⟩ := at_of_place sc s i h
  unfold valsT
  rw [List.getD_eq_getElem?_getD, List.getElem?_map, h2]
  rfl
theorem nm_ok (cs : List Cn) (sc : Int) (L : List Av) : NmOk (lookT cs (tabN cs cs.length)) sc (nmT sc (valsT sc L) (cvT cs)) := by
  intro s hs
  unfold nameT at hs ⊢
  unfold nmT
  cases q : placeT sc s with
  | some i =>
    obtain ⟨h1, -⟩ := at_of_place sc s i q
    rw [if_pos h1]
    show vok (atS sc s) ((valsT sc L).getD i 0)
    rw [place_val sc L s i q]
    exact vok_lim _ _
  | none =>
    have h1 : ¬ atE sc s = 0 := fun e => place_of_at sc s e q
    rw [if_neg h1, lookT_tab] at hs ⊢
    show vok _ (cvT cs s)
    unfold cvT
    cases f : firstIx s cs with
    | none => rw [f] at hs; simp at hs
    | some j =>
      rw [f] at hs
      have hj := firstIx_lt s cs j f
      simp only [if_pos hj] at hs ⊢
      exact cval_ok cs j hs
/-- What Eval answers keeps to its type. -/
theorem evR_ok (cs : List Cn) (sc : Int) (L : List Av) (a : Nd) (k : Fo) (h : (evR cs sc L a k).2.2 = 0) : vok (evR cs sc L a k).1 (evR cs sc L a k).2.1 ∧ (typeOfT cs sc a k).2 = 0 ∧ knT sc L a k = true ∧ evR cs sc L a k = ((typeOfT cs sc a k).1, ev1 (nmT sc (valsT sc L) (cvT cs)) a (evF (nmT sc (valsT sc L) (cvT cs)) k), 0) := by
  unfold evR at h ⊢
  by_cases h1 : (typeOfT cs sc a k).2 = 0
  · rw [if_neg (by simp [h1])] at h ⊢
    by_cases h2 : knT sc L a k = false
    · rw [if_pos h2] at h; cases h
    · rw [if_neg h2]
      refine ⟨?_, h1, by simpa using h2, rfl⟩
      unfold typeOfT at h1 ⊢
      by_cases hv : valE a k = 0
      · rw [if_pos hv] at h1 ⊢
        exact ev_ok _ sc _ (nm_ok cs sc L) a k h1 (val_ok a k hv).1
      · rw [if_neg hv] at h1; exact absurd h1 hv
  · rw [if_pos h1] at h; exact absurd h h1

end Go.Proofs.Ytfoedbfkddoibaa
