/-
  Trends are sound (plain): the value changes as the trend says.
-/
import Derived.Test.YtfoedbfkddoibaaSnc
namespace Go.Proofs.Ytfoedbfkddoibaa
set_option linter.unusedVariables false
set_option linter.unusedSimpArgs false
open Go.RowKit
open Go.Deep (BT)

theorem prod_ty {op t u : Int} (hp : prodT op t u ≠ 0) : (t = 1 ∨ t = 2) ∧ (u = 1 ∨ u = 2) := by
  unfold prodT at hp
  (repeat' split at hp) <;> first | omega | exact absurd rfl hp
/-- A product or a quotient with a literal. -/
theorem rel_prod (op sc : Int) (k : Fo) (D : List Int) (nm1 nm2 : ByteArray → Int) (ho : op = 10 ∨ op = 11) (h1 : (tyF noL sc k).1 = 0) (hw : wfT k = true) (hl : len k = 2) (hr : resT op (tyF noL sc k).2 ≠ 0) (h : relL D (evF nm1 k) (evF nm2 k)) :
    rel (pOp op (sgF k) D) (opV op (evF nm1 k)) (opV op (evF nm2 k)) := by
  cases k with
  | nil => simp [len] at hl
  | node b1 o1 c1 k1 r1 =>
    cases r1 with
    | nil => simp [len] at hl
    | node b2 o2 c2 k2 r2 =>
      have hr2 : r2 = .nil := len_zero (by simp [len] at hl; exact hl)
      subst hr2
      obtain ⟨t1, t2, t3⟩ := ty_row noL sc b1 o1 c1 k1 _ h1
      obtain ⟨u1, u2, u3⟩ := ty_row noL sc b2 o2 c2 k2 .nil t2
      rw [t3, u3] at hr
      have hp : prodT op (tyT noL sc c1 k1).1 (tyT noL sc c2 k2).1 ≠ 0 := by
        rcases ho with rfl | rfl
        · rw [← res_mul _ _ hr]; exact hr
        · rw [← res_div _ _ hr]; exact hr
      obtain ⟨y1, y2⟩ := prod_ty hp
      have hw' : ((wfB c1 (len k1) && wfT k1) && wfT (BT.node b2 o2 c2 k2 .nil)) = true := hw
      rw [Bool.and_eq_true] at hw'
      have hw2 : ((wfB c2 (len k2) && wfT k2) && true) = true := hw'.2
      rw [Bool.and_true] at hw2
      obtain ⟨s1, s1'⟩ := sign_lit sc c1 k1 t1 y1 hw'.1
      obtain ⟨s2, s2'⟩ := sign_lit sc c2 k2 u1 y2 hw2
      have l1 := fun nm q => li_ev nm c1 k1 q hw'.1
      have l2 := fun nm q => li_ev nm c2 k2 q hw2
      have e : ∀ nm, evF nm (BT.node b1 o1 c1 k1 (BT.node b2 o2 c2 k2 .nil)) = [ev1 nm c1 (evF nm k1), ev1 nm c2 (evF nm k2)] := fun nm => rfl
      rw [e nm1, e nm2] at h ⊢
      obtain ⟨d, f, rfl, ⟨rd, hd⟩, rf, hf⟩ := rel2 h
      have g0 : (sgF (BT.node b1 o1 c1 k1 (BT.node b2 o2 c2 k2 .nil))).getD 0 (0, false) = sg1 c1 (sgF k1) (opF k1) := rfl
      have g1 : (sgF (BT.node b1 o1 c1 k1 (BT.node b2 o2 c2 k2 .nil))).getD 1 (0, false) = sg1 c2 (sgF k2) (opF k2) := rfl
      rcases ho with rfl | rfl
      · show rel (if ((sgF (BT.node b1 o1 c1 k1 (BT.node b2 o2 c2 k2 .nil))).getD 0 (0, false)).2 = true then scE f ((sgF (BT.node b1 o1 c1 k1 (BT.node b2 o2 c2 k2 .nil))).getD 0 (0, false)).1 else if ((sgF (BT.node b1 o1 c1 k1 (BT.node b2 o2 c2 k2 .nil))).getD 1 (0, false)).2 = true then scE d ((sgF (BT.node b1 o1 c1 k1 (BT.node b2 o2 c2 k2 .nil))).getD 1 (0, false)).1 else 3)
          (mulV (ev1 nm1 c1 (evF nm1 k1)) (ev1 nm1 c2 (evF nm1 k2))) (mulV (ev1 nm2 c1 (evF nm2 k1)) (ev1 nm2 c2 (evF nm2 k2)))
        rw [g0, g1]
        by_cases q1 : (sg1 c1 (sgF k1) (opF k1)).2 = true
        · have q1' : (li1 c1 k1).2 = true := by rw [← s1]; exact q1
          rw [if_pos q1, s1' q1', l1 nm1 q1', l1 nm2 q1', mulV_comm _ (ev1 nm1 c2 _), mulV_comm _ (ev1 nm2 c2 _)]
          exact rel_mul hf rf
        · rw [if_neg q1]
          by_cases q2 : (sg1 c2 (sgF k2) (opF k2)).2 = true
          · have q2' : (li1 c2 k2).2 = true := by rw [← s2]; exact q2
            rw [if_pos q2, s2' q2', l2 nm1 q2', l2 nm2 q2']
            exact rel_mul hd rd
          · rw [if_neg q2]; exact rel_mix _ _
      · show rel (if ((sgF (BT.node b1 o1 c1 k1 (BT.node b2 o2 c2 k2 .nil))).getD 1 (0, false)).2 = true then scE d ((sgF (BT.node b1 o1 c1 k1 (BT.node b2 o2 c2 k2 .nil))).getD 1 (0, false)).1 else 3)
          (divV (ev1 nm1 c1 (evF nm1 k1)) (ev1 nm1 c2 (evF nm1 k2))) (divV (ev1 nm2 c1 (evF nm2 k1)) (ev1 nm2 c2 (evF nm2 k2)))
        rw [g1]
        by_cases q2 : (sg1 c2 (sgF k2) (opF k2)).2 = true
        · have q2' : (li1 c2 k2).2 = true := by rw [← s2]; exact q2
          rw [if_pos q2, s2' q2', l2 nm1 q2', l2 nm2 q2']
          exact rel_div hd rd
        · rw [if_neg q2]; exact rel_mix _ _
theorem one_of {V : List Int} (h : V.length = 1) : ∃ x, V = [x] := by
  match V, h with
  | [x], _ => exact ⟨x, rfl⟩
theorem three_of {V : List Int} (h : V.length = 3) : ∃ x y z, V = [x, y, z] := by
  match V, h with
  | [x, y, z], _ => exact ⟨x, y, z, rfl⟩
theorem rel_op (op sc : Int) (k : Fo) (D : List Int) (nm1 nm2 : ByteArray → Int) (hn1 : NmOk noL sc nm1) (hn2 : NmOk noL sc nm2) (h7 : 7 ≤ op ∧ op ≤ 22) (h1 : (tyF noL sc k).1 = 0) (hw : wfT k = true) (ha : argB op (len k) = true) (hr : resT op (tyF noL sc k).2 ≠ 0) (h : relL D (evF nm1 k) (evF nm2 k)) :
    rel (pOp op (sgF k) D) (opV op (evF nm1 k)) (opV op (evF nm2 k)) := by
  have v1 := evF_ok noL sc nm1 hn1 k h1 hw
  have v2 := evF_ok noL sc nm2 hn2 k h1 hw
  have hTl : (tyF noL sc k).2.length = len k := tyF_len noL sc k h1
  have e1 := evF_len nm1 k
  have e2 := evF_len nm2 k
  obtain ⟨lD, -⟩ := relL_len1 h
  by_cases q1 : op = 10 ∨ op = 11
  · exact rel_prod op sc k D nm1 nm2 q1 h1 hw (by rcases q1 with rfl | rfl <;> (simp [argB] at ha; omega)) hr h
  by_cases q2 : op = 8 ∨ op = 20 ∨ op = 21 ∨ op = 9 ∨ op = 22 ∨ op = 16 ∨ op = 17
  · exact rel_two op _ D _ _ v1 v2 hr (by rw [hTl]; rcases q2 with rfl | rfl | rfl | rfl | rfl | rfl | rfl <;> (simp [argB] at ha; omega)) h q2 _
  by_cases q3 : op = 7 ∨ op = 19
  · have hl : len k = 1 := by rcases q3 with rfl | rfl <;> (simp [argB] at ha; omega)
    obtain ⟨t, hT⟩ := one_of (V := (tyF noL sc k).2) (by rw [hTl]; exact hl)
    obtain ⟨x, hx⟩ := one_of (V := evF nm1 k) (by rw [e1]; exact hl)
    obtain ⟨y, hy⟩ := one_of (V := evF nm2 k) (by rw [e2]; exact hl)
    obtain ⟨d, rfl⟩ := one_of (V := D) (by rw [lD, e1]; exact hl)
    rw [hT] at v1 v2 hr
    rw [hx] at v1 h ⊢
    rw [hy] at v2 h ⊢
    obtain ⟨⟨rd, hd⟩, -⟩ := h
    rcases q3 with rfl | rfl
    · have ht : t = 1 ∨ t = 2 := by
        have h9 : resT 7 [t] = if (amtB t && allI [t] t) = true then t else 0 := rfl
        rw [h9] at hr
        by_cases q : (amtB t && allI [t] t) = true
        · rw [Bool.and_eq_true] at q
          have := q.1
          unfold amtB at this
          simpa using this
        · rw [if_neg q] at hr; exact absurd rfl hr
      show rel (ivE d) (clampI (0 + negV x)) (clampI (0 + negV y))
      rw [negV_am (v1.1.1 ht), negV_am (v2.1.1 ht)]
      exact rel_iv hd rd (fun e => by rw [e]) (fun e => clampI_mono (by omega)) (fun e => clampI_mono (by omega))
    · obtain ⟨rfl, -⟩ := res_not t hr
      show rel (ivE d) (notV x) (notV y)
      have a1 := v1.1.2.2 rfl
      have a2 := v2.1.2.2 rfl
      refine rel_iv hd rd (fun e => by rw [e]) ?_ ?_ <;> (rcases a1 with rfl | rfl <;> rcases a2 with rfl | rfl <;> decide)
  by_cases q4 : op = 12 ∨ op = 13
  · have hl : 2 ≤ len k := by rcases q4 with rfl | rfl <;> (simp [argB] at ha; omega)
    obtain ⟨x, V, hx⟩ : ∃ x V, evF nm1 k = x :: V := by
      cases hv : evF nm1 k with
      | nil => rw [hv] at e1; simp at e1; omega
      | cons x V => exact ⟨x, V, rfl⟩
    obtain ⟨y, W, hy⟩ : ∃ y W, evF nm2 k = y :: W := by
      cases hv : evF nm2 k with
      | nil => rw [hv] at e2; simp at e2; omega
      | cons x V => exact ⟨x, V, rfl⟩
    rw [hx, hy] at h ⊢
    cases D with
    | nil => exact h.elim
    | cons d D' =>
      obtain ⟨⟨rd, hd⟩, hD⟩ := h
      have f : fold3 (d :: D') = D'.foldl cbE d := by show D'.foldl cbE (cbE 0 d) = _; rw [cb_zero rd]
      rcases q4 with rfl | rfl
      · show rel (fold3 (d :: D')) (minL x V) (minL y W)
        rw [f]; exact fold_min d x y hD rd hd
      · show rel (fold3 (d :: D')) (maxL x V) (maxL y W)
        rw [f]; exact fold_max d x y hD rd hd
  by_cases q5 : op = 14
  · subst q5
    have hl : len k = 3 := by simp [argB] at ha; omega
    obtain ⟨x0, x1, x2, hx⟩ := three_of (V := evF nm1 k) (by rw [e1]; exact hl)
    obtain ⟨y0, y1, y2, hy⟩ := three_of (V := evF nm2 k) (by rw [e2]; exact hl)
    obtain ⟨d0, d1, d2, rfl⟩ := three_of (V := D) (by rw [lD, e1]; exact hl)
    rw [hx, hy] at h ⊢
    obtain ⟨⟨r0, h0⟩, ⟨r1, h1'⟩, ⟨r2, h2⟩, -⟩ := h
    show rel (if d0 = 0 then cbE d1 d2 else 3) (if x0 ≠ 0 then x1 else x2) (if y0 ≠ 0 then y1 else y2)
    by_cases q : d0 = 0
    · rw [if_pos q, h0.1 q]
      by_cases z : y0 ≠ 0
      · rw [if_pos z, if_pos z]; exact rel_left h1' r1 r2
      · rw [if_neg z, if_neg z]; exact rel_right h2 r1 r2
    · rw [if_neg q]; exact rel_mix _ _
  have e : pOp op (sgF k) D = 3 := by
    unfold pOp
    rw [if_neg q3, if_neg (by omega), if_neg (by omega), if_neg (by omega), if_neg (by omega), if_neg (by omega), if_neg q5]
  rw [e]
  exact rel_mix _ _
/-- The value of an expression without constants' names changes as its trend says. -/
theorem sound (name : ByteArray) (clk : Bool) (sc : Int) (nm1 nm2 : ByteArray → Int) (hn1 : NmOk noL sc nm1) (hn2 : NmOk noL sc nm2) (ho : ∀ s, atE sc s = 0 → s ≠ name → nm1 s = nm2 s) (hup : clk = false → nm1 name ≤ nm2 name) (T : Fo) (h : (tyF noL sc T).1 = 0) (hw : wfT T = true) :
    relL (pTF name clk T) (evF nm1 T) (evF nm2 T) := by
  induction T with
  | nil => trivial
  | node b o a k r ihk ihr =>
    obtain ⟨h1, h2, h3⟩ := ty_row noL sc b o a k r h
    have hw' : ((wfB a (len k) && wfT k) && wfT r) = true := hw
    rw [Bool.and_eq_true] at hw'
    have hwk := hw'.1
    rw [Bool.and_eq_true] at hwk
    obtain ⟨w1, w2, w3, w4⟩ := wf_parts hwk.1
    show (tr3 (pT1 name clk a (sgF k) (pTF name clk k)) ∧ rel (pT1 name clk a (sgF k) (pTF name clk k)) (ev1 nm1 a (evF nm1 k)) (ev1 nm2 a (evF nm2 k))) ∧ relL (pTF name clk r) (evF nm1 r) (evF nm2 r)
    refine ⟨?_, ihr h2 hw'.2⟩
    by_cases h6 : a.op = 6
    · have e1 : pT1 name clk a (sgF k) (pTF name clk k) = nameE name clk a.name := by unfold pT1; rw [if_pos h6]
      have e2 : ∀ nm L, ev1 nm a L = nm a.name := fun nm L => by unfold ev1; rw [if_neg (by omega), if_neg (by omega), if_neg (by omega), if_pos h6]
      rw [e1, e2, e2]
      refine ⟨name_rng _ _ _, ?_⟩
      have hat : atE sc a.name = 0 := by
        unfold tyT nameT at h1
        rw [if_pos h6] at h1
        by_cases q : atE sc a.name = 0
        · exact q
        · rw [if_neg q] at h1; cases h1
      unfold nameE
      by_cases hs : a.name ≠ name
      · rw [if_pos hs]; exact rel_eq (ho _ hat hs)
      · rw [if_neg hs]
        have hs' : a.name = name := Classical.byContradiction hs
        cases clk with
        | true => rw [if_pos rfl]; exact rel_mix _ _
        | false => rw [if_neg (by decide), hs']; exact ⟨fun q => by omega, fun _ => hup rfl, fun q => by omega⟩
    · obtain ⟨p1, p2, p3⟩ := ty_parts noL sc a k h1 h6
      have ik := ihk p1 hwk.2
      refine ⟨pT_rng name clk a _ _ (fun i => (relL_get ik i).1), ?_⟩
      by_cases h7 : 7 ≤ a.op
      · have e2 : ∀ nm L, ev1 nm a L = opV a.op L := fun nm L => by unfold ev1; rw [if_neg (by omega), if_neg (by omega), if_neg (by omega), if_neg h6]
        rw [e2, e2]
        by_cases hz : ((pTF name clk k).all fun t => t == 0) = true
        · rw [relL_eq ik hz]; exact rel_eq rfl
        · have e1 : pT1 name clk a (sgF k) (pTF name clk k) = pOp a.op (sgF k) (pTF name clk k) := by unfold pT1; rw [if_neg h6, if_neg hz]
          rw [e1]
          exact rel_op a.op sc k _ nm1 nm2 hn1 hn2 ⟨h7, w1.2⟩ p1 hwk.2 w2 p2 ik
      · have e2 : ∀ nm L nm' L', ev1 nm a L = ev1 nm' a L' := fun nm L nm' L' => by
          unfold ev1
          by_cases g1 : a.op = 1 ∨ a.op = 2 ∨ a.op = 3
          · rw [if_pos g1, if_pos g1]
          · rw [if_neg g1, if_neg g1]
            by_cases g4 : a.op = 4
            · rw [if_pos g4, if_pos g4]
            · rw [if_neg g4, if_neg g4, if_pos (by omega), if_pos (by omega)]
        exact rel_eq (e2 _ _ _ _)
end Go.Proofs.Ytfoedbfkddoibaa
