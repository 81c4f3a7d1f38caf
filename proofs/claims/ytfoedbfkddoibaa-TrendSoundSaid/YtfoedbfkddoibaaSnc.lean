/-
  Trends are sound, at every node (plain).
-/
import Derived.Test.YtfoedbfkddoibaaSnb
namespace Go.Proofs.Ytfoedbfkddoibaa
set_option linter.unusedVariables false
set_option linter.unusedSimpArgs false
open Go.RowKit
open Go.Deep (BT)

theorem sc_rng (t s : Int) (h : tr3 t) : tr3 (scE t s) := by
  unfold scE
  split
  · unfold tr3; omega
  · split
    · exact h
    · exact iv_rng _
theorem name_rng (name : ByteArray) (clk : Bool) (s : ByteArray) : tr3 (nameE name clk s) := by
  unfold nameE tr3
  (repeat' split) <;> omega
theorem fold_rng (D : List Int) (a : Int) (h : tr3 a) : tr3 (D.foldl cbE a) := by
  induction D generalizing a with
  | nil => exact h
  | cons d l ih => exact ih _ (cb_rng _ _)
theorem pT_rng (name : ByteArray) (clk : Bool) (a : Nd) (S : List (Int × Bool)) (L : List Int) (h : ∀ i, tr3 (L.getD i 0)) : tr3 (pT1 name clk a S L) := by
  have z : tr3 0 := by unfold tr3; omega
  have t : tr3 3 := by unfold tr3; omega
  unfold pT1
  split
  · exact name_rng _ _ _
  split
  · exact z
  unfold pOp
  split
  · exact iv_rng _
  split
  · exact fold_rng _ _ z
  split
  · exact cb_rng _ _
  split
  · exact cb_rng _ _
  split
  · split
    · exact sc_rng _ _ (h 1)
    · split
      · exact sc_rng _ _ (h 0)
      · exact t
  split
  · split
    · exact sc_rng _ _ (h 0)
    · exact t
  split
  · split
    · exact cb_rng _ _
    · exact t
  exact t
theorem negV_am {x : Int} (h : -1099511627776 ≤ x ∧ x ≤ 1099511627776) : negV x = -x := IntWalk.i64_in _ (by omega)
theorem clampI_mono {a b : Int} (h : a ≤ b) : clampI a ≤ clampI b := by unfold clampI; omega
/-- A product with a number. -/
theorem rel_mul {t v w n : Int} (h : rel t v w) (ht : tr3 t) : rel (tmE n t) (mulV v n) (mulV w n) := by
  unfold tmE mulV
  by_cases h0 : n = 0
  · rw [if_pos h0, h0, Int.mul_zero, Int.mul_zero]; exact rel_eq rfl
  rw [if_neg h0]
  by_cases h1 : n < 0
  · rw [if_pos h1]
    exact rel_iv h ht (fun e => by rw [e]) (fun e => clampI_mono (Int.mul_le_mul_of_nonpos_right e (by omega))) (fun e => clampI_mono (Int.mul_le_mul_of_nonpos_right e (by omega)))
  · rw [if_neg h1]
    exact ⟨fun q => by rw [h.1 q], fun q => clampI_mono (Int.mul_le_mul_of_nonneg_right (h.2.1 q) (by omega)), fun q => clampI_mono (Int.mul_le_mul_of_nonneg_right (h.2.2 q) (by omega))⟩
theorem mulV_comm (a b : Int) : mulV a b = mulV b a := by unfold mulV; rw [Int.mul_comm]
theorem fdiv_mono {a b n : Int} (hn : 0 < n) (h : a ≤ b) : a.fdiv n ≤ b.fdiv n := by
  rw [Int.fdiv_eq_ediv_of_nonneg _ (by omega), Int.fdiv_eq_ediv_of_nonneg _ (by omega)]
  exact Int.ediv_le_ediv hn h
theorem fdiv_anti {a b n : Int} (hn : n < 0) (h : a ≤ b) : b.fdiv n ≤ a.fdiv n := by
  have e : ∀ x : Int, x.fdiv n = (-x).fdiv (-n) := fun x => (Int.neg_fdiv_neg x n).symm
  rw [e a, e b]
  exact fdiv_mono (by omega) (by omega)
/-- A quotient by a number. -/
theorem rel_div {t v w n : Int} (h : rel t v w) (ht : tr3 t) : rel (tmE n t) (divV v n) (divV w n) := by
  unfold tmE divV
  by_cases h0 : n = 0
  · rw [if_pos h0, if_pos h0, if_pos h0]; exact rel_eq rfl
  rw [if_neg h0, if_neg h0, if_neg h0]
  by_cases h1 : n < 0
  · rw [if_pos h1]
    exact rel_iv h ht (fun e => by rw [e]) (fun e => clampI_mono (fdiv_anti h1 e)) (fun e => clampI_mono (fdiv_anti h1 e))
  · rw [if_neg h1]
    exact ⟨fun q => by rw [h.1 q], fun q => clampI_mono (fdiv_mono (by omega) (h.2.1 q)), fun q => clampI_mono (fdiv_mono (by omega) (h.2.2 q))⟩
theorem two_of {V : List Int} (h : V.length = 2) : ∃ x y, V = [x, y] := by
  match V, h with
  | [x, y], _ => exact ⟨x, y, rfl⟩
theorem voks2 {T V : List Int} (h : voks T V) {t u : Int} (hT : T = [t, u]) : ∃ x y, V = [x, y] ∧ vok t x ∧ vok u y := by
  subst hT
  match V, h with
  | [x, y], h => exact ⟨x, y, rfl, h.1, h.2.1⟩
theorem T_two {T : List Int} (h : T.length = 2) : ∃ t u, T = [t, u] := two_of h
theorem rel2 {D : List Int} {x y x' y' : Int} (h : relL D [x, y] [x', y']) : ∃ d e, D = [d, e] ∧ (tr3 d ∧ rel d x x') ∧ (tr3 e ∧ rel e y y') := by
  match D, h with
  | [d, e], h => exact ⟨d, e, rfl, h.1, h.2.1⟩
  | [], h => exact h.elim
  | [_], h => exact h.2.elim
  | _ :: _ :: _ :: _, h => exact h.2.2.elim
theorem relL_len1 : ∀ {D V W : List Int}, relL D V W → D.length = V.length ∧ V.length = W.length
  | [], [], [], _ => ⟨rfl, rfl⟩
  | d :: D, v :: V, w :: W, h => by have := relL_len1 h.2; simp; omega
  | [], _ :: _, _, h => h.elim
  | [], [], _ :: _, h => h.elim
  | _ :: _, [], _, h => h.elim
  | _ :: _, _ :: _, [], h => h.elim
/-- Sums, differences, junctions and comparisons. -/
theorem rel_two (op : Int) (T D V W : List Int) (hv : voks T V) (hw : voks T W) (hr : resT op T ≠ 0) (hl : T.length = 2) (h : relL D V W) (ho : op = 8 ∨ op = 20 ∨ op = 21 ∨ op = 9 ∨ op = 22 ∨ op = 16 ∨ op = 17) (S : List (Int × Bool)) : rel (pOp op S D) (opV op V) (opV op W) := by
  obtain ⟨t, u, rfl⟩ := T_two hl
  obtain ⟨x, y, rfl, vx, vy⟩ := voks2 hv rfl
  obtain ⟨x', y', rfl, vx', vy'⟩ := voks2 hw rfl
  obtain ⟨d, e, rfl, ⟨rd, hd⟩, re, he⟩ := rel2 h
  have f3 : fold3 [d, e] = cbE d e := by show cbE (cbE 0 d) e = _; rw [cb_zero rd]
  rcases ho with rfl | rfl | rfl | rfl | rfl | rfl | rfl
  · show rel (fold3 [d, e]) (clampI (x + y)) (clampI (x' + y'))
    rw [f3]
    exact rel_cb hd he rd re (fun e1 e2 => by rw [e1, e2]) (fun e1 e2 => clampI_mono (by omega)) (fun e1 e2 => clampI_mono (by omega))
  · obtain ⟨rfl, rfl, -⟩ := res_junc 20 t u (by decide) hr
    show rel (fold3 [d, e]) (bits .and .i64 x y) (bits .and .i64 x' y')
    rw [f3]
    have a1 := vx.2.2 rfl
    have a2 := vy.2.2 rfl
    have a3 := vx'.2.2 rfl
    have a4 := vy'.2.2 rfl
    refine rel_cb hd he rd re (fun e1 e2 => by rw [e1, e2]) ?_ ?_ <;> (rcases a1 with rfl | rfl <;> rcases a2 with rfl | rfl <;> rcases a3 with rfl | rfl <;> rcases a4 with rfl | rfl <;> decide)
  · obtain ⟨rfl, rfl, -⟩ := res_junc 21 t u (by decide) hr
    show rel (fold3 [d, e]) (bits .or .i64 x y) (bits .or .i64 x' y')
    rw [f3]
    have a1 := vx.2.2 rfl
    have a2 := vy.2.2 rfl
    have a3 := vx'.2.2 rfl
    have a4 := vy'.2.2 rfl
    refine rel_cb hd he rd re (fun e1 e2 => by rw [e1, e2]) ?_ ?_ <;> (rcases a1 with rfl | rfl <;> rcases a2 with rfl | rfl <;> rcases a3 with rfl | rfl <;> rcases a4 with rfl | rfl <;> decide)
  · obtain ⟨rfl, ht, -⟩ := res_sum 9 t u (by decide) hr
    show rel (cbE d (ivE e)) (clampI (x + negV y)) (clampI (x' + negV y'))
    rw [negV_am (vy.1 ht), negV_am (vy'.1 ht)]
    have he2 : rel (ivE e) (-y) (-y') := rel_iv he re (fun q => by rw [q]) (fun q => by omega) (fun q => by omega)
    exact rel_cb hd he2 rd (iv_rng _) (fun e1 e2 => by rw [e1, e2]) (fun e1 e2 => clampI_mono (by omega)) (fun e1 e2 => clampI_mono (by omega))
  · obtain ⟨rfl, rfl, -⟩ := res_junc 22 t u (by decide) hr
    show rel (cbE (ivE d) e) (bits .or .i64 (notV x) y) (bits .or .i64 (notV x') y')
    have a1 := vx.2.2 rfl
    have a2 := vy.2.2 rfl
    have a3 := vx'.2.2 rfl
    have a4 := vy'.2.2 rfl
    have hd2 : rel (ivE d) (-x) (-x') := rel_iv hd rd (fun q => by rw [q]) (fun q => by omega) (fun q => by omega)
    refine rel_cb hd2 he (iv_rng _) re (fun e1 e2 => by rw [show x = x' by omega, e2]) ?_ ?_ <;> (rcases a1 with rfl | rfl <;> rcases a2 with rfl | rfl <;> rcases a3 with rfl | rfl <;> rcases a4 with rfl | rfl <;> decide)
  · show rel (cbE (ivE d) e) (flagI (decide (x < y))) (flagI (decide (x' < y')))
    have hd2 : rel (ivE d) (-x) (-x') := rel_iv hd rd (fun q => by rw [q]) (fun q => by omega) (fun q => by omega)
    have key : ∀ p q : Bool, (p = true → q = true) → flagI p ≤ flagI q := fun p q h => by
      cases p
      · cases q <;> decide
      · rw [h rfl]; decide
    refine rel_cb hd2 he (iv_rng _) re (fun e1 e2 => by rw [show x = x' by omega, e2]) (fun e1 e2 => key _ _ fun h => ?_) (fun e1 e2 => key _ _ fun h => ?_) <;> (rw [decide_eq_true_eq] at h ⊢; omega)
  · show rel (cbE (ivE d) e) (flagI (decide (x ≤ y))) (flagI (decide (x' ≤ y')))
    have hd2 : rel (ivE d) (-x) (-x') := rel_iv hd rd (fun q => by rw [q]) (fun q => by omega) (fun q => by omega)
    have key : ∀ p q : Bool, (p = true → q = true) → flagI p ≤ flagI q := fun p q h => by
      cases p
      · cases q <;> decide
      · rw [h rfl]; decide
    refine rel_cb hd2 he (iv_rng _) re (fun e1 e2 => by rw [show x = x' by omega, e2]) (fun e1 e2 => key _ _ fun h => ?_) (fun e1 e2 => key _ _ fun h => ?_) <;> (rw [decide_eq_true_eq] at h ⊢; omega)
end Go.Proofs.Ytfoedbfkddoibaa
