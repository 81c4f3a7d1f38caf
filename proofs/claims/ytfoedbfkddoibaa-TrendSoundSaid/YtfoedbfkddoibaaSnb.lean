/-
  Trends are sound (plain).
-/
import Derived.Test.YtfoedbfkddoibaaSna
namespace Go.Proofs.Ytfoedbfkddoibaa
set_option linter.unusedVariables false
set_option linter.unusedSimpArgs false
open Go.RowKit
open Go.Deep (BT)

def rel (t v w : Int) : Prop := (t = 0 → v = w) ∧ (t = 1 → v ≤ w) ∧ (t = 2 → w ≤ v)
def tr3 (t : Int) : Prop := 0 ≤ t ∧ t ≤ 3
theorem rel_eq {t v w : Int} (h : v = w) : rel t v w := ⟨fun _ => h, fun _ => by omega, fun _ => by omega⟩
theorem rel_mix (v w : Int) : rel 3 v w := ⟨fun h => by omega, fun h => by omega, fun h => by omega⟩
theorem kn_in {t : Int} (h : tr3 t) : kn t = t := by unfold kn; unfold tr3 at h; rw [if_neg (by omega)]
theorem kn_rng (t : Int) : tr3 (kn t) := by unfold kn tr3; split <;> omega
theorem cb_eq {a b : Int} (ha : tr3 a) (hb : tr3 b) : cbE a b = if a = 0 then b else if b = 0 ∨ a = b then a else 3 := by unfold cbE; rw [kn_in ha, kn_in hb]
theorem cb_rng (a b : Int) : tr3 (cbE a b) := by
  unfold cbE
  have h1 := kn_rng a
  have h2 := kn_rng b
  unfold tr3 at *
  (repeat' split) <;> omega
theorem iv_eq {a : Int} (ha : tr3 a) : ivE a = if a = 1 then 2 else if a = 2 then 1 else a := by unfold ivE; rw [kn_in ha]
theorem iv_rng (a : Int) : tr3 (ivE a) := by
  unfold ivE
  have h1 := kn_rng a
  unfold tr3 at *
  (repeat' split) <;> omega
theorem rel_cb {a b v w v' w' F G : Int} (ha : rel a v w) (hb : rel b v' w') (ra : tr3 a) (rb : tr3 b) (h0 : v = w → v' = w' → F = G) (h1 : v ≤ w → v' ≤ w' → F ≤ G) (h2 : w ≤ v → w' ≤ v' → G ≤ F) : rel (cbE a b) F G := by
  rw [cb_eq ra rb]
  obtain ⟨a0, a1, a2⟩ := ha
  obtain ⟨b0, b1, b2⟩ := hb
  unfold tr3 at ra rb
  by_cases qa : a = 0
  · rw [if_pos qa]
    have e := a0 qa
    exact ⟨fun q => h0 e (b0 q), fun q => h1 (by omega) (b1 q), fun q => h2 (by omega) (b2 q)⟩
  · rw [if_neg qa]
    by_cases qb : b = 0 ∨ a = b
    · rw [if_pos qb]
      rcases qb with qb | qb
      · have e := b0 qb
        exact ⟨fun q => absurd q qa, fun q => h1 (a1 q) (by omega), fun q => h2 (a2 q) (by omega)⟩
      · subst qb
        exact ⟨fun q => absurd q qa, fun q => h1 (a1 q) (b1 q), fun q => h2 (a2 q) (b2 q)⟩
    · rw [if_neg qb]; exact rel_mix _ _
theorem rel_iv {a v w F G : Int} (ha : rel a v w) (ra : tr3 a) (h0 : v = w → F = G) (h1 : v ≤ w → G ≤ F) (h2 : w ≤ v → F ≤ G) : rel (ivE a) F G := by
  rw [iv_eq ra]
  obtain ⟨a0, a1, a2⟩ := ha
  unfold tr3 at ra
  by_cases q1 : a = 1
  · rw [if_pos q1]; exact ⟨fun q => by omega, fun q => by omega, fun _ => h1 (a1 q1)⟩
  · rw [if_neg q1]
    by_cases q2 : a = 2
    · rw [if_pos q2]; exact ⟨fun q => by omega, fun _ => h2 (a2 q2), fun q => by omega⟩
    · rw [if_neg q2]; exact ⟨fun q => h0 (a0 q), fun q => absurd q q1, fun q => absurd q q2⟩
theorem rel_left {a b v w : Int} (ha : rel a v w) (ra : tr3 a) (rb : tr3 b) : rel (cbE a b) v w := by
  rw [cb_eq ra rb]
  by_cases qa : a = 0
  · rw [if_pos qa]; exact rel_eq (ha.1 qa)
  · rw [if_neg qa]
    by_cases qb : b = 0 ∨ a = b
    · rw [if_pos qb]; exact ha
    · rw [if_neg qb]; exact rel_mix _ _
theorem rel_right {a b v w : Int} (hb : rel b v w) (ra : tr3 a) (rb : tr3 b) : rel (cbE a b) v w := by
  rw [cb_eq ra rb]
  by_cases qa : a = 0
  · rw [if_pos qa]; exact hb
  · rw [if_neg qa]
    by_cases qb : b = 0 ∨ a = b
    · rw [if_pos qb]
      rcases qb with qb | qb
      · exact rel_eq (hb.1 qb)
      · rw [qb]; exact hb
    · rw [if_neg qb]; exact rel_mix _ _
def relL : List Int → List Int → List Int → Prop
  | [], [], [] => True
  | d :: D, v :: V, w :: W => (tr3 d ∧ rel d v w) ∧ relL D V W
  | _, _, _ => False
theorem relL_get : ∀ {D V W : List Int}, relL D V W → ∀ i, tr3 (D.getD i 0) ∧ rel (D.getD i 0) (V.getD i 0) (W.getD i 0)
  | [], [], [], _, i => by simp [tr3]; exact rel_eq rfl
  | d :: D, v :: V, w :: W, h, 0 => h.1
  | d :: D, v :: V, w :: W, h, i + 1 => by simpa using relL_get h.2 i
  | [], _ :: _, _, h, _ => h.elim
  | [], [], _ :: _, h, _ => h.elim
  | _ :: _, [], _, h, _ => h.elim
  | _ :: _, _ :: _, [], h, _ => h.elim
theorem relL_eq : ∀ {D V W : List Int}, relL D V W → (D.all fun t => t == 0) = true → V = W
  | [], [], [], _, _ => rfl
  | d :: D, v :: V, w :: W, h, ha => by
    rw [List.all_cons, Bool.and_eq_true] at ha
    rw [h.1.2.1 (eq_of_beq ha.1), relL_eq h.2 ha.2]
  | [], _ :: _, _, h, _ => h.elim
  | [], [], _ :: _, h, _ => h.elim
  | _ :: _, [], _, h, _ => h.elim
  | _ :: _, _ :: _, [], h, _ => h.elim
theorem fold_min : ∀ {D V W : List Int} (a v w : Int), relL D V W → tr3 a → rel a v w → rel (D.foldl cbE a) (minL v V) (minL w W)
  | [], [], [], a, v, w, _, _, h => h
  | d :: D, x :: V, y :: W, a, v, w, h, ra, hr => by
    show rel (D.foldl cbE (cbE a d)) (minL (min v x) V) (minL (min w y) W)
    exact fold_min _ _ _ h.2 (cb_rng _ _) (rel_cb hr h.1.2 ra h.1.1 (fun e1 e2 => by rw [e1, e2]) (fun e1 e2 => by omega) (fun e1 e2 => by omega))
  | [], _ :: _, _, _, _, _, h, _, _ => h.elim
  | [], [], _ :: _, _, _, _, h, _, _ => h.elim
  | _ :: _, [], _, _, _, _, h, _, _ => h.elim
  | _ :: _, _ :: _, [], _, _, _, h, _, _ => h.elim
theorem fold_max : ∀ {D V W : List Int} (a v w : Int), relL D V W → tr3 a → rel a v w → rel (D.foldl cbE a) (maxL v V) (maxL w W)
  | [], [], [], a, v, w, _, _, h => h
  | d :: D, x :: V, y :: W, a, v, w, h, ra, hr => by
    show rel (D.foldl cbE (cbE a d)) (maxL (max v x) V) (maxL (max w y) W)
    exact fold_max _ _ _ h.2 (cb_rng _ _) (rel_cb hr h.1.2 ra h.1.1 (fun e1 e2 => by rw [e1, e2]) (fun e1 e2 => by omega) (fun e1 e2 => by omega))
  | [], _ :: _, _, _, _, _, h, _, _ => h.elim
  | [], [], _ :: _, _, _, _, h, _, _ => h.elim
  | _ :: _, [], _, _, _, _, h, _, _ => h.elim
  | _ :: _, _ :: _, [], _, _, _, h, _, _ => h.elim
theorem cb_zero {d : Int} (h : tr3 d) : cbE 0 d = d := by rw [cb_eq (by unfold tr3; omega) h, if_pos rfl]
/-- A literal's value. -/
theorem li_ev (nm : ByteArray → Int) (a : Nd) (k : Fo) (h : (li1 a k).2 = true) (hw : (wfB a (len k) && wfT k) = true) : ev1 nm a (evF nm k) = (li1 a k).1 := by
  rw [Bool.and_eq_true] at hw
  unfold li1 at h ⊢
  unfold ev1
  by_cases h1 : a.op = 1 ∨ a.op = 2 ∨ a.op = 3
  · rw [if_pos h1, if_pos h1]
  rw [if_neg h1] at h
  rw [if_neg h1, if_neg h1]
  by_cases h4 : a.op = 4
  · rw [if_pos h4, if_pos h4]
  rw [if_neg h4] at h
  rw [if_neg h4, if_neg h4]
  by_cases h5 : a.op = 5
  · rw [if_pos h5, if_pos h5]
  rw [if_neg h5] at h
  rw [if_neg h5, if_neg h5]
  by_cases h7 : a.op = 7
  · rw [if_pos h7] at h
    rw [if_neg (by omega), if_pos h7]
    cases k with
    | nil => cases h
    | node b o c k1 r =>
      dsimp only at h ⊢
      by_cases h8 : c.op = 1 ∨ c.op = 2
      · rw [if_pos h8]
        have h9 := hw.2
        have h' : ((wfB c (len k1) && wfT k1) && wfT r) = true := h9
        rw [Bool.and_eq_true, Bool.and_eq_true] at h'
        have h3 := (wf_parts h'.1.1).2.2.1
        unfold numB at h3
        rw [if_pos h8, decide_eq_true_eq] at h3
        have e : evF nm (BT.node b o c k1 r) = c.num :: evF nm r := by
          show ev1 nm c (evF nm k1) :: _ = _
          unfold ev1; rw [if_pos (by omega)]
        rw [e, h7]
        show clampI (0 + IntKind.i64.wrap (-c.num)) = -c.num
        rw [show IntKind.i64.wrap (-c.num) = -c.num from IntWalk.i64_in _ (by omega), clampI_id _ (by omega), Int.zero_add]
      · rw [if_neg h8] at h; cases h
  · rw [if_neg h7] at h; cases h
end Go.Proofs.Ytfoedbfkddoibaa
