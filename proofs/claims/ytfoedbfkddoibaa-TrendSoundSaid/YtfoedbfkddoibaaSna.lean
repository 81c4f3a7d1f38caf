/-
  Simplified expressions have the values of the expressions (plain).
-/
import Derived.Test.YtfoedbfkddoibaaTt1
namespace Go.Proofs.Ytfoedbfkddoibaa
set_option linter.unusedVariables false
set_option linter.unusedSimpArgs false
open Go.RowKit
open Go.Deep (BT)

def evC (nm : ByteArray → Int) (c : Ch) : Int := ev1 nm c.a (evF nm c.k)
theorem evF_row (nm : ByteArray → Int) (L : List Ch) : evF nm (rowF L) = L.map (evC nm) := by
  induction L with
  | nil => rfl
  | cons c l ih => show evC nm c :: evF nm (rowF l) = _; rw [ih]; rfl
theorem evC_nE (nm : ByteArray → Int) (op : Int) (L : List Ch) (h7 : 7 ≤ op) : evC nm (nE op L) = opV op (L.map (evC nm)) := by
  show ev1 nm ⟨op, 0, noN, none, 0⟩ (evF nm (rowF L)) = _
  rw [evF_row]
  unfold ev1
  dsimp only
  rw [if_neg (by omega), if_neg (by omega), if_neg (by omega), if_neg (by omega)]
theorem evC_litE (nm : ByteArray → Int) (t v : Int) (h1 : 1 ≤ t ∧ t ≤ 4) (h : vok t v) : evC nm (litE t v) = v := by
  have := lit_ev nm (litE t v) (litE_isLit t v) (litE_sm 0 t v h1 h).wf
  rw [litE_val t v h1 h] at this
  exact this
theorem ev_true {nm : ByteArray → Int} {c : Ch} (h : c.a.op = 4) : evC nm c = 1 := by unfold evC ev1; rw [h]; rfl
theorem ev_false {nm : ByteArray → Int} {c : Ch} (h : c.a.op = 5) : evC nm c = 0 := by unfold evC ev1; rw [h]; rfl
theorem ev_zero {nm : ByteArray → Int} {c : Ch} (h : zeroB c = true) : evC nm c = 0 := by
  unfold zeroB at h
  rw [decide_eq_true_eq] at h
  unfold evC ev1
  rw [if_pos (by omega)]
  exact h.2
theorem ev_unit {nm : ByteArray → Int} {c : Ch} (h : unitB c = true) : evC nm c = 1 := by
  unfold unitB at h
  rw [decide_eq_true_eq] at h
  unfold evC ev1
  rw [if_pos (by omega)]
  exact h.2
theorem sm_vok {sc t : Int} {c : Ch} (h : SmE sc t c) (nm : ByteArray → Int) (hn : NmOk noL sc nm) : vok t (evC nm c) := by
  have ht : tyT noL sc c.a c.k = (t, 0) := h.ty
  have := ev_ok noL sc nm hn c.a c.k (by rw [ht]) h.wf
  rw [ht] at this
  exact this
theorem sm_ex (sc : Int) : ∀ {T : List Int} {L : List Ch}, smL sc T L → ∀ c ∈ L, ∃ t, SmE sc t c
  | [], [], _, c, hc => by cases hc
  | t :: T, d :: L, h, c, hc => by
    rcases List.mem_cons.1 hc with rfl | hc
    · exact ⟨t, h.1⟩
    · exact sm_ex sc h.2 c hc
  | [], _ :: _, h, _, _ => h.elim
  | _ :: _, [], h, _, _ => h.elim
theorem clampI_id (v : Int) (h : -1099511627776 ≤ v ∧ v ≤ 1099511627776) : clampI v = v := by unfold clampI; omega
theorem not_not (v : Int) (h : v = 0 ∨ v = 1) : notV (notV v) = v := by rcases h with rfl | rfl <;> decide
/-- The value of a negation. -/
theorem not_ev {sc : Int} {c : Ch} (h : SmE sc 4 c) (nm : ByteArray → Int) (hn : NmOk noL sc nm) : evC nm (notE c) = notV (evC nm c) := by
  unfold notE
  by_cases h19 : c.a.op = 19
  · rw [if_pos h19]
    have hk := k0_sm h h19
    have hv := sm_vok hk nm hn
    have h2 := h.wf
    rw [Bool.and_eq_true] at h2
    have ha := (wf_parts h2.1).2.1
    rw [h19] at ha
    have hl : len c.k = 1 := by simp [argB] at ha; omega
    obtain ⟨b, o, a, k1, e⟩ : ∃ b o a k1, c.k = BT.node b o a k1 .nil := by
      revert hl
      cases c.k with
      | nil => intro q; simp [len] at q
      | node b o a k1 r => intro q; exact ⟨b, o, a, k1, by rw [len_zero (k := r) (by simp [len] at q; omega)]⟩
    have e0 : evC nm (k0 c) = ev1 nm a (evF nm k1) := by
      unfold k0 g0
      rw [e]; rfl
    have e1 : evC nm c = notV (ev1 nm a (evF nm k1)) := by
      unfold evC
      rw [e]
      unfold ev1
      rw [h19]
      simp [evF, opV, ev1]
    rw [e1, e0, not_not]
    have := hv.2.2 rfl
    rw [e0] at this
    exact this
  · rw [if_neg h19, evC_nE nm 19 _ (by omega)]
    rfl
theorem red_ev (sc op : Int) (T : List Int) (L : List Ch) (nm : ByteArray → Int) (hn : NmOk noL sc nm) (h : smL sc T L) (h7 : 7 ≤ op ∧ op ≤ 22) (hr : resT op T ≠ 0) (ha : argB op (L.length : Int) = true) : evC nm (redE op L) = opV op (L.map (evC nm)) := by
  unfold redE
  by_cases q19 : op = 19
  · subst q19
    rw [if_pos rfl]
    obtain ⟨t, c, rfl, rfl, hc⟩ := smL1 h (by simp [argB] at ha; omega)
    obtain ⟨rfl, -⟩ := res_not t hr
    show evC nm (notE c) = _
    rw [not_ev hc nm hn]; rfl
  rw [if_neg q19]
  by_cases q20 : op = 20
  · subst q20
    rw [if_pos rfl]
    obtain ⟨t, u, c, d, rfl, rfl, hc, hd⟩ := smL2 h (by simp [argB] at ha; omega)
    obtain ⟨rfl, rfl, -⟩ := res_junc 20 t u (by decide) hr
    have v1 := (sm_vok hc nm hn).2.2 rfl
    have v2 := (sm_vok hd nm hn).2.2 rfl
    show evC nm (if c.a.op = 5 ∨ d.a.op = 5 then dE 5 0 noN else if c.a.op = 4 then d else if d.a.op = 4 then c else nE 20 [c, d]) = bits .and .i64 (evC nm c) (evC nm d)
    by_cases h1 : c.a.op = 5 ∨ d.a.op = 5
    · rw [if_pos h1]
      have e : evC nm (dE 5 0 noN) = 0 := rfl
      rw [e]
      rcases h1 with h1 | h1
      · rw [ev_false (nm := nm) h1]; rcases v2 with q | q <;> rw [q] <;> decide
      · rw [ev_false (nm := nm) h1]; rcases v1 with q | q <;> rw [q] <;> decide
    rw [if_neg h1]
    by_cases h2 : c.a.op = 4
    · rw [if_pos h2, ev_true (nm := nm) h2]; rcases v2 with q | q <;> rw [q] <;> decide
    rw [if_neg h2]
    by_cases h3 : d.a.op = 4
    · rw [if_pos h3, ev_true (nm := nm) h3]; rcases v1 with q | q <;> rw [q] <;> decide
    rw [if_neg h3, evC_nE nm 20 _ (by omega)]
    rfl
  rw [if_neg q20]
  by_cases q21 : op = 21
  · subst q21
    rw [if_pos rfl]
    obtain ⟨t, u, c, d, rfl, rfl, hc, hd⟩ := smL2 h (by simp [argB] at ha; omega)
    obtain ⟨rfl, rfl, -⟩ := res_junc 21 t u (by decide) hr
    have v1 := (sm_vok hc nm hn).2.2 rfl
    have v2 := (sm_vok hd nm hn).2.2 rfl
    show evC nm (if c.a.op = 4 ∨ d.a.op = 4 then dE 4 0 noN else if c.a.op = 5 then d else if d.a.op = 5 then c else nE 21 [c, d]) = bits .or .i64 (evC nm c) (evC nm d)
    by_cases h1 : c.a.op = 4 ∨ d.a.op = 4
    · rw [if_pos h1]
      have e : evC nm (dE 4 0 noN) = 1 := rfl
      rw [e]
      rcases h1 with h1 | h1
      · rw [ev_true (nm := nm) h1]; rcases v2 with q | q <;> rw [q] <;> decide
      · rw [ev_true (nm := nm) h1]; rcases v1 with q | q <;> rw [q] <;> decide
    rw [if_neg h1]
    by_cases h2 : c.a.op = 5
    · rw [if_pos h2, ev_false (nm := nm) h2]; rcases v2 with q | q <;> rw [q] <;> decide
    rw [if_neg h2]
    by_cases h3 : d.a.op = 5
    · rw [if_pos h3, ev_false (nm := nm) h3]; rcases v1 with q | q <;> rw [q] <;> decide
    rw [if_neg h3, evC_nE nm 21 _ (by omega)]
    rfl
  rw [if_neg q21]
  by_cases q22 : op = 22
  · subst q22
    rw [if_pos rfl]
    obtain ⟨t, u, c, d, rfl, rfl, hc, hd⟩ := smL2 h (by simp [argB] at ha; omega)
    obtain ⟨rfl, rfl, -⟩ := res_junc 22 t u (by decide) hr
    have v1 := (sm_vok hc nm hn).2.2 rfl
    have v2 := (sm_vok hd nm hn).2.2 rfl
    show evC nm (if c.a.op = 5 ∨ d.a.op = 4 then dE 4 0 noN else if c.a.op = 4 then d else if d.a.op = 5 then notE c else nE 22 [c, d]) = bits .or .i64 (notV (evC nm c)) (evC nm d)
    by_cases h1 : c.a.op = 5 ∨ d.a.op = 4
    · rw [if_pos h1]
      have e : evC nm (dE 4 0 noN) = 1 := rfl
      rw [e]
      rcases h1 with h1 | h1
      · rw [ev_false (nm := nm) h1]; rcases v2 with q | q <;> rw [q] <;> decide
      · rw [ev_true (nm := nm) h1]; rcases v1 with q | q <;> rw [q] <;> decide
    rw [if_neg h1]
    by_cases h2 : c.a.op = 4
    · rw [if_pos h2, ev_true (nm := nm) h2]; rcases v2 with q | q <;> rw [q] <;> decide
    rw [if_neg h2]
    by_cases h3 : d.a.op = 5
    · rw [if_pos h3, not_ev hc nm hn, ev_false (nm := nm) h3]; rcases v1 with q | q <;> rw [q] <;> decide
    rw [if_neg h3, evC_nE nm 22 _ (by omega)]
    rfl
  rw [if_neg q22]
  by_cases q14 : op = 14
  · subst q14
    rw [if_pos rfl]
    obtain ⟨t, u, v, c, d, e, rfl, rfl, hc, hd, he⟩ := smL3 h (by simp [argB] at ha; omega)
    show evC nm (if c.a.op = 4 then d else if c.a.op = 5 then e else nE 14 [c, d, e]) = if evC nm c ≠ 0 then evC nm d else evC nm e
    by_cases h1 : c.a.op = 4
    · rw [if_pos h1, ev_true (nm := nm) h1, if_pos (by decide)]
    rw [if_neg h1]
    by_cases h2 : c.a.op = 5
    · rw [if_pos h2, ev_false (nm := nm) h2, if_neg (by decide)]
    rw [if_neg h2, evC_nE nm 14 _ (by omega)]
    rfl
  rw [if_neg q14]
  have amt : ∀ {t : Int} {x : Int}, (t = 1 ∨ t = 2) → vok t x → clampI x = x := fun ht hx => clampI_id _ (hx.1 ht)
  by_cases q8 : op = 8
  · subst q8
    rw [if_pos rfl]
    obtain ⟨t, u, c, d, rfl, rfl, hc, hd⟩ := smL2 h (by simp [argB] at ha; omega)
    obtain ⟨rfl, ht, -⟩ := res_sum 8 t u (by decide) hr
    have v1 := amt ht (sm_vok hc nm hn)
    have v2 := amt ht (sm_vok hd nm hn)
    show evC nm (if zeroB d = true then c else if true = true ∧ zeroB c = true then d else nE 8 [c, d]) = clampI (evC nm c + evC nm d)
    by_cases h1 : zeroB d = true
    · rw [if_pos h1, ev_zero (nm := nm) h1, Int.add_zero, v1]
    rw [if_neg h1]
    by_cases h2 : true = true ∧ zeroB c = true
    · rw [if_pos h2, ev_zero (nm := nm) h2.2, Int.zero_add, v2]
    rw [if_neg h2, evC_nE nm 8 _ (by omega)]
    rfl
  rw [if_neg q8]
  by_cases q9 : op = 9
  · subst q9
    rw [if_pos rfl]
    obtain ⟨t, u, c, d, rfl, rfl, hc, hd⟩ := smL2 h (by simp [argB] at ha; omega)
    obtain ⟨rfl, ht, -⟩ := res_sum 9 t u (by decide) hr
    have v1 := amt ht (sm_vok hc nm hn)
    show evC nm (if zeroB d = true then c else if false = true ∧ zeroB c = true then d else nE 9 [c, d]) = clampI (evC nm c + negV (evC nm d))
    by_cases h1 : zeroB d = true
    · have e : negV 0 = 0 := by decide
      rw [if_pos h1, ev_zero (nm := nm) h1, e, Int.add_zero, v1]
    rw [if_neg h1, if_neg (by simp), evC_nE nm 9 _ (by omega)]
    rfl
  rw [if_neg q9]
  have prod : ∀ {op t u : Int}, prodT op t u ≠ 0 → (t = 1 ∨ t = 2) ∧ (u = 1 ∨ u = 2) := by
    intro op t u hp
    unfold prodT at hp
    (repeat' split at hp) <;> first | omega | exact absurd rfl hp
  by_cases q10 : op = 10
  · subst q10
    rw [if_pos rfl]
    obtain ⟨t, u, c, d, rfl, rfl, hc, hd⟩ := smL2 h (by simp [argB] at ha; omega)
    rw [res_mul t u hr] at hr
    obtain ⟨ht, hu⟩ := prod hr
    have v1 := amt ht (sm_vok hc nm hn)
    have v2 := amt hu (sm_vok hd nm hn)
    show evC nm (if unitB d = true then c else if true = true ∧ unitB c = true then d else nE 10 [c, d]) = clampI (evC nm c * evC nm d)
    by_cases h1 : unitB d = true
    · rw [if_pos h1, ev_unit (nm := nm) h1, Int.mul_one, v1]
    rw [if_neg h1]
    by_cases h2 : true = true ∧ unitB c = true
    · rw [if_pos h2, ev_unit (nm := nm) h2.2, Int.one_mul, v2]
    rw [if_neg h2, evC_nE nm 10 _ (by omega)]
    rfl
  rw [if_neg q10]
  by_cases q11 : op = 11
  · subst q11
    rw [if_pos rfl]
    obtain ⟨t, u, c, d, rfl, rfl, hc, hd⟩ := smL2 h (by simp [argB] at ha; omega)
    rw [res_div t u hr] at hr
    obtain ⟨ht, hu⟩ := prod hr
    have v1 := amt ht (sm_vok hc nm hn)
    show evC nm (if unitB d = true then c else if false = true ∧ unitB c = true then d else nE 11 [c, d]) = divV (evC nm c) (evC nm d)
    by_cases h1 : unitB d = true
    · rw [if_pos h1, ev_unit (nm := nm) h1]
      unfold divV
      rw [if_neg (by decide), Int.fdiv_one, v1]
    rw [if_neg h1, if_neg (by simp), evC_nE nm 11 _ (by omega)]
    rfl
  rw [if_neg q11]
  exact evC_nE nm op L h7.1
/-- Simplified expressions have the values of the expressions. -/
theorem sim_ev (look : Look) (cv : ByteArray → Int) (sc : Int) (hc : CvOk look cv) (nm : ByteArray → Int) (hn : NmOk look sc nm) (hn0 : NmOk noL sc nm) (hnm : ∀ s, atE sc s ≠ 0 → (look s).2 = 0 → nm s = cv s) (T : Fo) (h : (tyF look sc T).1 = 0) (hw : wfT T = true) : (simF look cv sc T).map (evC nm) = evF nm T := by
  induction T with
  | nil => rfl
  | node b o a k r ihk ihr =>
    obtain ⟨h1, h2, h3⟩ := ty_row look sc b o a k r h
    have hw' : ((wfB a (len k) && wfT k) && wfT r) = true := hw
    rw [Bool.and_eq_true] at hw'
    have hwk := hw'.1
    rw [Bool.and_eq_true] at hwk
    show evC nm (sim1 look cv sc a (tyF look sc k).2 (simF look cv sc k)) :: (simF look cv sc r).map (evC nm) = ev1 nm a (evF nm k) :: evF nm r
    rw [ihr h2 hw'.2]
    congr 1
    unfold sim1
    by_cases h6 : a.op = 6
    · rw [if_pos h6]
      have e1 : ev1 nm a (evF nm k) = nm a.name := by unfold ev1; rw [if_neg (by omega), if_neg (by omega), if_neg (by omega), if_pos h6]
      rw [e1]
      by_cases h0 : atE sc a.name = 0
      · rw [if_pos h0]; rfl
      · rw [if_neg h0]
        have ht : (look a.name).2 = 0 := by
          unfold tyT nameT at h1
          rw [if_pos h6, if_neg h0] at h1
          exact h1
        rw [evC_litE nm _ _ (hc a.name ht).1 (hc a.name ht).2, hnm a.name h0 ht]
    · rw [if_neg h6]
      obtain ⟨p1, p2, p3⟩ := ty_parts look sc a k h1 h6
      obtain ⟨s1, s2⟩ := simF_sm look cv sc hc k p1 hwk.2
      have ik := ihk p1 hwk.2
      have hl := simF_len look cv sc k
      obtain ⟨w1, w2, w3, w4⟩ := wf_parts hwk.1
      by_cases hk : simF look cv sc k = []
      · rw [if_pos hk]
        have h7 : ¬ 7 ≤ a.op := by
          intro q
          rw [hk] at hl
          simp at hl
          rw [← hl] at w2
          unfold argB at w2
          rw [if_neg (by omega)] at w2
          (repeat' split at w2) <;> simp at w2
        show ev1 nm ⟨a.op, a.num, noN, none, 0⟩ (evF nm .nil) = ev1 nm a (evF nm k)
        unfold ev1
        dsimp only
        by_cases g1 : a.op = 1 ∨ a.op = 2 ∨ a.op = 3
        · rw [if_pos g1, if_pos g1]
        · rw [if_neg g1, if_neg g1]
          by_cases g4 : a.op = 4
          · rw [if_pos g4, if_pos g4]
          · rw [if_neg g4, if_neg g4, if_pos (by omega), if_pos (by omega)]
      · rw [if_neg hk]
        have h7 : 7 ≤ a.op ∧ a.op ≤ 22 := by
          refine ⟨?_, w1.2⟩
          apply Int.not_lt.1
          intro q
          unfold argB at w2
          rw [if_pos (by omega)] at w2
          simp at w2
          exact hk (List.length_eq_zero_iff.1 (by rw [hl]; omega))
        have e1 : ev1 nm a (evF nm k) = opV a.op (evF nm k) := by unfold ev1; rw [if_neg (by omega), if_neg (by omega), if_neg (by omega), if_neg h6]
        have hTl : (tyF look sc k).2.length = len k := tyF_len look sc k p1
        rw [e1]
        by_cases hall : (simF look cv sc k).all isLit = true
        · rw [if_pos hall]
          have hv := smL_voks sc s1 hall
          have el : (simF look cv sc k).map litV = evF nm k := by
            rw [← ik]
            apply List.map_congr_left
            intro c hc2
            obtain ⟨t, ht⟩ : ∃ t, SmE sc t c := sm_ex sc s1 c hc2
            exact (lit_ev nm c (List.all_eq_true.1 hall c hc2) ht.wf).symm
          rw [el] at hv ⊢
          exact evC_litE nm _ _ (res_range a.op _ s2 h7 p2) (op_ok a.op _ _ hv h7 (by rw [hTl]; exact w2) p2)
        · rw [if_neg hall, ← ik]
          exact red_ev sc a.op _ _ nm hn0 s1 h7 p2 (by rw [hl]; exact w2)
end Go.Proofs.Ytfoedbfkddoibaa
