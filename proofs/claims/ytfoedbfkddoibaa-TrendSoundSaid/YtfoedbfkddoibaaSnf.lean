/-
  The law of TrendSound (plain).
-/
import Derived.Test.YtfoedbfkddoibaaSnd
import Derived.Test.YtfoedbfkddoibaaSne
import Derived.Test.YtfoedbfkddoibaaTk1
namespace Go.Proofs.Ytfoedbfkddoibaa
set_option linter.unusedVariables false
set_option linter.unusedSimpArgs false
open Go.RowKit
open Go.Deep (BT)

theorem nm_att (sc : Int) (L : List Av) (cv : ByteArray → Int) (s : ByteArray) (h : atE sc s = 0) : nmT sc (valsT sc L) cv s = limV (atS sc s) ((firstAv s L).getD 0) := by
  unfold nmT
  cases q : placeT sc s with
  | none => exact absurd q (place_of_at sc s h)
  | some i => exact place_val sc L s i q
theorem nm_con (sc : Int) (vals : List Int) (cv : ByteArray → Int) (s : ByteArray) (h : atE sc s ≠ 0) : nmT sc vals cv s = cv s := by
  unfold nmT
  cases q : placeT sc s with
  | none => rfl
  | some i => exact absurd (at_of_place sc s i q).1 h
theorem nmok_no {look : Look} {sc : Int} {nm : ByteArray → Int} (h : NmOk look sc nm) : NmOk noL sc nm := by
  intro s hs
  unfold nameT at hs ⊢
  by_cases q : atE sc s = 0
  · rw [if_pos q] at hs ⊢
    have := h s (by unfold nameT; rw [if_pos q])
    unfold nameT at this
    rw [if_pos q] at this
    exact this
  · rw [if_neg q] at hs; cases hs
theorem first_ne (s : ByteArray) : ∀ (L : List Av) (j : Nat) (a b : Av), L[j]? = some a → a.name ≠ s → b.name ≠ s → firstAv s (L.set j b) = firstAv s L
  | [], _, _, _, h, _, _ => by simp at h
  | x :: l, 0, a, b, h, h1, h2 => by
    simp at h
    subst h
    show (if b.name = s then some b.val else firstAv s l) = (if x.name = s then some x.val else firstAv s l)
    rw [if_neg h1, if_neg h2]
  | x :: l, j + 1, a, b, h, h1, h2 => by
    show (if x.name = s then some x.val else firstAv s (l.set j b)) = (if x.name = s then some x.val else firstAv s l)
    rw [first_ne s l j a b (by simpa using h) h1 h2]
theorem first_eq : ∀ (L : List Av) (j : Nat) (a : Av), (L.map fun a => a.name).Nodup → L[j]? = some a → firstAv a.name L = some a.val
  | [], _, _, _, h => by simp at h
  | x :: l, 0, a, _, h => by
    simp at h
    subst h
    show (if x.name = x.name then some x.val else _) = _
    rw [if_pos rfl]
  | x :: l, j + 1, a, hn, h => by
    have hl : l[j]? = some a := by simpa using h
    rw [List.map_cons, List.nodup_cons] at hn
    have hne : x.name ≠ a.name := fun q => hn.1 (by rw [q]; exact List.mem_map.2 ⟨a, List.mem_of_getElem? hl, rfl⟩)
    show (if x.name = a.name then some x.val else firstAv a.name l) = _
    rw [if_neg hne]
    exact first_eq l j a hn.2 hl
theorem names_nodup (sc : Int) (hs : sc = 1 ∨ sc = 2 ∨ sc = 3) : ((Att.listL sc).map fun l => (⟨l.toArray⟩ : ByteArray)).Nodup := by
  rcases hs with rfl | rfl | rfl <;> decide
theorem name_set (L : List Av) (j : Nat) (a : Av) (v : Int) (h : L[j]? = some a) : ((L.set j ⟨a.name, v⟩).map fun a => a.name) = L.map fun a => a.name := by
  rw [List.map_set]
  apply List.ext_getElem?
  intro i
  rw [List.getElem?_set]
  split
  · rename_i e
    subst e
    rw [List.getElem?_map, h]
    split
    · rfl
    · rename_i q
      have := (List.getElem?_eq_some_iff.1 h).1
      simp at q
      omega
  · rfl
/-- What the value does where one attribute is changed. -/
theorem sound_law (cs : List Cn) (sc kd : Int) (L : List Av) (c : Ch) (j : Nat) (a : Av) (v : Int) (hs : sc = 1 ∨ sc = 2 ∨ sc = 3) (hb : Bx sc kd 40 4 c) (hlk : LookOk (lookT cs (tabN cs cs.length))) (hN : (L.map fun a => a.name) = ((Att.listL sc).map fun l => (⟨l.toArray⟩ : ByteArray))) (hj : L[j]? = some a)
    (hup : atS sc a.name ≠ 3 → limV (atS sc a.name) a.val ≤ limV (atS sc a.name) v) :
    (ofT cs sc c.a c.k a.name = (0, 10) ∨ ((ofT cs sc c.a c.k a.name).2 = 0 ∧ tr3 (ofT cs sc c.a c.k a.name).1 ∧ rel (ofT cs sc c.a c.k a.name).1 (exv (nmT sc (valsT sc L) (cvT cs)) c) (exv (nmT sc (valsT sc (L.set j ⟨a.name, v⟩)) (cvT cs)) c))) := by
  have hv : valE c.a c.k = 0 := by
    have h1 := hb.sz
    have h2 := hb.dp
    have hf : fitB 0 1 c.k = true := by unfold fitB; rw [decide_eq_true_eq]; omega
    unfold valE
    rw [if_pos hf, if_pos hb.wf]
  have hty : tyT (lookT cs (tabN cs cs.length)) sc c.a c.k = (kd, 0) := hb.ty _ hlk
  have ht : typeOfT cs sc c.a c.k = (kd, 0) := by
    unfold typeOfT
    rw [if_pos hv]; exact hty
  have hat : atE sc a.name = 0 := by
    have hm : a.name ∈ L.map fun a => a.name := List.mem_map.2 ⟨a, List.mem_of_getElem? hj, rfl⟩
    rw [hN] at hm
    obtain ⟨l, hl, e⟩ := List.mem_map.1 hm
    rw [← e]
    unfold atE atS
    exact if_neg (mem_at sc l hl)
  have hno := names_nodup sc hs
  rw [← hN] at hno
  have SM := sim_sm _ _ sc (cvok_of cs cs.length) c.a c.k (by rw [hty]) hb.wf
  generalize hX : simT (lookT cs (tabN cs cs.length)) (cvT cs) sc c.a c.k = X at *
  unfold ofT simpR
  rw [ht, hX]
  rw [if_neg (show ¬ (kd, (0 : Int)).2 ≠ 0 by simp)]
  by_cases h10 : valE X.a X.k = 10
  · left
    rw [if_pos h10]
    rfl
  · right
    rw [if_neg h10]
    rw [if_neg (show ¬ (X, (0 : Int)).2 ≠ 0 by simp), if_neg (by rw [hat]; simp)]
    refine ⟨rfl, ?_, ?_⟩
    all_goals
      have n1 := nm_ok cs sc L
      have n2 := nm_ok cs sc (L.set j ⟨a.name, v⟩)
      have hT : (tyF noL sc (BT.node 0 0 X.a X.k .nil)).1 = 0 := by
        have h1 : tyT noL sc X.a X.k = (_, 0) := SM.1.ty
        rw [tyF_node, h1]; rfl
      have hW : wfT (BT.node 0 0 X.a X.k .nil) = true := by
        show ((wfB X.a (len X.k) && wfT X.k) && true) = true
        rw [SM.1.wf]; rfl
      have SO := sound a.name (decide (atS sc a.name = 3)) sc (nmT sc (valsT sc L) (cvT cs)) (nmT sc (valsT sc (L.set j ⟨a.name, v⟩)) (cvT cs)) (nmok_no n1) (nmok_no n2)
        (fun s h1 h2 => by rw [nm_att sc _ _ s h1, nm_att sc _ _ s h1, first_ne s L j a ⟨a.name, v⟩ hj (fun q => h2 q.symm) (fun q => h2 q.symm)])
        (fun hc => by
          rw [decide_eq_false_iff_not] at hc
          have hj2 : (L.set j ⟨a.name, v⟩)[j]? = some ⟨a.name, v⟩ := by
            rw [List.getElem?_set]
            have := (List.getElem?_eq_some_iff.1 hj).1
            simp [this]
          have f2 := first_eq (L.set j ⟨a.name, v⟩) j ⟨a.name, v⟩ (by rw [name_set L j a v hj]; exact hno) hj2
          rw [nm_att sc _ _ _ hat, nm_att sc _ _ _ hat, first_eq L j a hno hj, f2]
          exact hup hc) (BT.node 0 0 X.a X.k .nil) hT hW
    · exact SO.1.1
    · have ev : ∀ nm, NmOk (lookT cs (tabN cs cs.length)) sc nm → (∀ s, atE sc s ≠ 0 → nm s = cvT cs s) → exv nm c = evC nm X := by
        intro nm h1 h2
        have q := sim_ev (lookT cs (tabN cs cs.length)) (cvT cs) sc (cvok_of cs cs.length) nm h1 (nmok_no h1) (fun s e1 _ => h2 s e1) (BT.node 0 0 c.a c.k .nil) (by rw [tyF_node, hty]; rfl) (by show ((wfB c.a (len c.k) && wfT c.k) && true) = true; rw [hb.wf]; rfl)
        have q2 : [evC nm (simT (lookT cs (tabN cs cs.length)) (cvT cs) sc c.a c.k)] = [exv nm c] := q
        rw [hX] at q2
        exact (List.cons.inj q2).1.symm
      rw [ev _ n1 (fun s h => nm_con sc _ _ s h), ev _ n2 (fun s h => nm_con sc _ _ s h)]
      exact SO.1.2
end Go.Proofs.Ytfoedbfkddoibaa
