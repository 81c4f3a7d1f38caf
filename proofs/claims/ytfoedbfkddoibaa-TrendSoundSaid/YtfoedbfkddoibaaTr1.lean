/-
  Simplified constants, plain: the simplified form of a constant's expression is the literal of its value.
  The map of the simplified constants.
-/
import Derived.Test.YtfoedbfkddoibaaTp1
import Derived.Test.YtfoedbfkddoibaaTrG
import Derived.Test.YtfoedbfkddoibaaGm
import Derived.Test.YtfoedbfkddoibaaTyo
namespace Go.Proofs.Ytfoedbfkddoibaa
section
set_option linter.unusedVariables false
set_option linter.unusedSimpArgs false
open Go.ChangeShapes Go.WideShapes Go.ChangeAt Go.RowKit
open Go.Deep (BT)

theorem rowT_none (cs : List Cn) (i : Nat) (h : cs[i]? = none) : (rowT cs i).2 ≠ 0 := by
  unfold rowT
  rw [tabN, h, List.getD_eq_getElem?_getD, List.getElem?_append_right (by rw [tabN_len]; omega), tabN_len]
  simp
theorem rowT_some (cs : List Cn) (i : Nat) (c : Cn) (h : cs[i]? = some c) (ht : (rowT cs i).2 = 0) : valE c.a c.k = 0 ∧ rowT cs i = tyT (lookT cs (tabN cs i)) 0 c.a c.k := by
  rw [rowT_eq cs i c h] at ht ⊢
  unfold oneT at ht ⊢
  by_cases hv : valE c.a c.k = 0
  · rw [if_pos hv]; exact ⟨hv, rfl⟩
  · rw [if_neg hv] at ht; exact absurd ht hv
theorem cvok_at (cs : List Cn) (n : Nat) (h : ∀ i, i < n → (rowT cs i).2 = 0 → 1 ≤ (rowT cs i).1 ∧ (rowT cs i).1 ≤ 4) : CvOk (lookT cs (tabN cs n)) (cvT cs) := by
  intro s hs
  rw [lookT_tab] at hs ⊢
  cases hf : firstIx s cs with
  | none => rw [hf] at hs; simp at hs
  | some i =>
    rw [hf] at hs
    by_cases hi : i < n
    · simp only [if_pos hi] at hs ⊢
      have hv : cvT cs s = cval cs i := by unfold cvT; rw [hf]
      rw [hv]
      exact ⟨h i hi hs, cval_ok cs i hs⟩
    · simp [hi] at hs
theorem row_rng (cs : List Cn) (i : Nat) (ht : (rowT cs i).2 = 0) : 1 ≤ (rowT cs i).1 ∧ (rowT cs i).1 ≤ 4 := by
  induction i using Nat.strongRecOn with
  | _ i ih =>
    cases hc : cs[i]? with
    | none => exact absurd ht (rowT_none cs i hc)
    | some c =>
      obtain ⟨hv, e⟩ := rowT_some cs i c hc ht
      rw [e] at ht ⊢
      exact (sim_sm _ (cvT cs) 0 (cvok_at cs i (fun j hj => ih j hj)) c.a c.k ht (val_ok c.a c.k hv).1).2
theorem cvok_of (cs : List Cn) (n : Nat) : CvOk (lookT cs (tabN cs n)) (cvT cs) := cvok_at cs n fun i _ => row_rng cs i
/-- Without attributes: the literal of the value. -/
theorem sim_lit (look : Look) (cv : ByteArray → Int) (hc : CvOk look cv) (a : Nd) (k : Fo) (h : (tyT look 0 a k).2 = 0) (hw : (wfB a (len k) && wfT k) = true) : simT look cv 0 a k = litE (tyT look 0 a k).1 (ev1 cv a (evF cv k)) := by
  have h1 := simF_lit look cv hc (.node 0 0 a k .nil) (by rw [tyF_node, if_pos h]; rfl) (by show ((wfB a (len k) && wfT k) && true) = true; rw [hw]; rfl)
  have e1 : simF look cv 0 (.node 0 0 a k .nil) = [simT look cv 0 a k] := rfl
  rw [e1] at h1
  have hl : isLit (simT look cv 0 a k) = true := by simpa using h1.1
  have hv : litV (simT look cv 0 a k) = ev1 cv a (evF cv k) := by
    have := h1.2
    rw [evF] at this
    simpa [evF] using this
  have q := ((sim_sm look cv 0 hc a k h hw).1.lit hl).1
  rw [hv] at q
  exact q
theorem con_lit (cs : List Cn) (i : Nat) (c : Cn) (h : cs[i]? = some c) (ht : (rowT cs i).2 = 0) : simT (lookT cs (tabN cs i)) (cvT cs) 0 c.a c.k = litE (rowT cs i).1 (cval cs i) := by
  obtain ⟨hv, e⟩ := rowT_some cs i c h ht
  rw [cval_all cs i c h ht [], e]
  rw [e] at ht
  exact sim_lit _ _ (cvok_of cs i) c.a c.k ht (val_ok c.a c.k hv).1
/-- What a name comes to. -/
theorem sim_name (cs : List Cn) (n : Nat) (sc : Int) (a : Nd) (k : Fo) (h6 : a.op = 6) : (atE sc a.name = 0 → simT (lookT cs (tabN cs n)) (cvT cs) sc a k = dE 6 0 a.name) ∧ (atE sc a.name ≠ 0 → ∀ j, firstIx a.name cs = some j → j < n → simT (lookT cs (tabN cs n)) (cvT cs) sc a k = litE (rowT cs j).1 (cval cs j)) := by
  unfold simT sim1
  rw [if_pos h6]
  refine ⟨fun q => by rw [if_pos q], fun q j hj hn => ?_⟩
  rw [if_neg q, lookT_tab, hj]
  unfold cvT
  rw [hj]
  simp only [if_pos hn]
/-- Rows in new memory are rows of allowed blocks. -/
theorem FoAv.ge {T : Fo} {B g : Nat} (h : FoGe B T g) : FoAv (fun x => B ≤ x) T g := by
  induction T generalizing g with
  | nil => trivial
  | node b o a k r ihk ihr => exact ⟨h.1, ihk h.2.1, ihr h.2.2⟩
theorem FoGe.av {T : Fo} {B g : Nat} (h : FoAv (fun x => B ≤ x) T g) : FoGe B T g := by
  induction T generalizing g with
  | nil => trivial
  | node b o a k r ihk ihr => exact ⟨h.1, ihk h.2.1, ihr h.2.2⟩
theorem FoAv.lt {w : World} {Av : Nat → Prop} {T : Fo} {B O : Nat} (h : FoAt w T B O) (ha : FoAv Av T B) : FoAv (fun g => Av g ∧ g < w.heap.size) T B := by
  induction T generalizing B O with
  | nil => trivial
  | node b o a k r ihk ihr =>
    obtain ⟨⟨h0, -⟩, hp, hkk, hr⟩ := h
    exact ⟨⟨ha.1, block_lt_of_cell h0⟩, ihk hkk ha.2.1, ihr hr ha.2.2⟩
theorem FoAt.grownAv {w w' : World} {s : Nat} {T : Fo} {B O : Nat} (h : FoAt w T B O) (ha : FoAv (fun g => g ≠ s) T B) (hg : w.grownBy w' (some s)) : FoAt w' T B O := by
  induction T generalizing B O with
  | nil => trivial
  | node b o a k r ihk ihr =>
    obtain ⟨⟨h0, h1, h2, h3⟩, hp, hkk, hr⟩ := h
    have e : ∀ i, w'.cell? ⟨B, i, none⟩ = w.cell? ⟨B, i, none⟩ := fun i => World.cell?_of_block (hg.block B (block_lt_of_cell h0) (fun q => ha.1 (Option.some.inj q)))
    exact ⟨⟨by rw [e]; exact h0, by rw [e]; exact h1, by rw [e]; exact h2, by rw [e]; exact h3⟩, hp, ihk hkk ha.2.1, ihr hr ha.2.2⟩
theorem ExAt.av4 {w : World} {b o r : Nat} {a : Nd} {k : Fo} {u0 u1 u2 u3 : Value} (h : ExAt w b o a k) (ha : FoAv (fun g => g ≠ r) k b) : ExAt ((((w.setCell ⟨r, 0, none⟩ u0).setCell ⟨r, 1, none⟩ u1).setCell ⟨r, 2, none⟩ u2).setCell ⟨r, 3, none⟩ u3) b o a k := by
  have g : ∀ (w : World) (i : Nat) (u : Value), w.grownBy (w.setCell ⟨r, i, none⟩ u) (some r) := fun w i u => ⟨rfl, rfl, rfl, by simp [World.setCell], fun k hk hr => Below.heap_setCell _ _ _ _ (fun e => hr (by rw [e]))⟩
  exact ⟨h.1, h.2.grownAv ha ((((g _ _ _).trans (g _ _ _)).trans (g _ _ _)).trans (g _ _ _))⟩
theorem ef_len (T : Fo) : len (ef T) = len T := by
  induction T with
  | nil => rfl
  | node b o a k r _ ihr => simp [ef, len, ihr]
theorem ef_kids (T : Fo) : ef T = rowF ((kids T).map ec) := by rw [← ef_row, rowF_kids]
theorem kids_len (T : Fo) : (kids T).length = len T := by
  induction T with
  | nil => rfl
  | node b o a k r _ ihr => simp [kids, len, ihr]
/-- What is well formed is so without its addresses. -/
theorem wfT_ef (T : Fo) : wfT (ef T) = wfT T := by
  induction T with
  | nil => rfl
  | node b o a k r ihk ihr =>
    show ((wfB ⟨a.op, a.num, a.name, none, 0⟩ (len (ef k)) && wfT (ef k)) && wfT (ef r)) = ((wfB a (len k) && wfT k) && wfT r)
    rw [ihk, ihr, ef_len]
    rfl
theorem kop_ec (c : Ch) : kop (ec c) = kop c := by
  obtain ⟨b, o, a, k⟩ := c
  cases k <;> rfl
theorem knum_ec (c : Ch) : knum (ec c) = knum c := by
  obtain ⟨b, o, a, k⟩ := c
  cases k <;> rfl
theorem isLit_ec (c : Ch) : isLit (ec c) = isLit c := by
  unfold isLit
  rw [kop_ec]
  rfl
theorem litV_ec (c : Ch) : litV (ec c) = litV c := by
  unfold litV
  rw [knum_ec]
  rfl
theorem all_ec (L : List Ch) : (L.map ec).all isLit = L.all isLit := by
  rw [List.all_map]
  congr 1
  exact funext isLit_ec
theorem map_litV_ec (L : List Ch) : (L.map ec).map litV = L.map litV := by
  rw [List.map_map]
  congr 1
  exact funext litV_ec
theorem kd_ef (T : Fo) : kdF (ef T) = kdF T := by
  induction T with
  | nil => rfl
  | node b o a k r ihk ihr => simp [ef, kdF, ihk, ihr]
end

section
set_option linter.unusedVariables false
set_option linter.unusedSimpArgs false
open Go.ChangeShapes Go.WideShapes Go.ChangeAt Go.RowKit
open Go.Maps (has size IsMap)
open Go.Deep (BT)

def heldV (v : Value) : Option (DataW Value × List MemPlace) := some (.held v, [])
def xpV (a : Nd) (k : Fo) : Value := .agg #[.int .i64 a.op, .int .i64 a.num, .string a.name, .slice a.ptr (len k) a.cap]
def zxV : Value := .agg #[.int .i64 0, .int .i64 0, .string ⟨#[]⟩, .slice none 0 0]
theorem own_tightG {H : Type} {P : Program} {k : TypeId} {R : Value → Option (DataW H × List MemPlace)} {w : World} {b n : Nat} {D : DataW H} (h : w.ownsMap P k R b n D) : w.ownsMap P k R b (size D) D := by
  obtain ⟨es, clock, hb, F, hs, hD⟩ := h
  refine ⟨es, clock, hb, F, ?_, hD⟩
  rw [hD]
  show es.size ≤ _
  rw [Go.Maps.size_eq, length_sorted]
  simp
/-- A name's simplified form is known. -/
def SmK (w : World) (cs : List Cn) (Av : Nat → Prop) (D : DataW Value) (i : Nat) (s : ByteArray) : Prop :=
  has D (strK s) = true ∧ (rowT cs i).2 = 0 ∧ ∃ c : Ch, D.atKey (strK s) (.held zxV) = .held (xpV c.a c.k) ∧ ec c = litE (rowT cs i).1 (cval cs i) ∧ ExAt w c.b c.o c.a c.k ∧ FoAv Av c.k c.b
def SmMap (P : Program) (w : World) (cs : List Cn) (Av : Nat → Prop) (b : Nat) : Prop :=
  ∃ (D : DataW Value) (K : List Nat), w.ownsMap P 9 heldV b K.length D ∧ IsMap D ∧ K.Nodup ∧ (∀ i ∈ K, i < cs.length) ∧ size D = K.length ∧
    (∀ s i, firstIx s cs = some i → i ∈ K → SmK w cs Av D i s) ∧ ∀ s, (∀ i ∈ K, firstIx s cs ≠ some i) → has D (strK s) = false
theorem SmK.move {w w' : World} {cs : List Cn} {Av Av' : Nat → Prop} {D : DataW Value} {i : Nat} {s : ByteArray} (h : SmK w cs Av D i s) (hx : ∀ c : Ch, ExAt w c.b c.o c.a c.k → FoAv Av c.k c.b → ExAt w' c.b c.o c.a c.k ∧ FoAv Av' c.k c.b) : SmK w' cs Av' D i s := by
  obtain ⟨h1, h2, c, h3, h4, h5, h6⟩ := h
  exact ⟨h1, h2, c, h3, h4, hx c h5 h6⟩
theorem SmMap.move {P : Program} {w w' : World} {cs : List Cn} {Av Av' : Nat → Prop} {b : Nat} {row : Option Nat} (h : SmMap P w cs Av b) (hg : w.grownBy w' row) (hne : some b ≠ row)
    (hx : ∀ c : Ch, ExAt w c.b c.o c.a c.k → FoAv Av c.k c.b → ExAt w' c.b c.o c.a c.k ∧ FoAv Av' c.k c.b) : SmMap P w' cs Av' b := by
  obtain ⟨D, K, h1, h2, h3, h4, h5, h6, h7⟩ := h
  exact ⟨D, K, h1.kept hg hne, h2, h3, h4, h5, fun s i hs hi => (h6 s i hs hi).move hx, h7⟩
theorem SmMap.next {P : Program} {w w' : World} {cs : List Cn} {Av : Nat → Prop} {b : Nat} (h : SmMap P w cs Av b) (hb : Below w.heap.size w w') : SmMap P w' cs Av b := h.move (grw_of_below none hb) (by simp) (fun c h1 h2 => ⟨h1.next hb, h2⟩)
theorem SmMap.lt {P : Program} {w : World} {cs : List Cn} {Av : Nat → Prop} {b : Nat} (h : SmMap P w cs Av b) : b < w.heap.size := by
  obtain ⟨D, K, h1, -⟩ := h
  exact h1.lt
theorem SmMap.mono {P : Program} {w : World} {cs : List Cn} {Av Av' : Nat → Prop} {b : Nat} (h : SmMap P w cs Av b) (hA : ∀ g, Av g → Av' g) : SmMap P w cs Av' b := by
  obtain ⟨D, K, h1, h2, h3, h4, h5, h6, h7⟩ := h
  exact ⟨D, K, h1, h2, h3, h4, h5, fun s i hs hi => (h6 s i hs hi).move fun c e1 e2 => ⟨e1, e2.mono hA⟩, h7⟩
/-- What is known lies in memory that is there already. -/
theorem SmMap.here {P : Program} {w : World} {cs : List Cn} {Av : Nat → Prop} {b : Nat} (h : SmMap P w cs Av b) : SmMap P w cs (fun g => Av g ∧ g < w.heap.size) b := by
  obtain ⟨D, K, h1, h2, h3, h4, h5, h6, h7⟩ := h
  exact ⟨D, K, h1, h2, h3, h4, h5, fun s i hs hi => (h6 s i hs hi).move fun c e1 e2 => ⟨e1, FoAv.lt e1.2 e2⟩, h7⟩
/-- A row that is none of the known ones' is written. -/
theorem SmMap.grown {P : Program} {w w' : World} {cs : List Cn} {Av : Nat → Prop} {b s : Nat} (h : SmMap P w cs Av b) (hg : w.grownBy w' (some s)) (hs : b ≠ s) (hA : ∀ g, Av g → g ≠ s) : SmMap P w' cs Av b :=
  h.move hg (fun q => hs (Option.some.inj q)) (fun c h1 h2 => ⟨⟨h1.1, h1.2.grownAv (h2.mono hA) hg⟩, h2⟩)
theorem SmMap.start (P : Program) (w : World) (cs : List Cn) (Av : Nat → Prop) : SmMap P (w.alloc (.map #[] 0)) cs Av w.heap.size :=
  ⟨.map [], [], World.ownsMap_made _ _ _ _, ⟨[], rfl⟩, List.nodup_nil, by simp, rfl, fun s i _ hi => by simp at hi, fun i _ => rfl⟩
theorem no_cellG {H : Type} {P : Program} {w : World} {k : TypeId} {R : Value → Option (DataW H × List MemPlace)} {b n : Nat} {D : DataW H} (h : w.ownsMap P k R b n D) (p : Addr) (hp : p.block = b) : w.cell? p = none := by
  obtain ⟨es, clock, hb, -⟩ := h
  subst hp
  simp [World.cell?, hb]
theorem SmMap.noCell {P : Program} {w : World} {cs : List Cn} {Av : Nat → Prop} {b : Nat} (h : SmMap P w cs Av b) (p : Addr) (hp : p.block = b) : w.cell? p = none := by
  obtain ⟨D, K, ho, -⟩ := h
  exact no_cellG ho p hp
theorem Keeps.of_sm {P : Program} {w w' : World} {cs : List Cn} {Av : Nat → Prop} {b : Nat} (hk : SmMap P w cs Av b) (h : w.grownBy w' (some b)) : Keeps w w' := fun p v q => by
  have hne : some p.block ≠ some b := fun e => by rw [hk.noCell p (Option.some.inj e)] at q; cases q
  rw [World.cell?_of_block (h.block p.block (block_lt_of_cell q) hne)]; exact q
theorem Try.zeroX (w : World) : (zeroValue 31).run Try.prog w = .ok zxV w := by kernel_rfl
theorem firstIx_inj {cs : List Cn} {s t : ByteArray} {i : Nat} (h : firstIx s cs = some i) (g : firstIx t cs = some i) : s = t := by
  obtain ⟨⟨c, h1, h2⟩, -⟩ := (firstIx_some s cs i).1 h
  obtain ⟨⟨d, g1, g2⟩, -⟩ := (firstIx_some t cs i).1 g
  rw [h1] at g1
  cases g1
  exact h2.symm.trans g2
theorem sm_upd {w : World} {cs : List Cn} {Av : Nat → Prop} {b : Nat} (h : SmMap Try.prog w cs Av b) (s : ByteArray) (hs : s.size ≤ maxLen) (c : Ch) (i : Nat) (hi : firstIx s cs = some i) (hil : i < cs.length) (hcl : cs.length ≤ 2932031007402) (hr : (rowT cs i).2 = 0) (he : ec c = litE (rowT cs i).1 (cval cs i)) (hx : ExAt w c.b c.o c.a c.k) (ha : FoAv Av c.k c.b) :
    ∃ w', (Instr.mapUpdate 74 (.map (some b)) (.string s) (xpV c.a c.k)).run Try.prog w = .ok () w' ∧ SmMap Try.prog w' cs Av b ∧ w.grownBy w' (some b) := by
  have hsm := h
  obtain ⟨D, K, h1, h2, h3, h4, h5, h6, h7⟩ := h
  have hl := nodup_len cs.length K h3 h4
  obtain ⟨w', hrun, ho, hg⟩ := h1.update Try.keyS Try.underlying74 (by unfold maxLen; omega) (Go.WideMaps.keyOf_string_mk Try.underlying9 hs) (show heldV (xpV c.a c.k) = some (.held (xpV c.a c.k), []) from rfl)
  have hk := Keeps.of_sm hsm hg
  refine ⟨w', hrun, ?_, hg⟩
  have hsz := Go.Maps.size_put (k := strK s) (h1.tidy Try.keyS) (.held (xpV c.a c.k))
  have key : Go.WideAt.IsKeyLit (strK s) := by first | trivial | exact .inl ⟨_, rfl⟩ | simp [WideAt.IsKeyLit, strK]
  have same : SmK w' cs Av (D.put (strK s) (.held (xpV c.a c.k))) i s := ⟨Go.Maps.has_put_same h2 key _, hr, c, Go.Maps.atKey_put_same h2 key _ _, he, hx.keep hk, ha⟩
  have other : ∀ t, t ≠ s → ∀ j, SmK w cs Av D j t → SmK w' cs Av (D.put (strK s) (.held (xpV c.a c.k))) j t := fun t ht j q => by
    obtain ⟨q1, q2, d, q3, q4, q5, q6⟩ := q
    exact ⟨by rw [Go.Maps.has_put_other (strK_ne ht)]; exact q1, q2, d, by rw [Go.Maps.atKey_put_other (strK_ne ht)]; exact q3, q4, q5.keep hk, q6⟩
  by_cases hiK : i ∈ K
  · rw [if_pos (h6 s i hi hiK).1, h5] at hsz
    refine ⟨_, K, hsz ▸ own_tightG ho, h2.put _ _, h3, h4, hsz, ?_, ?_⟩
    · intro t j ht hj
      by_cases q : t = s
      · subst q
        rw [hi] at ht
        cases ht
        exact same
      · exact other t q j (h6 t j ht hj)
    · intro t ht
      have q : t ≠ s := by rintro rfl; exact ht i hiK hi
      rw [Go.Maps.has_put_other (strK_ne q)]
      exact h7 t ht
  · have hn : has D (strK s) = false := h7 s (fun j hj e => by
      rw [hi] at e
      cases e
      exact hiK hj)
    rw [if_neg (by rw [hn]; simp), h5] at hsz
    refine ⟨_, i :: K, ?_, h2.put _ _, List.nodup_cons.2 ⟨hiK, h3⟩, ?_, hsz, ?_, ?_⟩
    · have h9 := own_tightG ho
      have hsz' : size (D.put (Lit.string s.data.toList) (DataW.held (xpV c.a c.k))) = K.length + 1 := hsz
      rw [hsz'] at h9
      exact h9
    · intro j hj
      rcases List.mem_cons.1 hj with rfl | hj
      · exact hil
      · exact h4 j hj
    · intro t j ht hj
      by_cases q : t = s
      · subst q
        rw [hi] at ht
        cases ht
        exact same
      · rcases List.mem_cons.1 hj with rfl | hj
        · exact absurd (firstIx_inj ht hi) q
        · exact other t q j (h6 t j ht hj)
    · intro t ht
      have q : t ≠ s := by rintro rfl; exact ht i (by simp) hi
      rw [Go.Maps.has_put_other (strK_ne q)]
      exact h7 t (fun j hj => ht j (by simp [hj]))
/-- The simplifier: its constants, its map, its compiler. -/
structure SmJ (w : World) (cs : List Cn) (Av : Nat → Prop) (sb mb : Nat) (kp : Option Addr) (p : Option Addr) (cap : Nat) : Prop where
  c0 : w.cell? ⟨sb, 0, none⟩ = some (.slice p cs.length cap)
  c1 : w.cell? ⟨sb, 1, none⟩ = some (.map (some mb))
  c2 : w.cell? ⟨sb, 2, none⟩ = some (.pointer kp)
  m : SmMap Try.prog w cs Av mb
theorem SmJ.next {w w' : World} {cs : List Cn} {Av : Nat → Prop} {sb mb : Nat} {kp p : Option Addr} {cap : Nat} (h : SmJ w cs Av sb mb kp p cap) (hb : Below w.heap.size w w') : SmJ w' cs Av sb mb kp p cap :=
  have K := Keeps.of_below hb
  ⟨K _ _ h.c0, K _ _ h.c1, K _ _ h.c2, h.m.next hb⟩
theorem SmJ.turn {w w' : World} {cs : List Cn} {Av Av' : Nat → Prop} {sb mb : Nat} {kp p : Option Addr} {cap : Nat} (h : SmJ w cs Av sb mb kp p cap) (hg : w.grownBy w' (some mb)) (hm : SmMap Try.prog w' cs Av' mb) : SmJ w' cs Av' sb mb kp p cap :=
  have K := Keeps.of_sm h.m hg
  ⟨K _ _ h.c0, K _ _ h.c1, K _ _ h.c2, hm⟩
end

end Go.Proofs.Ytfoedbfkddoibaa
