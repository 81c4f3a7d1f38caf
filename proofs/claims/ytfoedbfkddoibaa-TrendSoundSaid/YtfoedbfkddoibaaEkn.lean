/-
  Attributes that are given, their map, and the contract of eval.known.
-/
import Derived.Test.YtfoedbfkddoibaaFcm
namespace Go.Proofs.Ytfoedbfkddoibaa
set_option linter.unusedVariables false
set_option linter.unusedSimpArgs false
open Go.ChangeShapes Go.WideShapes Go.ChangeAt Go.RowKit
open Go.Maps (has size IsMap)
open Go.Deep (BT)

/-- An attribute's value. -/
structure Av where
  name : ByteArray
  val : Int
def AvAt (w : World) : List Av → Nat → Nat → Prop
  | [], _, _ => True
  | a :: l, B, O => (w.cell? ⟨B, O, none⟩ = some (.string a.name) ∧ w.cell? ⟨B, O + 1, none⟩ = some (.int .i64 a.val)) ∧ AvAt w l B (O + 2)
def AvOk (a : Av) : Prop := a.name.size ≤ 9223372036854775807 ∧ i64B a.val
structure AvV (w : World) (L : List Av) (p : Option Addr) : Prop where
  ex : ∃ B O, (L ≠ [] → p = some ⟨B, O, none⟩) ∧ AvAt w L B O
  ok : ∀ a ∈ L, AvOk a
  small : L.length ≤ 2932031007402
theorem AvAt.get {w : World} {L : List Av} {B O i : Nat} {a : Av} (h : AvAt w L B O) (hi : L[i]? = some a) : w.cell? ⟨B, O + i * 2, none⟩ = some (.string a.name) ∧ w.cell? ⟨B, O + i * 2 + 1, none⟩ = some (.int .i64 a.val) := by
  induction L generalizing O i with
  | nil => simp at hi
  | cons d L ih =>
    cases i with
    | zero => simp at hi; subst hi; simp only [Nat.zero_mul, Nat.add_zero]; exact h.1
    | succ i =>
      have := ih h.2 (by simpa using hi)
      rw [show O + 2 + i * 2 = O + (i + 1) * 2 by omega] at this
      exact this
theorem AvAt.keep {w w' : World} {L : List Av} {B O : Nat} (h : AvAt w L B O) (hk : Keeps w w') : AvAt w' L B O := by
  induction L generalizing O with
  | nil => trivial
  | cons a l ih => exact ⟨⟨hk _ _ h.1.1, hk _ _ h.1.2⟩, ih h.2⟩
theorem AvV.keep {w w' : World} {L : List Av} {p : Option Addr} (h : AvV w L p) (hk : Keeps w w') : AvV w' L p := by
  obtain ⟨⟨B, O, h1, h2⟩, h3, h4⟩ := h
  exact ⟨⟨B, O, h1, h2.keep hk⟩, h3, h4⟩
theorem AvV.get {w : World} {L : List Av} {p : Option Addr} (h : AvV w L p) {i : Nat} {a : Av} (hi : L[i]? = some a) : ∃ B O, p = some ⟨B, O, none⟩ ∧ w.cell? ⟨B, O + i * 2, none⟩ = some (.string a.name) ∧ w.cell? ⟨B, O + i * 2 + 1, none⟩ = some (.int .i64 a.val) := by
  obtain ⟨⟨B, O, h1, h2⟩, h3, h4⟩ := h
  exact ⟨B, O, h1 (by rintro rfl; simp at hi), h2.get hi⟩
/-- The first value that is given for a name. -/
def firstAv (s : ByteArray) : List Av → Option Int
  | [] => none
  | a :: l => if a.name = s then some a.val else firstAv s l
theorem firstAv_snoc (s : ByteArray) (L : List Av) (a : Av) : firstAv s (L ++ [a]) = match firstAv s L with | some v => some v | none => if a.name = s then some a.val else none := by
  induction L with
  | nil => rfl
  | cons d L ih =>
    show (if d.name = s then some d.val else firstAv s (L ++ [a])) = _
    by_cases h : d.name = s
    · simp [firstAv, h]
    · simp only [firstAv, if_neg h]; exact ih
theorem firstAv_i64 (s : ByteArray) (L : List Av) (v : Int) (h : ∀ a ∈ L, AvOk a) (hv : firstAv s L = some v) : i64B v := by
  induction L with
  | nil => cases hv
  | cons d L ih =>
    unfold firstAv at hv
    split at hv
    · cases hv; exact (h d (by simp)).2
    · exact ih (fun a ha => h a (by simp [ha])) hv
def GvMap (P : Program) (w : World) (L : List Av) (j b : Nat) : Prop :=
  ∃ D : DataW Unit, w.ownsMap P 9 (plainElem P 3) b j D ∧ IsMap D ∧ ∀ s : ByteArray, match firstAv s (L.take j) with
    | some v => has D (strK s) = true ∧ D.atKey (strK s) (.lit (.int .i64 0)) = .lit (.int .i64 v)
    | none => has D (strK s) = false
theorem GvMap.kept {P : Program} {w w' : World} {L : List Av} {j b : Nat} {row : Option Nat} (h : GvMap P w L j b) (hg : w.grownBy w' row) (hne : some b ≠ row) : GvMap P w' L j b := by
  obtain ⟨D, h1, h2, h3⟩ := h
  exact ⟨D, h1.kept hg hne, h2, h3⟩
theorem GvMap.next {P : Program} {w w' : World} {L : List Av} {j b : Nat} (h : GvMap P w L j b) (hb : Below w.heap.size w w') : GvMap P w' L j b := h.kept (grw_of_below none hb) (by simp)
theorem GvMap.start (P : Program) (w : World) (L : List Av) : GvMap P (w.alloc (.map #[] 0)) L 0 w.heap.size :=
  ⟨.map [], World.ownsMap_made _ _ _ _, ⟨[], rfl⟩, fun s => rfl⟩
theorem GvMap.lt {P : Program} {w : World} {L : List Av} {j b : Nat} (h : GvMap P w L j b) : b < w.heap.size := by
  obtain ⟨D, ⟨es, clock, hb, -⟩, -⟩ := h
  exact (Array.getElem?_eq_some_iff.1 hb).1
theorem gv_look {w : World} {L : List Av} {j b : Nat} (h : GvMap Try.prog w L j b) (s : ByteArray) (hs : s.size ≤ maxLen) : ∃ (v : Int) (hb : Bool), (Instr.lookup 61 (.map (some b)) (.string s) true).run Try.prog w = .ok (.tuple #[.int .i64 v, .bool hb]) w ∧ hb = (firstAv s (L.take j)).isSome := by
  obtain ⟨D, h1, h2, h3⟩ := h
  obtain ⟨v, ps, hrun, hv⟩ := h1.look_ok Try.keyS Try.underlying61 (Try.zeroI w) (plainElem_int Try.underlying3 (by decide)) (Go.WideMaps.keyOf_string_mk Try.underlying9 hs)
  obtain ⟨c, rfl, hc, -⟩ := plainElem_int_inv Try.underlying3 hv
  refine ⟨c, _, hrun, ?_⟩
  have q := h3 s
  cases f : firstAv s (L.take j) with
  | some i => rw [f] at q; exact q.1
  | none => rw [f] at q; exact q
theorem gv_put {w : World} {L : List Av} {j b : Nat} {a : Av} (h : GvMap Try.prog w L j b) (ha : L[j]? = some a) (hok : AvOk a) (hj : j < maxLen) (hf : firstAv a.name (L.take j) = none) :
    ∃ w', (Instr.mapUpdate 61 (.map (some b)) (.string a.name) (.int .i64 a.val)).run Try.prog w = .ok () w' ∧ GvMap Try.prog w' L (j + 1) b ∧ w.grownBy w' (some b) := by
  obtain ⟨D, h1, h2, h3⟩ := h
  obtain ⟨w', hrun, ho, hg⟩ := h1.update Try.keyS Try.underlying61 hj (Go.WideMaps.keyOf_string_mk Try.underlying9 hok.1) (plainElem_int Try.underlying3 (a := a.val) (WalkArith.wf_i64 hok.2))
  refine ⟨w', hrun, ⟨_, ho, h2.put _ _, fun s => ?_⟩, hg⟩
  have q := h3 s
  have hn := h3 a.name
  rw [hf] at hn
  have et : L.take (j + 1) = L.take j ++ [a] := by rw [List.take_add_one]; simp [ha]
  rw [et, firstAv_snoc]
  by_cases e : a.name = s
  · subst e
    rw [hf]
    simp only [if_true]
    exact ⟨Go.Maps.has_put_same h2 (by first | trivial | exact .inl ⟨_, rfl⟩ | simp [WideAt.IsKeyLit, strK, intK]) _, Go.Maps.atKey_put_same h2 (by first | trivial | exact .inl ⟨_, rfl⟩ | simp [WideAt.IsKeyLit, strK, intK]) _ _⟩
  · have hne : strK s ≠ strK a.name := strK_ne (fun q => e q.symm)
    cases f : firstAv s (L.take j) with
    | some i =>
      rw [f] at q
      exact ⟨(Go.Maps.has_put_other hne _).trans q.1, (Go.Maps.atKey_put_other hne _ _).trans q.2⟩
    | none =>
      rw [f] at q
      simp only [if_neg e]
      exact (Go.Maps.has_put_other hne _).trans q
theorem gv_keep {w : World} {L : List Av} {j b : Nat} {a : Av} (h : GvMap Try.prog w L j b) (ha : L[j]? = some a) {v : Int} (hf : firstAv a.name (L.take j) = some v) : GvMap Try.prog w L (j + 1) b := by
  obtain ⟨D, h1, h2, h3⟩ := h
  refine ⟨D, h1.mono (Nat.le_succ _), h2, fun s => ?_⟩
  have q := h3 s
  have et : L.take (j + 1) = L.take j ++ [a] := by rw [List.take_add_one]; simp [ha]
  rw [et, firstAv_snoc]
  cases f : firstAv s (L.take j) with
  | some i => rw [f] at q; exact q
  | none =>
    rw [f] at q
    have : ¬ a.name = s := by rintro rfl; rw [hf] at f; cases f
    simp only [if_neg this]
    exact q

/-- All attributes of the scope in an expression are given. -/
def knF (sc : Int) (L : List Av) : Fo → Bool
  | .nil => true
  | .node _ _ a k r => (if a.op = 6 then (firstAv a.name L).isSome || decide (atE sc a.name ≠ 0) else knF sc L k) && knF sc L r
def knT (sc : Int) (L : List Av) (a : Nd) (k : Fo) : Bool := if a.op = 6 then (firstAv a.name L).isSome || decide (atE sc a.name ≠ 0) else knF sc L k
def KnwC (b o : Nat) (a : Nd) (k : Fo) : Prop := ∀ (w : World) (L : List Av) (gb : Nat) (sc : Int), GvMap Try.prog w L L.length gb → ExAt w b o a k → ExOk a k →
  Calls Try.prog 25 #[.int .i64 sc, .map (some gb), .agg #[.int .i64 a.op, .int .i64 a.num, .string a.name, .slice a.ptr (len k) a.cap]] w fun e w' => e = .returned (.bool (knT sc L a k)) ∧ Below w.heap.size w w'

set_option maxHeartbeats 4000000 in
set_option maxRecDepth 100000 in
theorem known_any (b o : Nat) (a : Nd) (k : Fo) : KnwC b o a k := by
  refine tree_of (P := KnwC) ?_ b o a k
  clear b o a k
  intro b o a k ih w L gb sc hm hx hok
  obtain ⟨op, num, name, ptr, acap⟩ := a
  show Calls Try.prog 25 #[.int .i64 sc, .map (some gb), .agg #[.int .i64 op, .int .i64 num, .string name, .slice ptr (len k) acap]] w _
  have IH := Lib.hid ih
  have HM := Lib.hid hm
  have HE := Lib.hid hx
  have HOK := Lib.hid hok
  have hs : name.size ≤ 9223372036854775807 := hok.1.2.2.1
  have hk63 : len k ≤ 9223372036854775807 := hok.1.2.2.2
  have R : Hid (knT sc L ⟨op, num, name, ptr, acap⟩ k = if op = 6 then (firstAv name L).isSome || decide (atE sc name ≠ 0) else knF sc L k) := rfl
  generalize knT sc L ⟨op, num, name, ptr, acap⟩ k = R0 at *
  clear ih hm hx hok
  have B0 : Hid (Below w.heap.size w (w.alloc (.cells #[.int .i64 op, .int .i64 num, .string name, .slice ptr (len k) acap] 31))) := (Below.refl _ _).alloc (Nat.le_refl _) _
  go_enter Try.func25, Try.ntmps25
  by_cases h6 : op = 6
  · have b6 : (op == 6) = true := by simp [h6]
    have RQ : Hid (R0 = ((firstAv name L).isSome || decide (atE sc name ≠ 0))) := by unfold Hid; rw [R.out, if_pos h6]
    clear h6 R
    go_wp2_with fail
    refine (attr_any sc name _).mono ?_
    rintro e w1 ⟨rfl, hw⟩
    subst hw
    obtain ⟨v, hb, hrun, hv⟩ := gv_look (HM.out.next B0.out) name hs
    rw [List.take_length] at hv
    rw [← hv] at RQ
    clear hv
    by_cases h0 : atE sc name = 0
    · have b0 : (atE sc name != 0) = false := by simp [h0]
      have RZ : Hid (R0 = hb) := by unfold Hid; rw [RQ.out]; simp [h0]
      clear h0
      cases hb
      · go_wp2
        go_ret
        exact ⟨ret_bool RZ.out.symm, B0.out⟩
      · go_wp2
        go_ret
        exact ⟨ret_bool RZ.out.symm, B0.out⟩
    · have b0 : (atE sc name != 0) = true := by simp [h0]
      have RZ : Hid (R0 = true) := by unfold Hid; rw [RQ.out]; simp [h0]
      clear h0
      cases hb
      · go_wp2
        go_ret
        exact ⟨ret_bool RZ.out.symm, B0.out⟩
      · go_wp2
        go_ret
        exact ⟨ret_bool RZ.out.symm, B0.out⟩
  · have b6 : (op == 6) = false := by simp [h6]
    have RQ : Hid (R0 = knF sc L k) := by unfold Hid; rw [R.out, if_neg h6]
    clear h6 R
    go_wp2_with fail
    go_loopw [38] (fun i wr => ∃ (j : Nat) (r : Fo), i = .int .i64 j ∧ Hid (j + len r = len k ∧ FoAt wr r b (o + j * 4) ∧ FoOk r ∧ AllT KnwC r ∧ knF sc L r = R0 ∧ GvMap Try.prog wr L L.length gb ∧ Below w.heap.size w wr)) (fun i _ => len k - (intOf i).toNat)
    case atStart =>
      refine ⟨0, k, rfl, by omega, ?_, HOK.out.2, IH.out, RQ.out.symm, HM.out.next B0.out, B0.out⟩
      rw [Nat.zero_mul, Nat.add_zero]; exact HE.out.2.next B0.out
    case round =>
      obtain ⟨j, r, rfl, HR⟩ := hrel
      cases r with
      | nil =>
        have hj : ¬ (j : Int) < (len k : Int) := by have := HR.out.1; simp [len] at this; omega
        go_wp2
        go_ret
        exact ⟨ret_bool HR.out.2.2.2.2.1, HR.out.2.2.2.2.2.2⟩
      | node b1 o1 a1 k1 r1 =>
        have hj : j < len k := by have := HR.out.1; simp [len] at this; omega
        obtain rfl : ptr = some ⟨b, o, none⟩ := HE.out.1 (by rintro rfl; simp [len] at hj)
        obtain ⟨⟨c0, c1, c2, c3⟩, hp1, hk1, hr1⟩ := HR.out.2.1
        have E1 : Hid (ExAt wr b1 o1 a1 k1) := ⟨hp1, hk1⟩
        have N1 := Lib.hid hr1
        clear hp1 hk1 hr1
        have hj1 : (j : Int) < (len k : Int) := by omega
        have hj0 : (0 : Int) ≤ (j : Int) := by omega
        have ST : Hid (R0 = (knT sc L a1 k1 && knF sc L r1)) := by unfold Hid; rw [← HR.out.2.2.2.2.1]; rfl
        have AB : Hid (Below wr.heap.size wr (wr.alloc (.cells #[.int .i64 a1.op, .int .i64 a1.num, .string a1.name, .slice a1.ptr (len k1) a1.cap] 31))) := (Below.refl _ _).alloc (Nat.le_refl _) _
        go_wp2_with fail
        generalize wr.alloc (.cells #[.int .i64 a1.op, .int .i64 a1.num, .string a1.name, .slice a1.ptr (len k1) a1.cap] 31) = wb at *
        refine (HR.out.2.2.2.1.1 wb L gb sc (HR.out.2.2.2.2.2.1.next AB.out) (E1.out.next AB.out) ⟨HR.out.2.2.1.1, HR.out.2.2.1.2.1⟩).mono ?_
        generalize knT sc L a1 k1 = kk at *
        rintro e w2 ⟨rfl, hb⟩
        have B2 : Hid (Below wr.heap.size wr w2) := AB.out.trans (hb.mono AB.out.size)
        clear hb c0 c1 c2 c3
        cases kk with
        | true =>
          go_wp2
          go_roundw
          case rel =>
            refine ⟨j + 1, r1, by go_num, ?_, ?_, HR.out.2.2.1.2.2, HR.out.2.2.2.1.2, by rw [ST.out]; simp, HR.out.2.2.2.2.2.1.next B2.out, HR.out.2.2.2.2.2.2.trans (B2.out.mono HR.out.2.2.2.2.2.2.size)⟩
            · have := HR.out.1; simp [len] at this; omega
            · rw [Nat.add_mul, Nat.one_mul, ← Nat.add_assoc]; exact N1.out.next B2.out
          case measure => simp [intOf]; omega
        | false =>
          go_wp2
          go_ret
          exact ⟨ret_bool (by rw [ST.out]; rfl), HR.out.2.2.2.2.2.2.trans (B2.out.mono HR.out.2.2.2.2.2.2.size)⟩

end Go.Proofs.Ytfoedbfkddoibaa
