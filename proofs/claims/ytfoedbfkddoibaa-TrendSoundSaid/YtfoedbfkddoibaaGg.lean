/-
  Constants as they lie in memory.
  The contracts of the reference's ConstIndex and typed.
  The contract of the reference's typed.
-/
import Derived.Test.YtfoedbfkddoibaaGf
import Derived.Test.YtfoedbfkddoibaaGa
import Derived.Test.YtfoedbfkddoibaaGe
namespace Go.Proofs.Ytfoedbfkddoibaa
section
set_option linter.unusedVariables false
set_option linter.unusedSimpArgs false
open Go.RowKit
open Go.Deep (BT)

/-- A row of constants lies from offset O of block B on: five cells each. -/
def CsAt (w : World) : List Cn → Nat → Nat → Prop
  | [], _, _ => True
  | c :: cs, B, O => (w.cell? ⟨B, O, none⟩ = some (.string c.name) ∧ w.cell? ⟨B, O + 1, none⟩ = some (.int .i64 c.a.op) ∧ w.cell? ⟨B, O + 2, none⟩ = some (.int .i64 c.a.num) ∧ w.cell? ⟨B, O + 3, none⟩ = some (.string c.a.name) ∧ w.cell? ⟨B, O + 4, none⟩ = some (.slice c.a.ptr (len c.k) c.a.cap)) ∧
      ExAt w c.b c.o c.a c.k ∧ CsAt w cs B (O + 5)
def CnOk (c : Cn) : Prop := c.name.size ≤ 9223372036854775807 ∧ ExOk c.a c.k
def CsOk (cs : List Cn) : Prop := ∀ c ∈ cs, CnOk c
/-- The slice of the constants. -/
structure CsV (w : World) (cs : List Cn) (p : Option Addr) : Prop where
  ex : ∃ B O, (cs ≠ [] → p = some ⟨B, O, none⟩) ∧ CsAt w cs B O
  ok : CsOk cs
  small : cs.length ≤ 2932031007402

theorem CsAt.get {w : World} {cs : List Cn} {B O i : Nat} {c : Cn} (h : CsAt w cs B O) (hi : cs[i]? = some c) :
    (w.cell? ⟨B, O + i * 5, none⟩ = some (.string c.name) ∧ w.cell? ⟨B, O + i * 5 + 1, none⟩ = some (.int .i64 c.a.op) ∧ w.cell? ⟨B, O + i * 5 + 2, none⟩ = some (.int .i64 c.a.num) ∧ w.cell? ⟨B, O + i * 5 + 3, none⟩ = some (.string c.a.name) ∧ w.cell? ⟨B, O + i * 5 + 4, none⟩ = some (.slice c.a.ptr (len c.k) c.a.cap)) ∧ ExAt w c.b c.o c.a c.k := by
  induction cs generalizing O i with
  | nil => simp at hi
  | cons d cs ih =>
    cases i with
    | zero => simp at hi; subst hi; simp only [Nat.zero_mul, Nat.add_zero]; exact ⟨h.1, h.2.1⟩
    | succ i =>
      have := ih h.2.2 (by simpa using hi)
      rw [show O + 5 + i * 5 = O + (i + 1) * 5 by omega] at this
      exact this
theorem CsAt.next {w w' : World} {cs : List Cn} {B O : Nat} (h : CsAt w cs B O) (hb : Below w.heap.size w w') : CsAt w' cs B O := by
  induction cs generalizing O with
  | nil => trivial
  | cons c cs ih =>
    obtain ⟨⟨h0, h1, h2, h3, h4⟩, hx, hr⟩ := h
    refine ⟨⟨?_, ?_, ?_, ?_, ?_⟩, hx.next hb, ih hr⟩
    · rw [hb.cell (block_lt_of_cell h0)]; exact h0
    · rw [hb.cell (block_lt_of_cell h1)]; exact h1
    · rw [hb.cell (block_lt_of_cell h2)]; exact h2
    · rw [hb.cell (block_lt_of_cell h3)]; exact h3
    · rw [hb.cell (block_lt_of_cell h4)]; exact h4
theorem CsV.next {w w' : World} {cs : List Cn} {p : Option Addr} (h : CsV w cs p) (hb : Below w.heap.size w w') : CsV w' cs p := by
  obtain ⟨⟨B, O, h1, h2⟩, h3, h4⟩ := h
  exact ⟨⟨B, O, h1, h2.next hb⟩, h3, h4⟩
/-- One constant of the row: its address and what lies there. -/
theorem CsV.get {w : World} {cs : List Cn} {p : Option Addr} (h : CsV w cs p) {i : Nat} {c : Cn} (hi : cs[i]? = some c) : ∃ B O, p = some ⟨B, O, none⟩ ∧
    (w.cell? ⟨B, O + i * 5, none⟩ = some (.string c.name) ∧ w.cell? ⟨B, O + i * 5 + 1, none⟩ = some (.int .i64 c.a.op) ∧ w.cell? ⟨B, O + i * 5 + 2, none⟩ = some (.int .i64 c.a.num) ∧ w.cell? ⟨B, O + i * 5 + 3, none⟩ = some (.string c.a.name) ∧ w.cell? ⟨B, O + i * 5 + 4, none⟩ = some (.slice c.a.ptr (len c.k) c.a.cap)) ∧ ExAt w c.b c.o c.a c.k := by
  obtain ⟨⟨B, O, h1, h2⟩, h3, h4⟩ := h
  obtain ⟨g1, g2⟩ := h2.get hi
  exact ⟨B, O, h1 (by rintro rfl; simp at hi), g1, g2⟩

/-- The first constant of a name among the first n. -/
theorem firstIx_none (s : ByteArray) (cs : List Cn) : firstIx s cs = none ↔ ∀ c ∈ cs, c.name ≠ s := by
  induction cs with
  | nil => simp [firstIx]
  | cons c cs ih =>
    unfold firstIx
    by_cases h : c.name = s
    · simp [h]
    · rw [if_neg h]; simp [ih, h]
theorem firstIx_some (s : ByteArray) (cs : List Cn) (i : Nat) : firstIx s cs = some i ↔ (∃ c, cs[i]? = some c ∧ c.name = s) ∧ ∀ c ∈ cs.take i, c.name ≠ s := by
  induction cs generalizing i with
  | nil => simp [firstIx]
  | cons c cs ih =>
    unfold firstIx
    by_cases h : c.name = s
    · rw [if_pos h]
      constructor
      · intro e; cases e; exact ⟨⟨c, rfl, h⟩, by simp⟩
      · rintro ⟨-, h2⟩
        cases i with
        | zero => rfl
        | succ i => exact absurd h (h2 c (by simp))
    · rw [if_neg h]
      cases i with
      | zero =>
        constructor
        · intro e; cases q : firstIx s cs <;> simp [q] at e
        · rintro ⟨⟨d, hd, hn⟩, -⟩; simp at hd; subst hd; exact absurd hn h
      | succ i =>
        have hi := ih i
        have e1 : ((firstIx s cs).map (· + 1) = some (i + 1)) ↔ firstIx s cs = some i := by
          cases firstIx s cs <;> simp
        rw [e1, hi]
        simp [h]
theorem firstIx_lt (s : ByteArray) (cs : List Cn) (i : Nat) (h : firstIx s cs = some i) : i < cs.length := by
  obtain ⟨⟨c, hc, -⟩, -⟩ := (firstIx_some s cs i).1 h
  exact (List.getElem?_eq_some_iff.1 hc).1
theorem firstIx_take (s : ByteArray) (cs : List Cn) (n : Nat) : firstIx s (cs.take n) = match firstIx s cs with | some i => if i < n then some i else none | none => none := by
  induction cs generalizing n with
  | nil => simp [firstIx]
  | cons c cs ih =>
    cases n with
    | zero =>
      simp only [List.take_zero]
      cases q : firstIx s (c :: cs) <;> simp [firstIx]
    | succ n =>
      rw [List.take_succ_cons, firstIx, firstIx]
      by_cases h : c.name = s
      · simp [h]
      · rw [if_neg h, if_neg h, ih n]
        cases firstIx s cs with
        | none => rfl
        | some i => by_cases q : i < n <;> simp [q]
end

section
set_option linter.unusedVariables false
set_option linter.unusedSimpArgs false
open Go.ChangeShapes Go.WideShapes Go.ChangeAt Go.RowKit
open Go.Deep (BT)

end

section
set_option linter.unusedVariables false
set_option linter.unusedSimpArgs false
open Go.ChangeShapes Go.WideShapes Go.ChangeAt Go.RowKit
open Go.Deep (BT)

theorem Try.infoI : (Try.prog.info? 3).map (fun i => (i.zero, i.size, i.bytes)) = some (some (.int .i64 0), 1, 8) := by kernel_rfl
def intV (L : List Int) : List Value := L.map fun x => Value.int .i64 x
theorem own_below {w w' : World} {base : Nat} {e : TypeId} {size : Nat} {v : Value} {n : Nat} {xs : List Value} (h : w.ownsRow base e size v n xs) (hb : Below w.heap.size w w') : w'.ownsRow base e size v n xs :=
  h.kept (gb_of_below hb none) (by cases v.ownBlock <;> simp)
theorem ints_of_own {w : World} {base : Nat} {e : TypeId} {v : Value} {n : Nat} {L : List Int} (h : w.ownsRow base e 1 v n (intV L)) : IntsAt w v L := by
  have hl := h.1
  simp [intV] at hl
  rcases h.2 with ⟨hv, h0⟩ | ⟨g, cap, cur, hv, -⟩
  · left
    exact ⟨by rw [h0] at hl; exact List.length_eq_zero_iff.1 hl, none, 0, hv⟩
  · refine .inr ⟨g, cap, by rw [hv, hl], fun i u hu => ?_⟩
    subst hv
    have hi : i < n * 1 := by
      have := (List.getElem?_eq_some_iff.1 hu).1
      omega
    rw [h.cellAt i hi]; simp [intV, hu]

/-- What the types of a row come to, some of them known. -/
def restF (L : List Int) (t : Int × List Int) : Int × List Int := if t.1 = 0 then (0, L ++ t.2) else (t.1, [])
theorem restF_nil (t : Int × List Int) (h : t.1 ≠ 0 → t.2 = []) : restF [] t = t := by
  unfold restF
  by_cases q : t.1 = 0
  · rw [if_pos q, List.nil_append, ← q]
  · rw [if_neg q, ← h q]
theorem tyF_err (look : Look) (sc : Int) (T : Fo) (h : (tyF look sc T).1 ≠ 0) : (tyF look sc T).2 = [] := by
  cases T with
  | nil => rfl
  | node b o a k r =>
    rw [tyF_node] at h ⊢
    by_cases h1 : (tyT look sc a k).2 = 0
    · rw [if_pos h1] at h ⊢
      by_cases h2 : (tyF look sc r).1 = 0
      · rw [if_pos h2] at h; exact absurd rfl h
      · rw [if_neg h2]
    · rw [if_neg h1]
theorem restF_node (L : List Int) (look : Look) (sc : Int) (b o : Nat) (a : Nd) (k r : Fo) :
    ((tyT look sc a k).2 = 0 → restF L (tyF look sc (.node b o a k r)) = restF (L ++ [(tyT look sc a k).1]) (tyF look sc r)) ∧
    ((tyT look sc a k).2 ≠ 0 → restF L (tyF look sc (.node b o a k r)) = ((tyT look sc a k).2, [])) := by
  rw [tyF_node]
  constructor
  · intro h
    rw [if_pos h]
    unfold restF
    by_cases h2 : (tyF look sc r).1 = 0
    · simp [h2]
    · rw [if_neg h2, if_neg h2, if_neg h2]
  · intro h
    rw [if_neg h]; unfold restF; rw [if_neg h]

end

end Go.Proofs.Ytfoedbfkddoibaa
