/-
  Attributes that are given, their map, and the contract of eval.known.
-/
import Derived.Test.YtfoedbfkddoibaaGreatFcm
namespace Go.Proofs.YtfoedbfkddoibaaGreat
set_option linter.unusedVariables false
set_option linter.unusedSimpArgs false
open Go.ChangeShapes Go.WideShapes Go.ChangeAt Go.RowKit
open Go.Maps (has size IsMap)
open Go.Deep (BT)

/-- An attribute's value. -/
structure Av where
  name : ByteArray
  val : Int
def AvAt (w : World) : List Av → Nat → Nat → Prop
  | [], _, _ => True
  | a :: l, B, O => (w.cell? ⟨B, O, none⟩ = some (.string a.name) ∧ w.cell? ⟨B, O + 1, none⟩ = some (.int .i64 a.val)) ∧ AvAt w l B (O + 2)
def AvOk (a : Av) : Prop := a.name.size ≤ 9223372036854775807 ∧ i64B a.val
structure AvV (w : World) (L : List Av) (p : Option Addr) : Prop where
  ex : ∃ B O, (L ≠ [] → p = some ⟨B, O, none⟩) ∧ AvAt w L B O
  ok : ∀ a ∈ L, AvOk a
  small : L.length ≤ 2932031007402
theorem AvAt.get {w : World} {L : List Av} {B O i : Nat} {a : Av} (h : AvAt w L B O) (hi : L[i]? = some a) : w.cell? ⟨B, O + i * 2, none⟩ = some (.string a.name) ∧ w.cell? ⟨B, O + i * 2 + 1, none⟩ = some (.int .i64 a.val) := by
  induction L generalizing O i with
  | nil => simp at hi
  | cons d L ih =>
    cases i with
    | zero => simp at hi; subst hi; simp only [Nat.zero_mul, Nat.add_zero]; exact h.1
    | succ i =>
      have := ih h.2 (by simpa using hi)
      rw [show O + 2 + i * 2 = O + (i + 1) * 2 by omega] at this
      exact this
theorem AvAt.keep {w w' : World} {L : List Av} {B O : Nat} (h : AvAt w L B O) (hk : Keeps w w') : AvAt w' L B O := by
  induction L generalizing O with
  | nil => trivial
  | cons a l ih => exact ⟨⟨hk _ _ h.1.1, hk _ _ h.1.2⟩, ih h.2⟩
theorem AvV.keep {w w' : World} {L : List Av} {p : Option Addr} (h : AvV w L p) (hk : Keeps w w') : AvV w' L p := by
  obtain ⟨⟨B, O, h1, h2⟩, h3, h4⟩ := h
  exact ⟨⟨B, O, h1, h2.keep hk⟩, h3, h4⟩
theorem AvV.get {w : World} {L : List Av} {p : Option Addr} (h : AvV w L p) {i : Nat} {a : Av} (hi : L[i]? = some a) : ∃ B O, p = some ⟨B, O, none⟩ ∧ w.cell? ⟨B, O + i * 2, none⟩ = some (.string a.name) ∧ w.cell? ⟨B, O + i * 2 + 1, none⟩ = some (.int .i64 a.val) := by
  obtain ⟨⟨B, O, h1, h2⟩, h3, h4⟩ := h
  exact ⟨B, O, h1 (by rintro rfl; simp at hi), h2.get hi⟩
/-- The first value that is given for a name. -/
def firstAv (s : ByteArray) : List Av → Option Int
  | [] => none
  | a :: l => if a.name = s then some a.val else firstAv s l
theorem firstAv_i64 (s : ByteArray) (L : List Av) (v : Int) (h : ∀ a ∈ L, AvOk a) (hv : firstAv s L = some v) : i64B v := by
  induction L with
  | nil => cases hv
  | cons d L ih =>
    unfold firstAv at hv
    split at hv
    · cases hv; exact (h d (by simp)).2
    · exact ih (fun a ha => h a (by simp [ha])) hv
end Go.Proofs.YtfoedbfkddoibaaGreat
