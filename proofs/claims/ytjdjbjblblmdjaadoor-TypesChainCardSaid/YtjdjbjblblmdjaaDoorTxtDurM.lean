/-
  Plain facts on the texts of durations, with no program in sight.
-/
import Derived.Test.YtjdjbjblblmdjaaDoorTxtMath
import Derived.Lib.Bytealg
import Derived.Lib.Strings
namespace Go.Proofs.YtjdjbjblblmdjaaDoor.Txt
set_option linter.unusedVariables false
set_option linter.unusedSimpArgs false
open Go

theorem ix_ge (l : List UInt8) (c : UInt8) : -1 ≤ Lib.indexByte l c := by
  induction l with
  | nil => simp [Lib.indexByte]
  | cons d l ih =>
    rw [Lib.indexByte]
    split
    · omega
    · split <;> omega
theorem ix_none (l : List UInt8) (c : UInt8) : Lib.indexByte l c = -1 ↔ ∀ x ∈ l, x ≠ c := by
  induction l with
  | nil => simp [Lib.indexByte]
  | cons b l ih =>
    rw [Lib.indexByte]
    by_cases h : b = c
    · subst h; simp
    · have h' : (b == c) = false := by simp [h]
      rw [h']
      simp only [Bool.false_eq_true, if_false]
      have hge := ix_ge l c
      split
      · rename_i q; simp at q; simp [h]; exact ih.1 q
      · rename_i q
        simp at q
        constructor
        · intro e; omega
        · intro e; exact absurd (ih.2 fun x hx => e x (by simp [hx])) q
theorem ix_some (l : List UInt8) (c : UInt8) (k : Nat) : Lib.indexByte l c = k ↔ (∃ r, l = l.take k ++ c :: r) ∧ k < l.length ∧ ∀ x ∈ l.take k, x ≠ c := by
  induction l generalizing k with
  | nil => simp [Lib.indexByte]
  | cons b l ih =>
    rw [Lib.indexByte]
    by_cases h : b = c
    · subst h
      simp only [beq_self_eq_true, if_true]
      constructor
      · intro e
        have : k = 0 := by omega
        subst this; simp
      · rintro ⟨-, -, h3⟩
        cases k with
        | zero => rfl
        | succ k => exact absurd rfl (h3 b (by simp))
    · have h' : (b == c) = false := by simp [h]
      rw [h']
      simp only [Bool.false_eq_true, if_false]
      cases k with
      | zero =>
        constructor
        · intro e
          split at e
          · omega
          · rename_i q; simp at q
            have hge := ix_ge l c
            have : Lib.indexByte l c ≠ -1 := q
            omega
        · rintro ⟨⟨r, hr⟩, -, -⟩
          simp at hr; exact absurd hr.1 h
      | succ k =>
        have := ih k
        constructor
        · intro e
          have e' : Lib.indexByte l c = k := by split at e <;> omega
          obtain ⟨⟨r, hr⟩, h2, h3⟩ := this.1 e'
          refine ⟨⟨r, ?_⟩, by simp; omega, ?_⟩
          · rw [List.take_succ_cons, List.cons_append, ← hr]
          · intro x hx; rw [List.take_succ_cons] at hx; rcases List.mem_cons.1 hx with rfl | hx
            · exact h
            · exact h3 x hx
        · rintro ⟨⟨r, hr⟩, h2, h3⟩
          have e' : Lib.indexByte l c = k := this.2 ⟨⟨r, by rw [List.take_succ_cons, List.cons_append] at hr; exact (List.cons.inj hr).2⟩, by simp at h2; omega, fun x hx => h3 x (by rw [List.take_succ_cons]; exact List.mem_cons_of_mem _ hx)⟩
          rw [e']; simp

/-- A duration's text without its sign. -/
def duR (l : List UInt8) : List UInt8 := Lib.trimPrefix l [45]
def duNeg (l : List UInt8) : Bool := Lib.hasPrefix l [45]
/-- Where its colon stands: three from the end. -/
def duK (l : List UInt8) : Nat := (duR l).length - 3
def duH (l : List UInt8) : List UInt8 := (duR l).take (duK l)
def duM (l : List UInt8) : List UInt8 := (duR l).drop (duK l + 1)
def plainL (l : List UInt8) : Bool := decide (l.length = 1) || (decide (1 < l.length) && !(l.getD 0 0 == 48))
/-- The text has the form of a duration. -/
def duB (l : List UInt8) : Bool := decide (4 ≤ (duR l).length ∧ (duR l).length ≤ 14 ∧ (duR l).getD (duK l) 0 = 58 ∧ allD (duH l) = true ∧ allD (duM l) = true ∧ plainL (duH l) = true ∧ ¬ (duNeg l = true ∧ num (duH l) = 0 ∧ num (duM l) = 0))
def duN (l : List UInt8) : Int := 60 * num (duH l) + num (duM l)
def duE (l : List UInt8) : Int := if duB l = true then (if num (duM l) ≤ 59 ∧ duN l ≤ 1099511627776 then 0 else 5) else 1
def duV (l : List UInt8) : Int := if duE l = 0 then (if duNeg l = true then - duN l else duN l) else 0

theorem plain_iff (hh : List UInt8) (h : 1 ≤ hh.length) : plainL hh = true ↔ ¬ ((hh.getD 0 0).toNat = 48 ∧ 1 < hh.length) := by
  cases hh with
  | nil => simp at h
  | cons c t =>
    have hc : (c == 48) = decide (c.toNat = 48) := by
      rw [Bool.eq_iff_iff]; simp only [beq_iff_eq, decide_eq_true_eq]
      exact ⟨fun q => by rw [q]; rfl, fun q => UInt8.toNat_inj.1 q⟩
    unfold plainL
    rw [List.getD_cons_zero, hc, List.length_cons]
    by_cases q : c.toNat = 48
    · simp only [q, decide_true, Bool.not_true, Bool.and_false, Bool.or_false, decide_eq_true_eq, true_and]; omega
    · simp only [q, decide_false, Bool.not_false, Bool.and_true, Bool.or_eq_true, decide_eq_true_eq, false_and, not_false_eq_true, iff_true]; omega
theorem dash_iff (l : List UInt8) : duNeg l = true ↔ ∃ t, l = 45 :: t := by
  unfold duNeg Lib.hasPrefix
  cases l with
  | nil => simp
  | cons c l => simp [List.isPrefixOf]; exact eq_comm
theorem duR_neg (t : List UInt8) : duR (45 :: t) = t := by simp [duR, Lib.trimPrefix, Lib.hasPrefix, List.isPrefixOf]
theorem duR_pos (l : List UInt8) (h : duNeg l = false) : duR l = l := by unfold duR Lib.trimPrefix; rw [show Lib.hasPrefix l [45] = false from h]; simp

theorem duR_len (l : List UInt8) : (duR l).length ≤ l.length := by
  unfold duR Lib.trimPrefix
  cases Lib.hasPrefix l [45] <;> simp
theorem ix_cases (l : List UInt8) (c : UInt8) : Lib.indexByte l c = -1 ∨ ∃ k : Nat, Lib.indexByte l c = k ∧ k < l.length := by
  have hge := ix_ge l c
  by_cases h : Lib.indexByte l c = -1
  · exact .inl h
  · obtain ⟨k, hk⟩ := Int.eq_ofNat_of_zero_le (show 0 ≤ Lib.indexByte l c by omega)
    exact .inr ⟨k, hk, ((ix_some l c k).1 hk).2.1⟩

end Go.Proofs.YtjdjbjblblmdjaaDoor.Txt
