/-
  Plain functions on names: no program in sight.
-/
import Derived.WalkKit
import Derived.Lib.Bytealg
import Derived.Lib.Strings
import Derived.Lib.Hide
namespace Go.Proofs.Ytinbkhchhlkjgaa
set_option linter.unusedVariables false
set_option linter.unusedSimpArgs false
open Go Go.RowKit

namespace Nam
def lowB (c : UInt8) : Bool := decide (97 ≤ c.toNat ∧ c.toNat ≤ 122)
def digB (c : UInt8) : Bool := decide (48 ≤ c.toNat ∧ c.toNat ≤ 57)
def wordB (c : UInt8) : Bool := decide ((97 ≤ c.toNat ∧ c.toNat ≤ 122) ∨ (48 ≤ c.toNat ∧ c.toNat ≤ 57) ∨ c.toNat = 95)
/-- A name: 1 to 16 bytes, a small letter first, then small letters, digits, underscores. -/
def isName (l : List UInt8) : Bool := decide (1 ≤ l.length ∧ l.length ≤ 16 ∧ lowB (l.getD 0 0) = true ∧ l.all wordB = true)
def words : List (List UInt8) := [[97, 110, 100], [111, 114], [110, 111, 116], [105, 109, 112, 108, 105, 101, 115], [105, 110], [116, 111], [116, 114, 117, 101], [102, 97, 108, 115, 101], [109, 105, 110], [109, 97, 120], [105, 102], [116, 104, 101, 110], [101, 108, 115, 101]]
def reserved (l : List UInt8) : Bool := words.any fun x => l == x
def declName (l : List UInt8) : Bool := isName l && !reserved l
/-- A name in an expression. -/
def attr (l : List UInt8) : Bool :=
  if Lib.indexByte l 46 = -1 then declName l else isName (l.take (Lib.indexByte l 46).toNat) && isName (l.drop ((Lib.indexByte l 46).toNat + 1))
/-- The first k bytes may begin a name. -/
def good (l : List UInt8) (k : Nat) : Bool := (l.take k).all wordB && (decide (k = 0) || lowB (l.getD 0 0))
theorem good_zero (l : List UInt8) : good l 0 = true := by simp [good]
theorem good_step (l : List UInt8) (k : Nat) (h : k < l.length) : good l (k + 1) = (good l k && (lowB (l.getD k 0) || (decide (0 < k) && wordB (l.getD k 0)))) := by
  unfold good
  have hd : l.getD k 0 = l[k] := by rw [List.getD_eq_getElem?_getD, List.getElem?_eq_getElem h]; rfl
  rw [List.take_succ_eq_append_getElem h, List.all_append, hd]
  cases k with
  | zero =>
    have h0 : l.getD 0 0 = l[0] := hd
    rw [h0]
    generalize l[0] = c
    have : (wordB c && lowB c) = lowB c := by
      rw [Bool.eq_iff_iff, Bool.and_eq_true]; simp only [lowB, wordB, decide_eq_true_eq]; omega
    simp [this]
  | succ k =>
    simp only [Nat.succ_ne_zero, decide_false, Bool.false_or, List.all_cons, List.all_nil, Bool.and_true, Nat.zero_lt_succ, decide_true, Bool.true_and]
    generalize lowB (l.getD 0 0) = y
    generalize (l.take (k + 1)).all wordB = z
    generalize l[k + 1] = c
    have : (lowB c || wordB c) = wordB c := by
      rw [Bool.eq_iff_iff, Bool.or_eq_true]; simp only [lowB, wordB, decide_eq_true_eq]; omega
    rw [this]
    cases z <;> cases y <;> simp
theorem good_all (l : List UInt8) (h1 : 1 ≤ l.length) (h2 : l.length ≤ 16) : good l l.length = isName l := by
  unfold good isName
  rw [List.take_length, Bool.eq_iff_iff]
  have : l.length ≠ 0 := by omega
  simp [this, h1, h2, and_comm]
theorem good_stop (l : List UInt8) (k : Nat) (h1 : k < l.length) (h : good l (k + 1) = false) : isName l = false := by
  rw [Bool.eq_false_iff]
  intro q
  unfold isName at q
  rw [decide_eq_true_eq] at q
  obtain ⟨-, -, q3, q4⟩ := q
  unfold good at h
  rw [q3] at h
  have : (l.take (k + 1)).all wordB = true := by
    rw [List.all_eq_true] at q4 ⊢
    exact fun x hx => q4 x (List.mem_of_mem_take hx)
  rw [this] at h
  simp at h
theorem ix_ge (l : List UInt8) (c : UInt8) : -1 ≤ Lib.indexByte l c := by
  induction l with
  | nil => simp [Lib.indexByte]
  | cons d l ih =>
    rw [Lib.indexByte]
    split
    · omega
    · split <;> omega
theorem ix_none (l : List UInt8) (c : UInt8) : Lib.indexByte l c = -1 ↔ ∀ x ∈ l, x ≠ c := by
  induction l with
  | nil => simp [Lib.indexByte]
  | cons b l ih =>
    rw [Lib.indexByte]
    by_cases h : b = c
    · subst h; simp
    · have h' : (b == c) = false := by simp [h]
      rw [h']
      simp only [Bool.false_eq_true, if_false]
      have hge := ix_ge l c
      split
      · rename_i q; simp at q; simp [h]; exact ih.1 q
      · rename_i q
        simp at q
        constructor
        · intro e; omega
        · intro e; exact absurd (ih.2 fun x hx => e x (by simp [hx])) q
theorem ix_some (l : List UInt8) (c : UInt8) (k : Nat) : Lib.indexByte l c = k ↔ (∃ r, l = l.take k ++ c :: r) ∧ k < l.length ∧ ∀ x ∈ l.take k, x ≠ c := by
  induction l generalizing k with
  | nil => simp [Lib.indexByte]
  | cons b l ih =>
    rw [Lib.indexByte]
    by_cases h : b = c
    · subst h
      simp only [beq_self_eq_true, if_true]
      constructor
      · intro e
        have : k = 0 := by omega
        subst this; simp
      · rintro ⟨-, -, h3⟩
        cases k with
        | zero => rfl
        | succ k => exact absurd rfl (h3 b (by simp))
    · have h' : (b == c) = false := by simp [h]
      rw [h']
      simp only [Bool.false_eq_true, if_false]
      cases k with
      | zero =>
        constructor
        · intro e
          split at e
          · omega
          · rename_i q; simp at q
            have hge := ix_ge l c
            have : Lib.indexByte l c ≠ -1 := q
            omega
        · rintro ⟨⟨r, hr⟩, -, -⟩
          simp at hr; exact absurd hr.1 h
      | succ k =>
        have := ih k
        constructor
        · intro e
          have e' : Lib.indexByte l c = k := by split at e <;> omega
          obtain ⟨⟨r, hr⟩, h2, h3⟩ := this.1 e'
          refine ⟨⟨r, ?_⟩, by simp; omega, ?_⟩
          · rw [List.take_succ_cons, List.cons_append, ← hr]
          · intro x hx; rw [List.take_succ_cons] at hx; rcases List.mem_cons.1 hx with rfl | hx
            · exact h
            · exact h3 x hx
        · rintro ⟨⟨r, hr⟩, h2, h3⟩
          have e' : Lib.indexByte l c = k := this.2 ⟨⟨r, by rw [List.take_succ_cons, List.cons_append] at hr; exact (List.cons.inj hr).2⟩, by simp at h2; omega, fun x hx => h3 x (by rw [List.take_succ_cons]; exact List.mem_cons_of_mem _ hx)⟩
          rw [e']; simp
theorem ix_cases (l : List UInt8) (c : UInt8) : Lib.indexByte l c = -1 ∨ ∃ k : Nat, Lib.indexByte l c = k ∧ k < l.length := by
  have hge := ix_ge l c
  by_cases h : Lib.indexByte l c = -1
  · exact .inl h
  · obtain ⟨k, hk⟩ := Int.eq_ofNat_of_zero_le (show 0 ≤ Lib.indexByte l c by omega)
    exact .inr ⟨k, hk, ((ix_some l c k).1 hk).2.1⟩

end Nam

def nameS (s : ByteArray) : Bool := Nam.isName s.data.toList
def resS (s : ByteArray) : Bool := Nam.reserved s.data.toList
def declS (s : ByteArray) : Bool := Nam.declName s.data.toList
def attrS (s : ByteArray) : Bool := Nam.attr s.data.toList

end Go.Proofs.Ytinbkhchhlkjgaa
