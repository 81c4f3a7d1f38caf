/-
  Plain facts on digits and fixed forms of texts, with no program in sight.
-/
import Derived.WalkKit
import Derived.Lib.ItoaNum
import Derived.Lib.Repeat
namespace Go.Proofs.YtjdjbjblblmdjaaDoor.Txt
set_option linter.unusedVariables false
set_option linter.unusedSimpArgs false
open Go

def isD (c : UInt8) : Bool := decide (48 ≤ c.toNat ∧ c.toNat ≤ 57)
def dv (c : UInt8) : Int := (c.toNat : Int) - 48
/-- The number that digits denote. -/
def num (l : List UInt8) : Int := l.foldl (fun n c => 10 * n + dv c) 0
def allD (l : List UInt8) : Bool := l.all isD

theorem num_snoc (l : List UInt8) (c : UInt8) : num (l ++ [c]) = 10 * num l + dv c := by simp [num]
theorem allD_snoc (l : List UInt8) (c : UInt8) : allD (l ++ [c]) = (allD l && isD c) := by simp [allD]
theorem isD_iff (c : UInt8) : isD c = true ↔ 48 ≤ c.toNat ∧ c.toNat ≤ 57 := by simp [isD]
theorem snoc_ind {P : List UInt8 → Prop} (h0 : P []) (h1 : ∀ l c, P l → P (l ++ [c])) : ∀ l, P l := by
  intro l
  rw [← List.reverse_reverse l]
  induction l.reverse with
  | nil => exact h0
  | cons c t ih => rw [List.reverse_cons]; exact h1 _ _ ih

theorem num_bd (l : List UInt8) (h : allD l = true) : 0 ≤ num l ∧ num l < (10 ^ l.length : Nat) := by
  induction l using snoc_ind with
  | h0 => simp [num]
  | h1 l c ih =>
    rw [allD_snoc, Bool.and_eq_true] at h
    have hc := (isD_iff c).1 h.2
    have := ih h.1
    rw [num_snoc, List.length_append]
    simp only [List.length_cons, List.length_nil, Nat.zero_add, Nat.pow_succ, dv]
    generalize 10 ^ l.length = k at *
    omega

/-- One byte against one of a pattern: 48 stands for any digit. -/
def fitB (c p : UInt8) : Bool := if p = 48 then isD c else c == p
def fits : List UInt8 → List UInt8 → Bool
  | [], [] => true
  | c :: s, p :: q => fitB c p && fits s q
  | _, _ => false
theorem fits_len : ∀ (s p : List UInt8), fits s p = true → s.length = p.length
  | [], [], _ => rfl
  | c :: s, p :: q, h => by simp [fits] at h; simp [fits_len s q h.2]
  | [], _ :: _, h => by simp [fits] at h
  | _ :: _, [], h => by simp [fits] at h
/-- The digits of a number, with zeros in front up to a width. -/
def pad (n : Nat) (k : Nat) : List UInt8 := List.replicate (k - (Lib.decDigits n).length) 48 ++ Lib.decDigits n
theorem pad_len (n k : Nat) (h : (Lib.decDigits n).length ≤ k) : (pad n k).length = k := by simp [pad]; omega

theorem toNat_digit (d : Nat) (h : d < 10) : (UInt8.ofNat (48 + d)).toNat = 48 + d := by
  have : d = 0 ∨ d = 1 ∨ d = 2 ∨ d = 3 ∨ d = 4 ∨ d = 5 ∨ d = 6 ∨ d = 7 ∨ d = 8 ∨ d = 9 := by omega
  rcases this with rfl | rfl | rfl | rfl | rfl | rfl | rfl | rfl | rfl | rfl <;> rfl
theorem dec_allD (n : Nat) : allD (Lib.decDigits n) = true := by
  induction n using Nat.strongRecOn with
  | ind n ih =>
    rw [Lib.decDigits]
    split
    · rename_i h; simp [allD, isD, toNat_digit n h]; omega
    · rename_i h
      rw [allD_snoc, ih (n / 10) (by omega)]
      simp [isD, toNat_digit (n % 10) (by omega)]; omega
theorem dec_num (n : Nat) : num (Lib.decDigits n) = n := by
  induction n using Nat.strongRecOn with
  | ind n ih =>
    rw [Lib.decDigits]
    split
    · rename_i h; simp only [num, dv, List.foldl_cons, List.foldl_nil, toNat_digit n h]; omega
    · rename_i h
      rw [num_snoc, ih (n / 10) (by omega)]
      simp only [dv, toNat_digit (n % 10) (by omega)]
      omega
theorem dec_len_le (n k : Nat) (hk : 1 ≤ k) (h : n < 10 ^ k) : (Lib.decDigits n).length ≤ k := by
  induction k generalizing n with
  | zero => omega
  | succ k ih =>
    rw [Lib.decDigits]
    split
    · simp
    · rename_i h10
      have hk1 : 1 ≤ k := by
        cases k with
        | zero => simp at h; omega
        | succ k => omega
      have := ih (n / 10) hk1 (by rw [Nat.pow_succ] at h; omega)
      rw [List.length_append]; simp; omega

end Go.Proofs.YtjdjbjblblmdjaaDoor.Txt
