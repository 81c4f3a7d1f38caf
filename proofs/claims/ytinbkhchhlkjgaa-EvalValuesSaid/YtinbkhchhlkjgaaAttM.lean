/-
  Plain functions on attributes: their names and types. No program in sight.
-/
import Derived.Test.YtinbkhchhlkjgaaNamM
import Derived.Lib.Strings
namespace Go.Proofs.Ytinbkhchhlkjgaa
set_option linter.unusedVariables false
set_option linter.unusedSimpArgs false
open Go Go.RowKit

namespace Att
def duty1 : List (List UInt8) := [[108, 101, 103, 115], [104, 101, 97, 100, 115], [116, 121, 112, 101, 115]]
def duty2 : List (List UInt8) := [[98, 108, 111, 99, 107], [115, 112, 97, 110], [110, 105, 103, 104, 116], [108, 111, 110, 103, 101, 115, 116], [115, 104, 111, 114, 116, 101, 115, 116], [115, 104, 105, 102, 116]]
def duty3 : List (List UInt8) := [[115, 116, 97, 114, 116], [101, 110, 100]]
def pair1 : List (List UInt8) := [[100, 117, 116, 105, 101, 115], [108, 101, 103, 115], [104, 101, 97, 100, 115], [100, 97, 121, 115]]
def pair2 : List (List UInt8) := [[98, 108, 111, 99, 107], [115, 112, 97, 110], [99, 114, 101, 100, 105, 116]]
def rest : List UInt8 := [114, 101, 115, 116]
def nights : List UInt8 := [110, 105, 103, 104, 116, 115]
def home : List UInt8 := [104, 111, 109, 101]
def before : List UInt8 := [98, 101, 102, 111, 114, 101, 46]
def after : List UInt8 := [97, 102, 116, 101, 114, 46]
def isIn (l : List UInt8) (ws : List (List UInt8)) : Bool := ws.any fun x => l == x
/-- The type of an attribute of a duty: 1 number, 2 duration, 3 clock, 4 bool; 0: none. -/
def dutyT (l : List UInt8) : Int := if isIn l duty1 = true then 1 else if isIn l duty2 = true then 2 else if isIn l duty3 = true then 3 else 0
def pairT (l : List UInt8) : Int := if isIn l pair1 = true then 1 else if isIn l pair2 = true then 2 else 0
def restT (l : List UInt8) : Int := if (l == rest) = true then 2 else if (l == nights) = true then 1 else if (l == home) = true then 4 else
  if Lib.hasPrefix l before = true then dutyT (l.drop 7) else if Lib.hasPrefix l after = true then dutyT (l.drop 6) else 0
def atT (sc : Int) (l : List UInt8) : Int := if sc = 1 then dutyT l else if sc = 2 then restT l else if sc = 3 then pairT l else 0
/-- The attributes of a scope, in order. -/
def dutyL : List (List UInt8) := duty1 ++ duty2 ++ duty3
def restL : List (List UInt8) := [rest, nights, home] ++ dutyL.map (before ++ ·) ++ dutyL.map (after ++ ·)
def pairL : List (List UInt8) := pair1 ++ pair2
def listL (sc : Int) : List (List UInt8) := if sc = 1 then dutyL else if sc = 2 then restL else if sc = 3 then pairL else []
/-- The type that the reference gives to a name of a list. -/
def num1 : List (List UInt8) := [[108, 101, 103, 115], [104, 101, 97, 100, 115], [116, 121, 112, 101, 115], [110, 105, 103, 104, 116, 115], [100, 117, 116, 105, 101, 115], [100, 97, 121, 115]]
def kindR (l : List UInt8) : Int := if isIn l num1 = true then 1 else if isIn l duty3 = true then 3 else if (l == home) = true then 4 else 2
def refT (L : List (List UInt8)) (l : List UInt8) : Int := if isIn l L = true then kindR l else 0
theorem isIn_iff (l : List UInt8) (ws : List (List UInt8)) : isIn l ws = true ↔ l ∈ ws := by
  unfold isIn; rw [List.any_eq_true]
  exact ⟨fun ⟨x, hx, he⟩ => by rw [eq_of_beq he]; exact hx, fun h => ⟨l, h, by simp⟩⟩
theorem ref_duty (l : List UInt8) : refT dutyL l = dutyT l := by
  unfold refT
  by_cases h : l ∈ dutyL
  · rw [if_pos ((isIn_iff _ _).2 h)]
    revert l
    decide
  · rw [if_neg (fun q => h ((isIn_iff _ _).1 q))]
    unfold dutyT
    unfold dutyL at h
    simp only [List.mem_append, not_or] at h
    rw [if_neg (fun q => h.1.1 ((isIn_iff _ _).1 q)), if_neg (fun q => h.1.2 ((isIn_iff _ _).1 q)), if_neg (fun q => h.2 ((isIn_iff _ _).1 q))]
theorem ref_pair (l : List UInt8) : refT pairL l = pairT l := by
  unfold refT
  by_cases h : l ∈ pairL
  · rw [if_pos ((isIn_iff _ _).2 h)]
    revert l
    decide
  · rw [if_neg (fun q => h ((isIn_iff _ _).1 q))]
    unfold pairT
    unfold pairL at h
    simp only [List.mem_append, not_or] at h
    rw [if_neg (fun q => h.1 ((isIn_iff _ _).1 q)), if_neg (fun q => h.2 ((isIn_iff _ _).1 q))]
theorem pre_iff (l p : List UInt8) : Lib.hasPrefix l p = true ↔ l.take p.length = p := by
  unfold Lib.hasPrefix
  rw [List.isPrefixOf_iff_prefix, List.prefix_iff_eq_take]
  exact eq_comm
theorem duty_nil : dutyT [] = 0 := by decide
theorem ref_rest (l : List UInt8) (h1 : ¬ (7 < l.length ∧ l.take 7 = before)) (h2 : ¬ (6 < l.length ∧ l.take 6 = after)) : refT restL l = restT l := by
  have n1 : ∀ d, dutyT d ≠ 0 → l ≠ before ++ d := by
    rintro d hd rfl
    apply h1
    cases d with
    | nil => exact absurd duty_nil hd
    | cons c d => exact ⟨by simp [before], by simp [before]⟩
  have n2 : ∀ d, dutyT d ≠ 0 → l ≠ after ++ d := by
    rintro d hd rfl
    apply h2
    cases d with
    | nil => exact absurd duty_nil hd
    | cons c d => exact ⟨by simp [after], by simp [after]⟩
  have hall : ∀ d ∈ dutyL, dutyT d ≠ 0 := by decide
  have z1 : Lib.hasPrefix l before = true → dutyT (l.drop 7) = 0 := by
    intro q
    rw [pre_iff] at q
    have hl : l = before ++ l.drop 7 := by
      conv => lhs; rw [← List.take_append_drop 7 l]
      rw [show l.take 7 = before from q]
    by_cases z : dutyT (l.drop 7) = 0
    · exact z
    · exact absurd hl (n1 _ z)
  have z2 : Lib.hasPrefix l after = true → dutyT (l.drop 6) = 0 := by
    intro q
    rw [pre_iff] at q
    have hl : l = after ++ l.drop 6 := by
      conv => lhs; rw [← List.take_append_drop 6 l]
      rw [show l.take 6 = after from q]
    by_cases z : dutyT (l.drop 6) = 0
    · exact z
    · exact absurd hl (n2 _ z)
  unfold refT restT
  by_cases r1 : l = rest
  · subst r1; decide
  · by_cases r2 : l = nights
    · subst r2; decide
    · by_cases r3 : l = home
      · subst r3; decide
      · have hn : isIn l restL = false := by
          rw [Bool.eq_false_iff]
          intro q
          rw [isIn_iff] at q
          unfold restL at q
          simp only [List.mem_append, List.mem_cons, List.not_mem_nil, or_false, List.mem_map] at q
          rcases q with (q | ⟨d, hd, q⟩) | ⟨d, hd, q⟩
          · rcases q with q | q | q
            · exact r1 q
            · exact r2 q
            · exact r3 q
          · exact n1 d (hall d hd) q.symm
          · exact n2 d (hall d hd) q.symm
        have b1 : (l == rest) = false := by simp [r1]
        have b2 : (l == nights) = false := by simp [r2]
        have b3 : (l == home) = false := by simp [r3]
        rw [hn, b1, b2, b3]
        simp only [Bool.false_eq_true, if_false]
        split
        · rename_i q; exact (z1 q).symm
        · split
          · rename_i q; exact (z2 q).symm
          · rfl
theorem rest_before (l : List UInt8) (h : l.take 7 = before) : restT l = dutyT (l.drop 7) := by
  have hp : Lib.hasPrefix l before = true := (pre_iff _ _).2 h
  have b1 : (l == rest) = false := by rw [beq_eq_false_iff_ne]; rintro rfl; revert h; decide
  have b2 : (l == nights) = false := by rw [beq_eq_false_iff_ne]; rintro rfl; revert h; decide
  have b3 : (l == home) = false := by rw [beq_eq_false_iff_ne]; rintro rfl; revert h; decide
  unfold restT; rw [b1, b2, b3, hp]; simp
theorem rest_after (l : List UInt8) (h : l.take 6 = after) : restT l = dutyT (l.drop 6) := by
  have hp : Lib.hasPrefix l after = true := (pre_iff _ _).2 h
  have hq : Lib.hasPrefix l before = false := by
    rw [Bool.eq_false_iff]; intro q; rw [pre_iff] at q
    have e1 : (l.take 6).take 1 = after.take 1 := by rw [h]
    have e2 : (l.take before.length).take 1 = before.take 1 := by rw [q]
    rw [List.take_take] at e1 e2
    have : after.take 1 = before.take 1 := e1.symm.trans e2
    revert this; decide
  have b1 : (l == rest) = false := by rw [beq_eq_false_iff_ne]; rintro rfl; revert h; decide
  have b2 : (l == nights) = false := by rw [beq_eq_false_iff_ne]; rintro rfl; revert h; decide
  have b3 : (l == home) = false := by rw [beq_eq_false_iff_ne]; rintro rfl; revert h; decide
  unfold restT; rw [b1, b2, b3, hp, hq]; simp
end Att
def dutyS (s : ByteArray) : Int := Att.dutyT s.data.toList
def restS (s : ByteArray) : Int := Att.restT s.data.toList
def pairS (s : ByteArray) : Int := Att.pairT s.data.toList
def atS (sc : Int) (s : ByteArray) : Int := Att.atT sc s.data.toList
def atE (sc : Int) (s : ByteArray) : Int := if atS sc s = 0 then 6 else 0
theorem dutyT_bd (l : List UInt8) : 0 ≤ Att.dutyT l ∧ Att.dutyT l ≤ 4 := by unfold Att.dutyT; (repeat' split) <;> omega
theorem atT_bd (sc : Int) (l : List UInt8) : 0 ≤ Att.atT sc l ∧ Att.atT sc l ≤ 4 := by
  have h1 := dutyT_bd l
  have h2 := dutyT_bd (l.drop 7)
  have h3 := dutyT_bd (l.drop 6)
  unfold Att.atT Att.restT Att.pairT
  (repeat' split) <;> omega

end Go.Proofs.Ytinbkhchhlkjgaa
