/-
  Plain functions on attributes: their names and types. No program in sight.
  The contracts of the program's AttributeType.
-/
import Derived.Test.YtfoedbfkddoibaaGa
import Derived.Lib.Strings
import Derived.Test.YtfoedbfkddoibaaGb
namespace Go.Proofs.Ytfoedbfkddoibaa
section
set_option linter.unusedVariables false
set_option linter.unusedSimpArgs false
open Go Go.RowKit

namespace Att
def duty1 : List (List UInt8) := [[108, 101, 103, 115], [104, 101, 97, 100, 115], [116, 121, 112, 101, 115]]
def duty2 : List (List UInt8) := [[98, 108, 111, 99, 107], [115, 112, 97, 110], [110, 105, 103, 104, 116], [108, 111, 110, 103, 101, 115, 116], [115, 104, 111, 114, 116, 101, 115, 116], [115, 104, 105, 102, 116]]
def duty3 : List (List UInt8) := [[115, 116, 97, 114, 116], [101, 110, 100]]
def pair1 : List (List UInt8) := [[100, 117, 116, 105, 101, 115], [108, 101, 103, 115], [104, 101, 97, 100, 115], [100, 97, 121, 115]]
def pair2 : List (List UInt8) := [[98, 108, 111, 99, 107], [115, 112, 97, 110], [99, 114, 101, 100, 105, 116]]
def rest : List UInt8 := [114, 101, 115, 116]
def nights : List UInt8 := [110, 105, 103, 104, 116, 115]
def home : List UInt8 := [104, 111, 109, 101]
def before : List UInt8 := [98, 101, 102, 111, 114, 101, 46]
def after : List UInt8 := [97, 102, 116, 101, 114, 46]
def isIn (l : List UInt8) (ws : List (List UInt8)) : Bool := ws.any fun x => l == x
/-- The type of an attribute of a duty: 1 number, 2 duration, 3 clock, 4 bool; 0: none. -/
def dutyT (l : List UInt8) : Int := if isIn l duty1 = true then 1 else if isIn l duty2 = true then 2 else if isIn l duty3 = true then 3 else 0
def pairT (l : List UInt8) : Int := if isIn l pair1 = true then 1 else if isIn l pair2 = true then 2 else 0
def restT (l : List UInt8) : Int := if (l == rest) = true then 2 else if (l == nights) = true then 1 else if (l == home) = true then 4 else
  if Lib.hasPrefix l before = true then dutyT (l.drop 7) else if Lib.hasPrefix l after = true then dutyT (l.drop 6) else 0
def atT (sc : Int) (l : List UInt8) : Int := if sc = 1 then dutyT l else if sc = 2 then restT l else if sc = 3 then pairT l else 0
/-- The attributes of a scope, in order. -/
def dutyL : List (List UInt8) := duty1 ++ duty2 ++ duty3
def restL : List (List UInt8) := [rest, nights, home] ++ dutyL.map (before ++ ·) ++ dutyL.map (after ++ ·)
def pairL : List (List UInt8) := pair1 ++ pair2
def listL (sc : Int) : List (List UInt8) := if sc = 1 then dutyL else if sc = 2 then restL else if sc = 3 then pairL else []
/-- The type that the reference gives to a name of a list. -/
def num1 : List (List UInt8) := [[108, 101, 103, 115], [104, 101, 97, 100, 115], [116, 121, 112, 101, 115], [110, 105, 103, 104, 116, 115], [100, 117, 116, 105, 101, 115], [100, 97, 121, 115]]
def kindR (l : List UInt8) : Int := if isIn l num1 = true then 1 else if isIn l duty3 = true then 3 else if (l == home) = true then 4 else 2
def refT (L : List (List UInt8)) (l : List UInt8) : Int := if isIn l L = true then kindR l else 0
theorem isIn_iff (l : List UInt8) (ws : List (List UInt8)) : isIn l ws = true ↔ l ∈ ws := by
  unfold isIn; rw [List.any_eq_true]
  exact ⟨fun ⟨x, hx, he⟩ => by rw [eq_of_beq he]; exact hx, fun h => ⟨l, h, by simp⟩⟩
theorem ref_duty (l : List UInt8) : refT dutyL l = dutyT l := by
  unfold refT
  by_cases h : l ∈ dutyL
  · rw [if_pos ((isIn_iff _ _).2 h)]
    revert l
    decide
  · rw [if_neg (fun q => h ((isIn_iff _ _).1 q))]
    unfold dutyT
    unfold dutyL at h
    simp only [List.mem_append, not_or] at h
    rw [if_neg (fun q => h.1.1 ((isIn_iff _ _).1 q)), if_neg (fun q => h.1.2 ((isIn_iff _ _).1 q)), if_neg (fun q => h.2 ((isIn_iff _ _).1 q))]
theorem ref_pair (l : List UInt8) : refT pairL l = pairT l := by
  unfold refT
  by_cases h : l ∈ pairL
  · rw [if_pos ((isIn_iff _ _).2 h)]
    revert l
    decide
  · rw [if_neg (fun q => h ((isIn_iff _ _).1 q))]
    unfold pairT
    unfold pairL at h
    simp only [List.mem_append, not_or] at h
    rw [if_neg (fun q => h.1 ((isIn_iff _ _).1 q)), if_neg (fun q => h.2 ((isIn_iff _ _).1 q))]
theorem pre_iff (l p : List UInt8) : Lib.hasPrefix l p = true ↔ l.take p.length = p := by
  unfold Lib.hasPrefix
  rw [List.isPrefixOf_iff_prefix, List.prefix_iff_eq_take]
  exact eq_comm
theorem duty_nil : dutyT [] = 0 := by decide
theorem ref_rest (l : List UInt8) (h1 : ¬ (7 < l.length ∧ l.take 7 = before)) (h2 : ¬ (6 < l.length ∧ l.take 6 = after)) : refT restL l = restT l := by
  have n1 : ∀ d, dutyT d ≠ 0 → l ≠ before ++ d := by
    rintro d hd rfl
    apply h1
    cases d with
    | nil => exact absurd duty_nil hd
    | cons c d => exact ⟨by simp [before], by simp [before]⟩
  have n2 : ∀ d, dutyT d ≠ 0 → l ≠ after ++ d := by
    rintro d hd rfl
    apply h2
    cases d with
    | nil => exact absurd duty_nil hd
    | cons c d => exact ⟨by simp [after], by simp [after]⟩
  have hall : ∀ d ∈ dutyL, dutyT d ≠ 0 := by decide
  have z1 : Lib.hasPrefix l before = true → dutyT (l.drop 7) = 0 := by
    intro q
    rw [pre_iff] at q
    have hl : l = before ++ l.drop 7 := by
      conv => lhs; rw [← List.take_append_drop 7 l]
      rw [show l.take 7 = before from q]
    by_cases z : dutyT (l.drop 7) = 0
    · exact z
    · exact absurd hl (n1 _ z)
  have z2 : Lib.hasPrefix l after = true → dutyT (l.drop 6) = 0 := by
    intro q
    rw [pre_iff] at q
    have hl : l = after ++ l.drop 6 := by
      conv => lhs; rw [← List.take_append_drop 6 l]
      rw [show l.take 6 = after from q]
    by_cases z : dutyT (l.drop 6) = 0
    · exact z
    · exact absurd hl (n2 _ z)
  unfold refT restT
  by_cases r1 : l = rest
  · subst r1; decide
  · by_cases r2 : l = nights
    · subst r2; decide
    · by_cases r3 : l = home
      · subst r3; decide
      · have hn : isIn l restL = false := by
          rw [Bool.eq_false_iff]
          intro q
          rw [isIn_iff] at q
          unfold restL at q
          simp only [List.mem_append, List.mem_cons, List.not_mem_nil, or_false, List.mem_map] at q
          rcases q with (q | ⟨d, hd, q⟩) | ⟨d, hd, q⟩
          · rcases q with q | q | q
            · exact r1 q
            · exact r2 q
            · exact r3 q
          · exact n1 d (hall d hd) q.symm
          · exact n2 d (hall d hd) q.symm
        have b1 : (l == rest) = false := by simp [r1]
        have b2 : (l == nights) = false := by simp [r2]
        have b3 : (l == home) = false := by simp [r3]
        rw [hn, b1, b2, b3]
        simp only [Bool.false_eq_true, if_false]
        split
        · rename_i q; exact (z1 q).symm
        · split
          · rename_i q; exact (z2 q).symm
          · rfl
theorem rest_before (l : List UInt8) (h : l.take 7 = before) : restT l = dutyT (l.drop 7) := by
  have hp : Lib.hasPrefix l before = true := (pre_iff _ _).2 h
  have b1 : (l == rest) = false := by rw [beq_eq_false_iff_ne]; rintro rfl; revert h; decide
  have b2 : (l == nights) = false := by rw [beq_eq_false_iff_ne]; rintro rfl; revert h; decide
  have b3 : (l == home) = false := by rw [beq_eq_false_iff_ne]; rintro rfl; revert h; decide
  unfold restT; rw [b1, b2, b3, hp]; simp
theorem rest_after (l : List UInt8) (h : l.take 6 = after) : restT l = dutyT (l.drop 6) := by
  have hp : Lib.hasPrefix l after = true := (pre_iff _ _).2 h
  have hq : Lib.hasPrefix l before = false := by
    rw [Bool.eq_false_iff]; intro q; rw [pre_iff] at q
    have e1 : (l.take 6).take 1 = after.take 1 := by rw [h]
    have e2 : (l.take before.length).take 1 = before.take 1 := by rw [q]
    rw [List.take_take] at e1 e2
    have : after.take 1 = before.take 1 := e1.symm.trans e2
    revert this; decide
  have b1 : (l == rest) = false := by rw [beq_eq_false_iff_ne]; rintro rfl; revert h; decide
  have b2 : (l == nights) = false := by rw [beq_eq_false_iff_ne]; rintro rfl; revert h; decide
  have b3 : (l == home) = false := by rw [beq_eq_false_iff_ne]; rintro rfl; revert h; decide
  unfold restT; rw [b1, b2, b3, hp, hq]; simp
end Att
def dutyS (s : ByteArray) : Int := Att.dutyT s.data.toList
def restS (s : ByteArray) : Int := Att.restT s.data.toList
def pairS (s : ByteArray) : Int := Att.pairT s.data.toList
def atS (sc : Int) (s : ByteArray) : Int := Att.atT sc s.data.toList
def atE (sc : Int) (s : ByteArray) : Int := if atS sc s = 0 then 6 else 0
end

section
set_option linter.unusedVariables false
set_option linter.unusedSimpArgs false
open Go.ChangeShapes Go.WideShapes Go.ChangeAt Go.RowKit

set_option maxHeartbeats 2000000 in
theorem duty_any (s : ByteArray) (w : World) :
    Calls Try.prog 37 #[.string s] w fun e w' => e = .returned (.int .i64 (dutyS s)) ∧ w = w' := by
  have R : Hid (dutyS s = Att.dutyT s.toList) := by unfold Hid dutyS; rw [Lib.toList_data]
  go_enter Try.func37, Try.ntmps37
  go_wp2
  all_goals
    go_ret
    refine ⟨ret_int ?_, rfl⟩
    rw [R.out]
    simp only [Att.dutyT, Att.isIn, Att.duty1, Att.duty2, Att.duty3, List.any_cons, List.any_nil]
    clear R
    simp_all
set_option maxHeartbeats 2000000 in
theorem pair_any (s : ByteArray) (w : World) :
    Calls Try.prog 39 #[.string s] w fun e w' => e = .returned (.int .i64 (pairS s)) ∧ w = w' := by
  have R : Hid (pairS s = Att.pairT s.toList) := by unfold Hid pairS; rw [Lib.toList_data]
  go_enter Try.func39, Try.ntmps39
  go_wp2
  all_goals
    go_ret
    refine ⟨ret_int ?_, rfl⟩
    rw [R.out]
    simp only [Att.pairT, Att.isIn, Att.pair1, Att.pair2, List.any_cons, List.any_nil]
    clear R
    simp_all

set_option maxHeartbeats 2000000 in
theorem rest_any (s : ByteArray) (w : World) :
    Calls Try.prog 38 #[.string s] w fun e w' => e = .returned (.int .i64 (restS s)) ∧ w = w' := by
  have R : Hid (restS s = if (s.toList == Att.rest) = true then 2 else if (s.toList == Att.nights) = true then 1 else if (s.toList == Att.home) = true then 4 else
    if Lib.hasPrefix s.data.toList Att.before = true then Att.dutyT (s.data.toList.drop 7) else if Lib.hasPrefix s.data.toList Att.after = true then Att.dutyT (s.data.toList.drop 6) else 0) := by
      unfold Hid restS; rw [Lib.toList_data]; rfl
  have T1 : Hid (Lib.hasPrefix s.data.toList Att.before = true → Lib.trimPrefix s.data.toList Att.before = s.data.toList.drop 7) := by
    intro h; unfold Lib.trimPrefix; rw [h]; rfl
  have T2 : Hid (Lib.hasPrefix s.data.toList Att.after = true → Lib.trimPrefix s.data.toList Att.after = s.data.toList.drop 6) := by
    intro h; unfold Lib.trimPrefix; rw [h]; rfl
  unfold Att.rest Att.nights Att.home at R
  cases r1 : (s.toList == [114, 101, 115, 116])
  · cases r2 : (s.toList == [110, 105, 103, 104, 116, 115])
    · cases r3 : (s.toList == [104, 111, 109, 101])
      · rw [r1, r2, r3] at R
        have R2 : Hid (restS s = if Lib.hasPrefix s.data.toList Att.before = true then Att.dutyT (s.data.toList.drop 7) else if Lib.hasPrefix s.data.toList Att.after = true then Att.dutyT (s.data.toList.drop 6) else 0) := R
        go_enter Try.func38, Try.ntmps38
        go_wp2_with fail
        refine (Try.strings_CutPrefix _ _ _).mono ?_
        rw [show (⟨#[98, 101, 102, 111, 114, 101, 46]⟩ : ByteArray).data.toList = Att.before from rfl]
        cases b1 : Lib.hasPrefix s.data.toList Att.before
        · have B1 := Lib.hid b1
          clear b1 T1
          generalize Lib.trimPrefix s.data.toList Att.before = t1
          rintro e w1 ⟨rfl, rfl⟩
          go_wp2_with fail
          refine (Try.strings_CutPrefix _ _ _).mono ?_
          rw [show (⟨#[97, 102, 116, 101, 114, 46]⟩ : ByteArray).data.toList = Att.after from rfl]
          cases b2 : Lib.hasPrefix s.data.toList Att.after
          · have B2 := Lib.hid b2
            clear b2 T2
            generalize Lib.trimPrefix s.data.toList Att.after = t2
            rintro e w1 ⟨rfl, rfl⟩
            go_wp2
            go_ret
            exact ⟨ret_int (by rw [R2.out, B1.out, B2.out]; rfl), rfl⟩
          · have B2 := Lib.hid b2
            rw [T2.out b2]
            clear b2 T2
            rintro e w1 ⟨rfl, rfl⟩
            go_wp2_with fail
            refine (duty_any _ _).mono ?_
            rintro e w1 ⟨rfl, rfl⟩
            go_wp2
            go_ret
            exact ⟨ret_int (by rw [R2.out, B1.out, B2.out]; rfl), rfl⟩
        · have B1 := Lib.hid b1
          rw [T1.out b1]
          clear b1 T1
          rintro e w1 ⟨rfl, rfl⟩
          go_wp2_with fail
          refine (duty_any _ _).mono ?_
          rintro e w1 ⟨rfl, rfl⟩
          go_wp2
          go_ret
          exact ⟨ret_int (by rw [R2.out, B1.out]; rfl), rfl⟩
      · rw [r1, r2, r3] at R
        go_enter Try.func38, Try.ntmps38
        go_wp2
        go_ret
        exact ⟨ret_int (by rw [R.out]; rfl), rfl⟩
    · rw [r1, r2] at R
      go_enter Try.func38, Try.ntmps38
      go_wp2
      go_ret
      exact ⟨ret_int (by rw [R.out]; rfl), rfl⟩
  · rw [r1] at R
    go_enter Try.func38, Try.ntmps38
    go_wp2
    go_ret
    exact ⟨ret_int (by rw [R.out]; rfl), rfl⟩

set_option maxHeartbeats 2000000 in
set_option maxRecDepth 100000 in
theorem attr_any (sc : Int) (s : ByteArray) (w : World) :
    Calls Try.prog 22 #[.int .i64 sc, .string s] w fun e w' => e = .returned (.tuple #[.int .i64 (atS sc s), .int .i64 (atE sc s)]) ∧ w = w' := by
  have A : Hid (atS sc s = if sc = 1 then dutyS s else if sc = 2 then restS s else if sc = 3 then pairS s else 0) := rfl
  have E : Hid (atE sc s = if atS sc s = 0 then 6 else 0) := rfl
  go_enter Try.func22, Try.ntmps22
  go_upto_block 0 with (fail)
  go_cut [6] (fun v wx => v = .int .i64 (atS sc s) ∧ w = wx)
  case first =>
    by_cases h1 : sc = 1
    · have V : Hid (atS sc s = dutyS s) := by unfold Hid; rw [A.out, if_pos h1]
      have b1 : (sc == 1) = true := by simp [h1]
      clear h1
      go_wp2_with (go_at_call 37; refine (duty_any _ _).mono ?_; rw [← V.out]; rintro e w1 ⟨rfl, rfl⟩)
      go_meet
      exact ⟨rfl, rfl⟩
    · have b1 : (sc == 1) = false := by simp [h1]
      by_cases h2 : sc = 2
      · have V : Hid (atS sc s = restS s) := by unfold Hid; rw [A.out, if_neg h1, if_pos h2]
        have b2 : (sc == 2) = true := by simp [h2]
        clear h1 h2
        go_wp2_with (go_at_call 38; refine (rest_any _ _).mono ?_; rw [← V.out]; rintro e w1 ⟨rfl, rfl⟩)
        go_meet
        exact ⟨rfl, rfl⟩
      · have b2 : (sc == 2) = false := by simp [h2]
        by_cases h3 : sc = 3
        · have V : Hid (atS sc s = pairS s) := by unfold Hid; rw [A.out, if_neg h1, if_neg h2, if_pos h3]
          have b3 : (sc == 3) = true := by simp [h3]
          clear h1 h2 h3
          go_wp2_with (go_at_call 39; refine (pair_any _ _).mono ?_; rw [← V.out]; rintro e w1 ⟨rfl, rfl⟩)
          go_meet
          exact ⟨rfl, rfl⟩
        · have V : Hid (atS sc s = 0) := by unfold Hid; rw [A.out, if_neg h1, if_neg h2, if_neg h3]
          have b3 : (sc == 3) = false := by simp [h3]
          clear h1 h2 h3
          go_wp2
          go_meet
          exact ⟨by rw [V.out], rfl⟩
  case rest =>
    obtain ⟨rfl, rfl⟩ := hcut
    by_cases h0 : atS sc s = 0
    · have b0 : (atS sc s == 0) = true := by simp [h0]
      have H0 := Lib.hid h0
      clear h0
      go_wp2
      go_ret2
      exact ⟨by rw [E.out, if_pos H0.out, H0.out]; rfl, rfl⟩
    · have b0 : (atS sc s == 0) = false := by simp [h0]
      have H0 := Lib.hid h0
      clear h0
      go_wp2
      go_ret2
      exact ⟨by rw [E.out, if_neg H0.out]; rfl, rfl⟩
end

end Go.Proofs.Ytfoedbfkddoibaa
