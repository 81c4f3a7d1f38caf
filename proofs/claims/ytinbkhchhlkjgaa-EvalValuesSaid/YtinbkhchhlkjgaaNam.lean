/-
  The contracts of the program's functions on names.
-/
import Derived.Test.YtinbkhchhlkjgaaExpW
import Derived.Test.YtinbkhchhlkjgaaNamM
import Derived.Test.YtinbkhchhlkjgaaShelf
namespace Go.Proofs.Ytinbkhchhlkjgaa
set_option linter.unusedVariables false
set_option linter.unusedSimpArgs false
open Go.ChangeShapes Go.WideShapes Go.ChangeAt Go.RowKit

theorem len_at (s : ByteArray) : s.data.toList.length = s.size := Array.length_toList
theorem getD_at (s : ByteArray) (k : Nat) (h : k < s.size) : s.data.toList.getD k 0 = s[k] := by
  rw [List.getD_eq_getElem?_getD, List.getElem?_eq_getElem (by simpa using h)]; rfl
theorem ext_mk (l : List UInt8) (a b : Nat) : (⟨l.toArray⟩ : ByteArray).extract a b = ⟨((l.take b).drop a).toArray⟩ := by
  apply ByteArray.ext; simp [List.drop_take]
theorem ba_mk (s : ByteArray) : ∃ l : List UInt8, s = ⟨l.toArray⟩ ∧ s.data.toList = l := ⟨s.data.toList, by cases s; simp, rfl⟩

set_option maxHeartbeats 2000000 in
theorem isname_any (s : ByteArray) (w : World) (hs : s.size ≤ 9223372036854775807) :
    Calls Try.prog 126 #[.string s] w fun e w' => e = .returned (.bool (nameS s)) ∧ w = w' := by
  by_cases h1 : 1 ≤ s.size ∧ s.size ≤ 16
  · obtain ⟨h1, h2⟩ := h1
    go_enter Try.func126, Try.ntmps126
    go_wp2_with fail
    go_loop [3, 4, 15, 21, 28] (fun _ _ i _ _ => ∃ k : Nat, k ≤ s.size ∧ i = .int .i64 k ∧ Hid (Nam.good s.data.toList k = true)) (fun _ _ i _ _ => s.size - (intOf i).toNat)
    case atStart => exact ⟨0, by omega, rfl, Nam.good_zero _⟩
    case round =>
      obtain ⟨k, hk, rfl, HG⟩ := hrel
      by_cases hlt : k < s.size
      · have hst := Nam.good_step s.data.toList k (by rw [len_at]; exact hlt)
        rw [HG.out, Bool.true_and, getD_at s k hlt] at hst
        have ST := Lib.hid hst
        clear hst
        have SP : Hid (Nam.good s.data.toList (k + 1) = false → nameS s = false) := fun q => Nam.good_stop _ k (by rw [len_at]; exact hlt) q
        have hi : (k : Int) < (s.size : Int) := by omega
        obtain ⟨c, hc⟩ : ∃ c : UInt8, s[k] = c := ⟨_, rfl⟩
        rw [hc] at ST
        go_wp2
        all_goals first
          | (go_round
             case rel =>
               refine ⟨k + 1, by omega, by go_num, ?_⟩
               unfold Hid
               rw [ST.out, Bool.or_eq_true, Bool.and_eq_true]
               simp only [Nam.lowB, Nam.wordB, decide_eq_true_eq]
               try simp only [beq_iff_eq] at *
               omega
             case measure => simp [intOf]; omega)
          | (go_ret
             refine ⟨ret_bool (SP.out ?_).symm, rfl⟩
             rw [ST.out, Bool.or_eq_false_iff, Bool.and_eq_false_iff]
             simp only [Nam.lowB, Nam.wordB, decide_eq_false_iff_not]
             try simp only [beq_eq_false_iff_ne] at *
             omega)
      · have hr : Hid (nameS s = true) := by
          have := HG.out
          obtain rfl : k = s.size := by omega
          rw [← len_at, Nam.good_all _ (by rw [len_at]; exact h1) (by rw [len_at]; exact h2)] at this
          exact this
        go_wp2
        go_ret
        exact ⟨ret_bool hr.out.symm, rfl⟩
  · have hn : Hid (nameS s = false) := by
      unfold Hid nameS Nam.isName; rw [len_at]; exact decide_eq_false (fun q => h1 ⟨q.1, q.2.1⟩)
    by_cases h2 : 1 ≤ s.size
    · have h3 : ¬ s.size ≤ 16 := fun q => h1 ⟨h2, q⟩
      clear h1
      go_enter Try.func126, Try.ntmps126
      go_wp2
      go_ret
      exact ⟨ret_bool hn.out.symm, rfl⟩
    · clear h1
      go_enter Try.func126, Try.ntmps126
      go_wp2
      go_ret
      exact ⟨ret_bool hn.out.symm, rfl⟩

set_option maxHeartbeats 2000000 in
theorem reserved_any (s : ByteArray) (w : World) :
    Calls Try.prog 132 #[.string s] w fun e w' => e = .returned (.bool (resS s)) ∧ w = w' := by
  have R : Hid (resS s = (Nam.words.any fun x => s.toList == x)) := by unfold Hid resS Nam.reserved; rw [Lib.toList_data]
  go_enter Try.func132, Try.ntmps132
  go_wp2
  all_goals
    go_ret
    refine ⟨ret_bool ?_, rfl⟩
    rw [R.out]
    simp only [Nam.words, List.any_cons, List.any_nil]
    clear R
    simp_all

theorem isdecl_any (s : ByteArray) (w : World) (hs : s.size ≤ 9223372036854775807) :
    Calls Try.prog 127 #[.string s] w fun e w' => e = .returned (.bool (declS s)) ∧ w = w' := by
  have D : Hid (declS s = (nameS s && !resS s)) := rfl
  go_enter Try.func127, Try.ntmps127
  go_wp2_with fail
  refine (isname_any _ _ hs).mono ?_
  generalize nameS s = x at *
  rintro e w' ⟨rfl, rfl⟩
  cases x
  · go_wp2
    go_ret
    exact ⟨ret_bool D.out.symm, rfl⟩
  · go_wp2_with fail
    refine (reserved_any _ _).mono ?_
    generalize resS s = y at *
    rintro e w' ⟨rfl, rfl⟩
    go_wp2
    go_ret
    exact ⟨ret_bool D.out.symm, rfl⟩

set_option maxHeartbeats 1000000 in
theorem lcut_none (l : List UInt8) (c : UInt8) (w : World) (h : Lib.indexByte l c = -1) :
    Calls Try.prog 131 #[.string ⟨l.toArray⟩, .string ⟨#[c]⟩] w fun e w' => e = .returned (.tuple #[.string ⟨l.toArray⟩, .string ⟨#[]⟩, .bool false]) ∧ ∃ n, w' = w.drewN n := by
  have H := Lib.hid h
  clear h
  go_enter Try.func131, Try.ntmps131
  go_wp2_with (go_at_call 133; refine (Try.stringslite_Index_one _ _ _).mono ?_; rintro e w' ⟨rfl, rfl⟩; rw [show Lib.indexByte _ _ = _ from H.out])
  go_ret3
  exact ⟨rfl, 0, rfl⟩
set_option maxHeartbeats 1000000 in
theorem lcut_some (l : List UInt8) (c : UInt8) (k : Nat) (w : World) (hl : l.length ≤ 9223372036854775807) (h : Lib.indexByte l c = k) (hk : k < l.length) :
    Calls Try.prog 131 #[.string ⟨l.toArray⟩, .string ⟨#[c]⟩] w fun e w' => e = .returned (.tuple #[.string ⟨(l.take k).toArray⟩, .string ⟨(l.drop (k + 1)).toArray⟩, .bool true]) ∧ ∃ n, w' = w.drewN n := by
  have H := Lib.hid h
  clear h
  have c1 : (0 : Int) ≤ ↑k := by omega
  have c2 : (↑k : Int) ≤ ↑l.length := by omega
  have c3 : (0 : Int) ≤ ↑k + 1 := by omega
  have c4 : (↑k + 1 : Int) ≤ ↑l.length := by omega
  go_enter Try.func131, Try.ntmps131
  go_wp2_with (go_at_call 133; refine (Try.stringslite_Index_one _ _ _).mono ?_; rintro e w' ⟨rfl, rfl⟩; rw [show Lib.indexByte _ _ = _ from H.out])
  go_quiet (fail)
  go_wp2
  go_ret3
  refine ⟨?_, nq, rfl⟩
  rw [ext_mk, ext_mk, List.drop_zero, List.take_length]; rfl
theorem cut_none (l : List UInt8) (c : UInt8) (w : World) (h : Lib.indexByte l c = -1) :
    Calls Try.prog 125 #[.string ⟨l.toArray⟩, .string ⟨#[c]⟩] w fun e w' => e = .returned (.tuple #[.string ⟨l.toArray⟩, .string ⟨#[]⟩, .bool false]) ∧ ∃ n, w' = w.drewN n := by
  have H := Lib.hid h
  clear h
  go_enter Try.func125, Try.ntmps125
  go_wp2_with (go_at_call 131; refine (lcut_none _ _ _ H.out).mono ?_; rintro e w' ⟨rfl, n, rfl⟩)
  go_ret3
  exact ⟨rfl, n, rfl⟩
theorem cut_some (l : List UInt8) (c : UInt8) (k : Nat) (w : World) (hl : l.length ≤ 9223372036854775807) (h : Lib.indexByte l c = k) (hk : k < l.length) :
    Calls Try.prog 125 #[.string ⟨l.toArray⟩, .string ⟨#[c]⟩] w fun e w' => e = .returned (.tuple #[.string ⟨(l.take k).toArray⟩, .string ⟨(l.drop (k + 1)).toArray⟩, .bool true]) ∧ ∃ n, w' = w.drewN n := by
  have H := Lib.hid h
  clear h
  go_enter Try.func125, Try.ntmps125
  go_wp2_with (go_at_call 131; refine (lcut_some _ _ _ _ hl H.out hk).mono ?_; rintro e w' ⟨rfl, n, rfl⟩)
  go_ret3
  exact ⟨rfl, n, rfl⟩
theorem below_drewN {B : Nat} {a w : World} (h : Below B a w) (n : Nat) : Below B a (w.drewN n) := ⟨h.os, h.tape, h.output, h.size, h.block⟩

set_option maxHeartbeats 1000000 in
theorem isattr_any (s : ByteArray) (w : World) (hs : s.size ≤ 9223372036854775807) :
    Calls Try.prog 116 #[.string s] w fun e w' => e = .returned (.bool (attrS s)) ∧ Below w.heap.size w w' := by
  obtain ⟨l, rfl, hl⟩ := ba_mk s
  clear hl
  have hl : l.length ≤ 9223372036854775807 := hs
  rcases Nam.ix_cases l 46 with h | ⟨k, h, hk⟩
  · have A : Hid (attrS ⟨l.toArray⟩ = declS ⟨l.toArray⟩) := by
      show Nam.attr l = Nam.declName l
      unfold Nam.attr; rw [if_pos h]
    have H := Lib.hid h
    clear h
    go_enter Try.func116, Try.ntmps116
    go_wp2_with fail
    refine (cut_none _ _ _ H.out).mono ?_
    rintro e w' ⟨rfl, n, rfl⟩
    go_wp2_with fail
    refine (isdecl_any _ _ hs).mono ?_
    rw [← A.out]
    rintro e w1 ⟨rfl, rfl⟩
    go_wp2
    go_ret
    exact ⟨rfl, below_drewN (Below.refl _ _) n⟩
  · have A : Hid (attrS ⟨l.toArray⟩ = (nameS ⟨(l.take k).toArray⟩ && nameS ⟨(l.drop (k + 1)).toArray⟩)) := by
      show Nam.attr l = (Nam.isName (l.take k) && Nam.isName (l.drop (k + 1)))
      unfold Nam.attr; rw [if_neg (by omega), h]; rfl
    have H := Lib.hid h
    clear h
    go_enter Try.func116, Try.ntmps116
    go_wp2_with fail
    refine (cut_some _ _ _ _ hl H.out hk).mono ?_
    rintro e w' ⟨rfl, n, rfl⟩
    have z1 : (l.take k).length ≤ 9223372036854775807 := by simp; omega
    have z2 : (l.drop (k + 1)).length ≤ 9223372036854775807 := by simp; omega
    generalize l.take k = l1 at *
    generalize l.drop (k + 1) = l2 at *
    go_wp2_with fail
    refine (isname_any _ _ (by exact z1)).mono ?_
    generalize nameS ⟨l1.toArray⟩ = x at *
    rintro e w1 ⟨rfl, rfl⟩
    cases x
    · go_wp2
      go_ret
      exact ⟨ret_bool A.out.symm, below_drewN (Below.refl _ _) n⟩
    · go_wp2_with fail
      refine (isname_any _ _ (by exact z2)).mono ?_
      generalize nameS ⟨l2.toArray⟩ = y at *
      rintro e w1 ⟨rfl, rfl⟩
      go_wp2
      go_ret
      exact ⟨ret_bool (by rw [A.out]; simp), below_drewN (Below.refl _ _) n⟩

end Go.Proofs.Ytinbkhchhlkjgaa
