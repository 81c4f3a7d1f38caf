/-
  The contracts of the reference's functions on names.
-/
import Derived.Test.YtinbkhchhlkjgaaNam
namespace Go.Proofs.Ytinbkhchhlkjgaa
set_option linter.unusedVariables false
set_option linter.unusedSimpArgs false
open Go.ChangeShapes Go.WideShapes Go.ChangeAt Go.RowKit

theorem rlower_any (c : Int) (w : World) :
    Calls Try.prog 129 #[.int .u8 c] w fun e w' => e = .returned (.bool (decide (97 ≤ c ∧ c ≤ 122))) ∧ w = w' := by
  go_enter Try.func129, Try.ntmps129
  go_wp2
  all_goals
    go_ret
    refine ⟨ret_bool ?_, rfl⟩
    go_light
    simp
    try omega
theorem rnumber_any (c : Int) (w : World) :
    Calls Try.prog 130 #[.int .u8 c] w fun e w' => e = .returned (.bool (decide (48 ≤ c ∧ c ≤ 57))) ∧ w = w' := by
  go_enter Try.func130, Try.ntmps130
  go_wp2
  all_goals
    go_ret
    refine ⟨ret_bool ?_, rfl⟩
    go_light
    simp
    try omega

theorem name_iff (s : ByteArray) (h1 : 1 ≤ s.size) (h2 : s.size ≤ 16) : nameS s = (decide ((97 : Int) ≤ (s[0].toNat : Int) ∧ (s[0].toNat : Int) ≤ 122) && s.data.toList.all Nam.wordB) := by
  unfold nameS Nam.isName
  rw [len_at, getD_at s 0 h1, Bool.eq_iff_iff, decide_eq_true_eq, Bool.and_eq_true, decide_eq_true_eq]
  unfold Nam.lowB
  rw [decide_eq_true_eq]
  constructor
  · rintro ⟨-, -, a, b⟩; exact ⟨by omega, b⟩
  · rintro ⟨a, b⟩; exact ⟨h1, h2, by omega, b⟩
theorem all_take (l : List UInt8) (k : Nat) (h : k < l.length) : (l.take (k + 1)).all Nam.wordB = ((l.take k).all Nam.wordB && Nam.wordB (l.getD k 0)) := by
  have hd : l.getD k 0 = l[k] := by rw [List.getD_eq_getElem?_getD, List.getElem?_eq_getElem h]; rfl
  rw [List.take_succ_eq_append_getElem h, List.all_append, hd]; simp
theorem all_stop (l : List UInt8) (k : Nat) (h : (l.take k).all Nam.wordB = false) : l.all Nam.wordB = false := by
  rw [Bool.eq_false_iff] at h ⊢
  intro q
  apply h
  rw [List.all_eq_true] at q ⊢
  exact fun x hx => q x (List.mem_of_mem_take hx)

set_option maxHeartbeats 2000000 in
theorem rname_any (s : ByteArray) (w : World) (hs : s.size ≤ 9223372036854775807) :
    Calls Try.prog 124 #[.string s] w fun e w' => e = .returned (.bool (nameS s)) ∧ w = w' := by
  by_cases h1 : 1 ≤ s.size ∧ s.size ≤ 16
  · obtain ⟨h1, h2⟩ := h1
    have hN := name_iff s h1 h2
    have HN := Lib.hid hN
    clear hN
    have i0 : (0 : Int) < (s.size : Int) := by omega
    cases hl : decide ((97 : Int) ≤ (s[0].toNat : Int) ∧ (s[0].toNat : Int) ≤ 122)
    · have HL := Lib.hid hl
      clear hl
      go_enter Try.func124, Try.ntmps124
      go_wp2_with (go_at_call 129; refine (rlower_any _ _).mono ?_; rw [HL.out]; rintro e w' ⟨rfl, rfl⟩)
      go_ret
      exact ⟨ret_bool (by rw [HN.out, HL.out]; rfl), rfl⟩
    · have HL := Lib.hid hl
      clear hl
      go_enter Try.func124, Try.ntmps124
      go_wp2_with (go_at_call 129; refine (rlower_any _ _).mono ?_; rw [HL.out]; rintro e w' ⟨rfl, rfl⟩)
      go_loop [3] (fun i => ∃ k : Nat, k ≤ s.size ∧ i = .int .i64 k ∧ Hid ((s.data.toList.take k).all Nam.wordB = true)) (fun i => s.size - (intOf i).toNat)
      case atStart => exact ⟨0, by omega, rfl, rfl⟩
      case round =>
        obtain ⟨k, hk, rfl, HG⟩ := hrel
        by_cases hlt : k < s.size
        · have hst := all_take s.data.toList k (by rw [len_at]; exact hlt)
          rw [HG.out, Bool.true_and, getD_at s k hlt] at hst
          have ST := Lib.hid hst
          clear hst
          have SP : Hid ((s.data.toList.take (k + 1)).all Nam.wordB = false → nameS s = false) := fun q => by rw [HN.out, all_stop _ _ q, Bool.and_false]
          have hi : (k : Int) < (s.size : Int) := by omega
          obtain ⟨c, hc⟩ : ∃ c : UInt8, s[k] = c := ⟨_, rfl⟩
          rw [hc] at ST
          have W : Hid (Nam.wordB c = (decide ((97 : Int) ≤ (c.toNat : Int) ∧ (c.toNat : Int) ≤ 122) || decide ((48 : Int) ≤ (c.toNat : Int) ∧ (c.toNat : Int) ≤ 57) || ((c.toNat : Int) == 95))) := by
            unfold Hid Nam.wordB
            rw [Bool.eq_iff_iff]
            simp only [decide_eq_true_eq, Bool.or_eq_true, beq_iff_eq]
            omega
          cases q1 : decide ((97 : Int) ≤ (c.toNat : Int) ∧ (c.toNat : Int) ≤ 122)
          · cases q2 : decide ((48 : Int) ≤ (c.toNat : Int) ∧ (c.toNat : Int) ≤ 57)
            · have Q1 := Lib.hid q1
              have Q2 := Lib.hid q2
              clear q1 q2
              go_wp2_with (first | (go_at_call 129; refine (rlower_any _ _).mono ?_; rw [Q1.out]; rintro e w' ⟨rfl, rfl⟩) | (go_at_call 130; refine (rnumber_any _ _).mono ?_; rw [Q2.out]; rintro e w' ⟨rfl, rfl⟩))
              all_goals first
                | (go_round
                   case rel =>
                     refine ⟨k + 1, by omega, by go_num, ?_⟩
                     go_light
                     simp only [bne_eq_false_iff_eq] at *
                     unfold Hid
                     rw [ST.out, W.out]
                     simp only [Bool.or_eq_true, beq_iff_eq]
                     omega
                   case measure => simp [intOf]; omega)
                | (go_ret
                   refine ⟨ret_bool (SP.out ?_).symm, rfl⟩
                   go_light
                   simp only [bne_iff_ne] at *
                   rw [ST.out, W.out, Q1.out, Q2.out]
                   simp only [Bool.or_eq_false_iff, beq_eq_false_iff_ne]
                   refine ⟨⟨?_, ?_⟩, ?_⟩ <;> first | trivial | omega)
            · have Q1 := Lib.hid q1
              have Q2 := Lib.hid q2
              clear q1 q2
              go_wp2_with (first | (go_at_call 129; refine (rlower_any _ _).mono ?_; rw [Q1.out]; rintro e w' ⟨rfl, rfl⟩) | (go_at_call 130; refine (rnumber_any _ _).mono ?_; rw [Q2.out]; rintro e w' ⟨rfl, rfl⟩))
              go_round
              case rel => exact ⟨k + 1, by omega, by go_num, by unfold Hid; rw [ST.out, W.out, Q2.out]; simp⟩
              case measure => simp [intOf]; omega
          · have Q1 := Lib.hid q1
            clear q1
            go_wp2_with (go_at_call 129; refine (rlower_any _ _).mono ?_; rw [Q1.out]; rintro e w' ⟨rfl, rfl⟩)
            go_round
            case rel => exact ⟨k + 1, by omega, by go_num, by unfold Hid; rw [ST.out, W.out, Q1.out]; simp⟩
            case measure => simp [intOf]; omega
        · have hr : Hid (nameS s = true) := by
            have := HG.out
            obtain rfl : k = s.size := by omega
            rw [← len_at, List.take_length] at this
            unfold Hid; rw [HN.out, HL.out, this]; rfl
          go_wp2
          go_ret
          exact ⟨ret_bool hr.out.symm, rfl⟩
  · have hn : Hid (nameS s = false) := by
      unfold Hid nameS Nam.isName; rw [len_at]; exact decide_eq_false (fun q => h1 ⟨q.1, q.2.1⟩)
    by_cases h2 : 1 ≤ s.size
    · have h3 : ¬ s.size ≤ 16 := fun q => h1 ⟨h2, q⟩
      clear h1
      go_enter Try.func124, Try.ntmps124
      go_wp2
      go_ret
      exact ⟨ret_bool hn.out.symm, rfl⟩
    · clear h1
      go_enter Try.func124, Try.ntmps124
      go_wp2
      go_ret
      exact ⟨ret_bool hn.out.symm, rfl⟩

def wordsC : Array Value := #[.string ⟨#[97, 110, 100]⟩, .string ⟨#[111, 114]⟩, .string ⟨#[110, 111, 116]⟩, .string ⟨#[105, 109, 112, 108, 105, 101, 115]⟩, .string ⟨#[105, 110]⟩, .string ⟨#[116, 111]⟩, .string ⟨#[116, 114, 117, 101]⟩, .string ⟨#[102, 97, 108, 115, 101]⟩, .string ⟨#[109, 105, 110]⟩, .string ⟨#[109, 97, 120]⟩, .string ⟨#[105, 102]⟩, .string ⟨#[116, 104, 101, 110]⟩, .string ⟨#[101, 108, 115, 101]⟩]
theorem words_at (k : Nat) (h : k < 13) : ∃ l : List UInt8, Nam.words[k]? = some l ∧ wordsC[k]? = some (.string ⟨l.toArray⟩) := by
  match k, h with
  | 0, _ => exact ⟨_, rfl, rfl⟩
  | 1, _ => exact ⟨_, rfl, rfl⟩
  | 2, _ => exact ⟨_, rfl, rfl⟩
  | 3, _ => exact ⟨_, rfl, rfl⟩
  | 4, _ => exact ⟨_, rfl, rfl⟩
  | 5, _ => exact ⟨_, rfl, rfl⟩
  | 6, _ => exact ⟨_, rfl, rfl⟩
  | 7, _ => exact ⟨_, rfl, rfl⟩
  | 8, _ => exact ⟨_, rfl, rfl⟩
  | 9, _ => exact ⟨_, rfl, rfl⟩
  | 10, _ => exact ⟨_, rfl, rfl⟩
  | 11, _ => exact ⟨_, rfl, rfl⟩
  | 12, _ => exact ⟨_, rfl, rfl⟩

set_option maxHeartbeats 2000000 in
theorem rres_any (s : ByteArray) (w : World) :
    Calls Try.prog 128 #[.string s] w fun e w' => e = .returned (.bool (resS s)) ∧ Below w.heap.size w w' := by
  have B0 : Below w.heap.size w (w.alloc (.cells wordsC 9)) := (Below.refl _ _).alloc (Nat.le_refl _) _
  have C0 : ∀ k v, wordsC[k]? = some v → (w.alloc (.cells wordsC 9)).cell? ⟨w.heap.size, k, none⟩ = some v := fun k v h => by simp [h]
  have HB := Lib.hid B0
  have HC := Lib.hid C0
  clear B0 C0
  have R : Hid (resS s = (Nam.words.any fun x => s.toList == x)) := by unfold Hid resS Nam.reserved; rw [Lib.toList_data]
  go_enter Try.func128, Try.ntmps128
  go_wp2_with fail
  go_loopw [4] (fun i wr => ∃ k : Nat, k ≤ 13 ∧ i = .int .i64 k ∧ Hid (Below w.heap.size w wr ∧ (∀ j v, wordsC[j]? = some v → wr.cell? ⟨w.heap.size, j, none⟩ = some v) ∧ resS s = ((Nam.words.drop k).any fun x => s.toList == x))) (fun i _ => 13 - (intOf i).toNat)
  case atStart => exact ⟨0, by omega, rfl, HB.out, HC.out, R.out⟩
  case round =>
    obtain ⟨k, hk, rfl, HR⟩ := hrel
    by_cases hlt : k < 13
    · obtain ⟨l, w1, w2⟩ := words_at k hlt
      have hc := HR.out.2.1 _ _ w2
      have ST : Hid (resS s = ((s.toList == l) || ((Nam.words.drop (k + 1)).any fun x => s.toList == x))) := by
        have := HR.out.2.2
        have hkl : k < Nam.words.length := hlt
        rw [List.drop_eq_getElem_cons hkl, List.any_cons] at this
        rw [List.getElem?_eq_getElem hkl] at w1
        rw [Option.some.inj w1] at this
        exact this
      clear w1 w2
      have hi : (k : Int) < 13 := by omega
      rw [show (s.toList == l) = (l == s.toList) from Bool.beq_comm] at ST
      cases hb : (l == s.toList)
      · have HB1 := Lib.hid hb
        go_wp2
        go_roundw
        case rel => exact ⟨k + 1, by omega, by go_num, HR.out.1, HR.out.2.1, by rw [ST.out, HB1.out, Bool.false_or]⟩
        case measure => simp [intOf]; omega
      · have HB1 := Lib.hid hb
        go_wp2
        go_ret
        exact ⟨ret_bool (by rw [ST.out, HB1.out]; rfl), HR.out.1⟩
    · have : Hid (resS s = false) := by
        have := HR.out.2.2
        rw [List.drop_eq_nil_of_le (show Nam.words.length ≤ k by show 13 ≤ k; omega)] at this
        exact this
      go_wp2
      go_ret
      exact ⟨ret_bool this.out.symm, HR.out.1⟩

theorem rdecl_any (s : ByteArray) (w : World) (hs : s.size ≤ 9223372036854775807) :
    Calls Try.prog 123 #[.string s] w fun e w' => e = .returned (.bool (declS s)) ∧ Below w.heap.size w w' := by
  have D : Hid (declS s = (nameS s && !resS s)) := rfl
  go_enter Try.func123, Try.ntmps123
  go_wp2_with fail
  refine (rname_any _ _ hs).mono ?_
  generalize nameS s = x at *
  rintro e w' ⟨rfl, rfl⟩
  cases x
  · go_wp2
    go_ret
    exact ⟨ret_bool D.out.symm, Below.refl _ _⟩
  · go_wp2_with fail
    refine (rres_any _ _).mono ?_
    generalize resS s = y at *
    rintro e w' ⟨rfl, hb⟩
    go_wp2
    go_ret
    exact ⟨ret_bool D.out.symm, hb⟩

theorem ix_step (l : List UInt8) (c : UInt8) (k : Nat) (h : k < l.length) (hn : ∀ x ∈ l.take k, x ≠ c) :
    (l.getD k 0 = c → Lib.indexByte l c = k) ∧ (l.getD k 0 ≠ c → ∀ x ∈ l.take (k + 1), x ≠ c) := by
  have hd : l.getD k 0 = l[k] := by rw [List.getD_eq_getElem?_getD, List.getElem?_eq_getElem h]; rfl
  rw [hd]
  constructor
  · intro e
    refine (Nam.ix_some l c k).2 ⟨⟨l.drop (k + 1), ?_⟩, h, hn⟩
    rw [← e, ← List.drop_eq_getElem_cons h, List.take_append_drop]
  · intro e x hx
    rw [List.take_succ_eq_append_getElem h] at hx
    rcases List.mem_append.1 hx with hx | hx
    · exact hn x hx
    · rw [List.mem_singleton.1 hx]; exact e

set_option maxHeartbeats 1000000 in
theorem rfind_any (s : ByteArray) (c : UInt8) (w : World) (hs : s.size ≤ 9223372036854775807) :
    Calls Try.prog 122 #[.string s, .int .u8 c.toNat] w fun e w' => e = .returned (.int .i64 (Lib.indexByte s.data.toList c)) ∧ w = w' := by
  go_enter Try.func122, Try.ntmps122
  go_wp2_with fail
  go_loop [5] (fun i => ∃ k : Nat, k ≤ s.size ∧ i = .int .i64 k ∧ Hid (∀ x ∈ s.data.toList.take k, x ≠ c)) (fun i => s.size - (intOf i).toNat)
  case atStart => exact ⟨0, by omega, rfl, by intro x hx; simp at hx⟩
  case round =>
    obtain ⟨k, hk, rfl, HR⟩ := hrel
    by_cases hlt : k < s.size
    · have hst := ix_step s.data.toList c k (by rw [len_at]; exact hlt) HR.out
      rw [getD_at s k hlt] at hst
      have ST := Lib.hid hst
      clear hst
      have hi : (k : Int) < (s.size : Int) := by omega
      by_cases he : s[k] = c
      · have hb : ((s[k].toNat : Int) == (c.toNat : Int)) = true := by rw [he]; simp
        have V := Lib.hid (ST.out.1 he)
        clear he
        go_wp2
        go_ret
        exact ⟨ret_int V.out.symm, rfl⟩
      · have hb : ((s[k].toNat : Int) == (c.toNat : Int)) = false := by
          have : s[k].toNat ≠ c.toNat := fun q => he (UInt8.toNat_inj.1 q)
          simp; omega
        have V := Lib.hid (ST.out.2 he)
        clear he
        go_wp2
        go_round
        case rel => exact ⟨k + 1, by omega, by go_num, V.out⟩
        case measure => simp [intOf]; omega
    · have V : Hid (Lib.indexByte s.data.toList c = -1) := by
        have := HR.out
        rw [List.take_of_length_le (by rw [len_at]; omega)] at this
        exact (Nam.ix_none _ _).2 this
      go_wp2
      go_ret
      exact ⟨ret_int V.out.symm, rfl⟩

set_option maxHeartbeats 1000000 in
theorem rattr_any (s : ByteArray) (w : World) (hs : s.size ≤ 9223372036854775807) :
    Calls Try.prog 111 #[.string s] w fun e w' => e = .returned (.bool (attrS s)) ∧ Below w.heap.size w w' := by
  have C := rfind_any s 46 w hs
  rcases Nam.ix_cases s.data.toList 46 with h | ⟨k, h, hk⟩
  · have A : Hid (attrS s = declS s) := by
      show Nam.attr s.data.toList = Nam.declName s.data.toList
      unfold Nam.attr; rw [if_pos h]
    rw [h] at C
    have HC := Lib.hid C
    clear h C
    go_enter Try.func111, Try.ntmps111
    go_wp2_with fail
    refine HC.out.mono ?_
    rintro e w' ⟨rfl, rfl⟩
    go_wp2_with fail
    refine (rdecl_any _ _ hs).mono ?_
    rw [← A.out]
    rintro e w1 ⟨rfl, hb⟩
    go_wp2
    go_ret
    exact ⟨rfl, hb⟩
  · have hk' : k < s.size := by rw [← len_at]; exact hk
    have x1 : s.extract 0 k = ⟨(s.data.toList.take k).toArray⟩ := by
      obtain ⟨l, e1, e2⟩ := ba_mk s; rw [e2, e1, ext_mk]; rfl
    have x2 : s.extract (k + 1) s.size = ⟨(s.data.toList.drop (k + 1)).toArray⟩ := by
      rw [← len_at]
      obtain ⟨l, e1, e2⟩ := ba_mk s; rw [e2, e1, ext_mk, List.take_length]
    have A : Hid (attrS s = (nameS (s.extract 0 k) && nameS (s.extract (k + 1) s.size))) := by
      rw [x1, x2]
      show Nam.attr s.data.toList = (Nam.isName (s.data.toList.take k) && Nam.isName (s.data.toList.drop (k + 1)))
      unfold Nam.attr; rw [if_neg (by omega), h]; rfl
    rw [h] at C
    have HC := Lib.hid C
    have z1 : (s.extract 0 k).size ≤ 9223372036854775807 := by rw [ByteArray.size_extract]; omega
    have z2 : (s.extract (k + 1) s.size).size ≤ 9223372036854775807 := by rw [ByteArray.size_extract]; omega
    have Z1 := Lib.hid z1
    have Z2 := Lib.hid z2
    clear h C x1 x2 z1 z2 hk
    have i1 : (k : Int) ≤ (s.size : Int) := by omega
    have i2 : (k : Int) + 1 ≤ (s.size : Int) := by omega
    go_enter Try.func111, Try.ntmps111
    go_wp2_with fail
    refine HC.out.mono ?_
    rintro e w' ⟨rfl, rfl⟩
    go_wp2_with fail
    refine (rname_any _ _ Z1.out).mono ?_
    generalize nameS (s.extract 0 k) = x at *
    rintro e w1 ⟨rfl, rfl⟩
    cases x
    · go_wp2
      go_ret
      exact ⟨ret_bool A.out.symm, Below.refl _ _⟩
    · go_wp2_with fail
      refine (rname_any _ _ Z2.out).mono ?_
      generalize nameS (s.extract (k + 1) s.size) = y at *
      rintro e w1 ⟨rfl, rfl⟩
      go_wp2
      go_ret
      exact ⟨ret_bool (by rw [A.out]; simp), Below.refl _ _⟩

end Go.Proofs.Ytinbkhchhlkjgaa
