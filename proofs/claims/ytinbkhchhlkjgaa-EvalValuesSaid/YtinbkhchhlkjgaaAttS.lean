/-
  The contract of the reference's AttributeType.
-/
import Derived.Test.YtinbkhchhlkjgaaAttR
namespace Go.Proofs.Ytinbkhchhlkjgaa
set_option linter.unusedVariables false
set_option linter.unusedSimpArgs false
open Go.ChangeShapes Go.WideShapes Go.ChangeAt Go.RowKit

def ratT (L : List (List UInt8)) (s : ByteArray) : Int := Att.refT L s.data.toList
def ratE (L : List (List UInt8)) (s : ByteArray) : Int := if ratT L s = 0 then 6 else 0
theorem kind_ne (l : List UInt8) : Att.kindR l ≠ 0 := by unfold Att.kindR; (repeat' split) <;> omega
theorem rat_no (L : List (List UInt8)) (s : ByteArray) (h : Att.isIn s.toList L = false) : ratT L s = 0 ∧ ratE L s = 6 := by
  have : ratT L s = 0 := by unfold ratT Att.refT; rw [← Lib.toList_data, h]; rfl
  exact ⟨this, by unfold ratE; rw [if_pos this]⟩
theorem rat_yes (L : List (List UInt8)) (s : ByteArray) (h : Att.isIn s.toList L = true) : ratT L s = Att.kindR s.toList ∧ ratE L s = 0 := by
  have : ratT L s = Att.kindR s.toList := by unfold ratT Att.refT; rw [← Lib.toList_data, if_pos h]
  exact ⟨this, by unfold ratE; rw [if_neg (by rw [this]; exact kind_ne _)]⟩

set_option maxHeartbeats 4000000 in
set_option maxRecDepth 100000 in
/-- Where no prefix of a rest's attribute is met: the name is looked for in the scope's list. -/
theorem ratt_list (sc : Int) (s : ByteArray) (L : List (List UInt8)) (w : World) (hL : Att.listL sc = L) (hLn : L.length ≤ 25) (hs : s.size ≤ 9223372036854775807) (h1 : sc = 2 → ¬ (7 < s.size ∧ (s.extract 0 7).toList = Att.before)) (h2 : sc = 2 → ¬ (6 < s.size ∧ (s.extract 0 6).toList = Att.after)) :
    Calls Try.prog 46 #[.int .i64 sc, .string s] w fun e w' => e = .returned (.tuple #[.int .i64 (ratT L s), .int .i64 (ratE L s)]) ∧ Below w.heap.size w w' := by
  have H1 := Lib.hid h1
  have H2 := Lib.hid h2
  have HL := Lib.hid hL
  clear h1 h2 hL
  go_enter Try.func46, Try.ntmps46
  go_upto_region 1 with (fail)
  go_cut [19] (fun v wx => v = .bool false ∧ w = wx)
  case first =>
    by_cases q : sc = 2
    · have b : (sc == 2) = true := by simp [q]
      have H := H1.out q
      clear q
      by_cases q7 : 7 < s.size
      · have j7 : (7 : Int) < (s.size : Int) := by omega
        have k7 : (7 : Int) ≤ (s.size : Int) := by omega
        have e7 : ((s.extract 0 7).toList == [98, 101, 102, 111, 114, 101, 46]) = false := by
          rw [beq_eq_false_iff_ne]; exact fun z => H ⟨q7, z⟩
        clear H
        go_wp2
        go_meet
        exact ⟨rfl, rfl⟩
      · have j7 : ¬ (7 : Int) < (s.size : Int) := by omega
        clear H
        go_wp2
        go_meet
        exact ⟨rfl, rfl⟩
    · have b : (sc == 2) = false := by simp [q]
      clear q
      go_wp2
      go_meet
      exact ⟨rfl, rfl⟩
  case rest =>
    obtain ⟨rfl, rfl⟩ := hcut
    go_upto_region 3 with (fail)
    go_cut [36] (fun v wx => v = .bool false ∧ w = wx)
    case first =>
      by_cases q : sc = 2
      · have b : (sc == 2) = true := by simp [q]
        have H := H2.out q
        clear q
        by_cases q7 : 6 < s.size
        · have j7 : (6 : Int) < (s.size : Int) := by omega
          have k7 : (6 : Int) ≤ (s.size : Int) := by omega
          have e7 : ((s.extract 0 6).toList == [97, 102, 116, 101, 114, 46]) = false := by
            rw [beq_eq_false_iff_ne]; exact fun z => H ⟨q7, z⟩
          clear H
          go_wp2
          go_meet
          exact ⟨rfl, rfl⟩
        · have j7 : ¬ (6 : Int) < (s.size : Int) := by omega
          clear H
          go_wp2
          go_meet
          exact ⟨rfl, rfl⟩
      · have b : (sc == 2) = false := by simp [q]
        clear q
        go_wp2
        go_meet
        exact ⟨rfl, rfl⟩
    case rest =>
      obtain ⟨rfl, rfl⟩ := hcut
      clear H1 H2
      go_wp2_with fail
      refine (rattrs_any _ _).mono ?_
      have N := Lib.hid (rat_no L s)
      have Y := Lib.hid (rat_yes L s)
      rw [HL.out]
      rintro e w1 ⟨v, rfl, hst, hb⟩
      have HB := Lib.hid hb
      clear hb
      rcases hst with ⟨rfl, rfl⟩ | ⟨g, cap, rfl, hcell⟩
      · have R := Lib.hid (N.out rfl)
        clear N Y
        go_wp2_with fail
        go_loop [7] (fun i => i = .int .i64 0) (fun _ => 0)
        case atStart => rfl
        case round =>
          subst hrel
          go_wp2
          go_ret2
          exact ⟨by rw [R.out.1, R.out.2]; rfl, HB.out⟩
      · have HC := Lib.hid hcell
        clear hcell
        go_wp2_with fail
        go_loop [7] (fun i => ∃ k : Nat, k ≤ L.length ∧ i = .int .i64 k ∧ Hid (Att.isIn s.toList L = Att.isIn s.toList (L.drop k))) (fun i => L.length - (intOf i).toNat)
        case atStart => exact ⟨0, by omega, rfl, rfl⟩
        case round =>
          obtain ⟨k, hk, rfl, HR⟩ := hrel
          by_cases hlt : k < L.length
          · have hkl : (strV L)[k]? = some (.string ⟨(L[k]'hlt).toArray⟩) := by simp [strV, hlt]
            have hc := HC.out k _ hkl
            have ST : Hid (Att.isIn s.toList L = ((L[k]'hlt == s.toList) || Att.isIn s.toList (L.drop (k + 1)))) := by
              unfold Hid
              rw [HR.out, List.drop_eq_getElem_cons hlt]
              unfold Att.isIn
              rw [List.any_cons, Bool.beq_comm]
            obtain ⟨l, hl⟩ : ∃ l, l = L[k]'hlt := ⟨_, rfl⟩
            rw [← hl] at hc ST
            clear hkl hl
            have hi : (k : Int) < (L.length : Int) := by omega
            cases hb : (l == s.toList)
            · have HB1 := Lib.hid hb
              have hb2 : (!(l == s.toList)) = true := by rw [hb]; rfl
              go_wp2
              go_round
              case rel => exact ⟨k + 1, by omega, by go_num, by unfold Hid; rw [ST.out, HB1.out, Bool.false_or]⟩
              case measure => simp [intOf]; omega
            · have R := Lib.hid (Y.out (by rw [ST.out, hb]; rfl))
              have hb2 : (!(l == s.toList)) = false := by rw [hb]; rfl
              clear hb N Y ST HR HC
              go_wp2
              all_goals
                go_ret2
                refine ⟨?_, HB.out⟩
                rw [R.out.1, R.out.2]
                refine ret_int2 ?_ rfl
                go_light
                clear R HB HL hb2
                simp only [Att.kindR, Att.isIn, Att.num1, Att.duty3, Att.home, List.any_cons, List.any_nil]
                simp_all
          · have hi : ¬ (k : Int) < (L.length : Int) := by omega
            have R := Lib.hid (N.out (by rw [HR.out, List.drop_eq_nil_of_le (by omega)]; rfl))
            go_wp2
            go_ret2
            exact ⟨by rw [R.out.1, R.out.2]; rfl, HB.out⟩

theorem ext_toList (s : ByteArray) (k : Nat) : (s.extract 0 k).toList = s.data.toList.take k := by
  rw [Lib.toList_data]
  obtain ⟨l, e1, e2⟩ := ba_mk s
  rw [e2, e1, ext_mk, List.drop_zero]
theorem ext_drop (s : ByteArray) (k : Nat) : (s.extract k s.size).data.toList = s.data.toList.drop k := by
  obtain ⟨l, e1, e2⟩ := ba_mk s
  rw [← len_at, e2, e1, ext_mk, List.take_length]
theorem list_bd (sc : Int) : (Att.listL sc).length ≤ 25 := by
  unfold Att.listL; (repeat' split) <;> decide
theorem rat_same (sc : Int) (s : ByteArray) (h : ratT (Att.listL sc) s = atS sc s) : ratE (Att.listL sc) s = atE sc s := by unfold ratE atE; rw [h]

theorem ratt_duty (s : ByteArray) (w : World) (hs : s.size ≤ 9223372036854775807) :
    Calls Try.prog 46 #[.int .i64 1, .string s] w fun e w' => e = .returned (.tuple #[.int .i64 (atS 1 s), .int .i64 (atE 1 s)]) ∧ Below w.heap.size w w' := by
  have e : ratT (Att.listL 1) s = atS 1 s := Att.ref_duty _
  have := ratt_list 1 s _ w rfl (list_bd 1) hs (fun q => by omega) (fun q => by omega)
  rw [e, rat_same 1 s e] at this
  exact this

set_option maxHeartbeats 2000000 in
theorem ratt_any (sc : Int) (s : ByteArray) (w : World) (hs : s.size ≤ 9223372036854775807) :
    Calls Try.prog 46 #[.int .i64 sc, .string s] w fun e w' => e = .returned (.tuple #[.int .i64 (atS sc s), .int .i64 (atE sc s)]) ∧ Below w.heap.size w w' := by
  by_cases hb : sc = 2 ∧ 7 < s.size ∧ (s.extract 0 7).toList = Att.before
  · obtain ⟨rfl, h7, hp⟩ := hb
    have E : Hid (atS 2 s = atS 1 (s.extract 7 s.size) ∧ atE 2 s = atE 1 (s.extract 7 s.size)) := by
      have e : atS 2 s = atS 1 (s.extract 7 s.size) := by
        show Att.restT s.data.toList = Att.dutyT (s.extract 7 s.size).data.toList
        rw [ext_drop]
        exact Att.rest_before _ (by rw [← ext_toList]; exact hp)
      exact ⟨e, by unfold atE; rw [e]⟩
    have b7 : ((s.extract 0 7).toList == [98, 101, 102, 111, 114, 101, 46]) = true := by rw [beq_iff_eq]; exact hp
    have i7 : (7 : Int) < (s.size : Int) := by omega
    have k7 : (7 : Int) ≤ (s.size : Int) := by omega
    have z : Hid ((s.extract 7 s.size).size ≤ 9223372036854775807) := by unfold Hid; rw [ByteArray.size_extract]; omega
    clear hp
    go_enter Try.func46, Try.ntmps46
    go_wp2_with fail
    refine (ratt_duty _ _ z.out).mono ?_
    rw [← E.out.1, ← E.out.2]
    rintro e w1 ⟨rfl, hb⟩
    go_wp2
    go_ret2
    exact ⟨rfl, hb⟩
  · by_cases ha : sc = 2 ∧ 6 < s.size ∧ (s.extract 0 6).toList = Att.after
    · obtain ⟨rfl, h6, hp⟩ := ha
      have E : Hid (atS 2 s = atS 1 (s.extract 6 s.size) ∧ atE 2 s = atE 1 (s.extract 6 s.size)) := by
        have e : atS 2 s = atS 1 (s.extract 6 s.size) := by
          show Att.restT s.data.toList = Att.dutyT (s.extract 6 s.size).data.toList
          rw [ext_drop]
          exact Att.rest_after _ (by rw [← ext_toList]; exact hp)
        exact ⟨e, by unfold atE; rw [e]⟩
      have b6 : ((s.extract 0 6).toList == [97, 102, 116, 101, 114, 46]) = true := by rw [beq_iff_eq]; exact hp
      have i6 : (6 : Int) < (s.size : Int) := by omega
      have k6 : (6 : Int) ≤ (s.size : Int) := by omega
      have z : Hid ((s.extract 6 s.size).size ≤ 9223372036854775807) := by unfold Hid; rw [ByteArray.size_extract]; omega
      by_cases h7 : 7 < s.size
      · have i7 : (7 : Int) < (s.size : Int) := by omega
        have k7 : (7 : Int) ≤ (s.size : Int) := by omega
        have b7 : ((s.extract 0 7).toList == [98, 101, 102, 111, 114, 101, 46]) = false := by
          rw [beq_eq_false_iff_ne]; exact fun q => hb ⟨rfl, h7, q⟩
        clear hp hb
        go_enter Try.func46, Try.ntmps46
        go_wp2_with fail
        refine (ratt_duty _ _ z.out).mono ?_
        rw [← E.out.1, ← E.out.2]
        rintro e w1 ⟨rfl, hb⟩
        go_wp2
        go_ret2
        exact ⟨rfl, hb⟩
      · have i7 : ¬ (7 : Int) < (s.size : Int) := by omega
        clear hp hb
        go_enter Try.func46, Try.ntmps46
        go_wp2_with fail
        refine (ratt_duty _ _ z.out).mono ?_
        rw [← E.out.1, ← E.out.2]
        rintro e w1 ⟨rfl, hb⟩
        go_wp2
        go_ret2
        exact ⟨rfl, hb⟩
    · have e : ratT (Att.listL sc) s = atS sc s := by
        show Att.refT (Att.listL sc) s.data.toList = Att.atT sc s.data.toList
        unfold Att.listL Att.atT
        by_cases q1 : sc = 1
        · rw [if_pos q1, if_pos q1]; exact Att.ref_duty _
        · rw [if_neg q1, if_neg q1]
          by_cases q2 : sc = 2
          · rw [if_pos q2, if_pos q2]
            refine Att.ref_rest _ (fun q => hb ⟨q2, ?_, ?_⟩) (fun q => ha ⟨q2, ?_, ?_⟩)
            · rw [← len_at]; exact q.1
            · rw [ext_toList]; exact q.2
            · rw [← len_at]; exact q.1
            · rw [ext_toList]; exact q.2
          · rw [if_neg q2, if_neg q2]
            by_cases q3 : sc = 3
            · rw [if_pos q3, if_pos q3]; exact Att.ref_pair _
            · rw [if_neg q3, if_neg q3]; rfl
      have := ratt_list sc s _ w rfl (list_bd sc) hs (fun q z => hb ⟨q, z⟩) (fun q z => ha ⟨q, z⟩)
      rw [e, rat_same sc s e] at this
      exact this

end Go.Proofs.Ytinbkhchhlkjgaa
