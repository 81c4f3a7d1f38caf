/-
  The contracts of the reference's all and result.
-/
import Derived.Test.YtinbkhchhlkjgaaTyR
namespace Go.Proofs.Ytinbkhchhlkjgaa
set_option linter.unusedVariables false
set_option linter.unusedSimpArgs false
open Go.ChangeShapes Go.WideShapes Go.ChangeAt Go.RowKit

set_option maxHeartbeats 1000000 in
theorem rall_any (v : Value) (L : List Int) (k : Int) (w : World) (hv : IntsAt w v L) (hL : L.length ≤ 9223372036854775807) :
    Calls Try.prog 112 #[v, .int .i64 k] w fun e w' => e = .returned (.bool (allI L k)) ∧ w = w' := by
  rcases hv with ⟨rfl, p, c, rfl⟩ | ⟨g, cap, rfl, hc⟩
  · go_enter Try.func112, Try.ntmps112
    go_wp2_with fail
    go_loop [5] (fun i => i = .int .i64 0) (fun _ => 0)
    case atStart => rfl
    case round =>
      subst hrel
      go_wp2
      go_ret
      exact ⟨rfl, rfl⟩
  · have HC := Lib.hid hc
    clear hc
    go_enter Try.func112, Try.ntmps112
    go_wp2_with fail
    go_loop [5] (fun i => ∃ j : Nat, j ≤ L.length ∧ i = .int .i64 j ∧ Hid (allI L k = allI (L.drop j) k)) (fun i => L.length - (intOf i).toNat)
    case atStart => exact ⟨0, by omega, rfl, rfl⟩
    case round =>
      obtain ⟨j, hj, rfl, HR⟩ := hrel
      by_cases hlt : j < L.length
      · have hcell := HC.out j _ (List.getElem?_eq_getElem hlt)
        have ST : Hid (allI L k = ((L[j] == k) && allI (L.drop (j + 1)) k)) := HR.out.trans (allI_step L k j hlt)
        generalize L[j] = x at *
        have hi : (j : Int) < (L.length : Int) := by omega
        cases hb : (x == k)
        · have HB := Lib.hid hb
          have hb2 : (x != k) = true := by unfold bne; rw [hb]; rfl
          go_wp2
          go_ret
          exact ⟨ret_bool (by rw [ST.out, HB.out]; rfl), rfl⟩
        · have HB := Lib.hid hb
          have hb2 : (x != k) = false := by unfold bne; rw [hb]; rfl
          go_wp2
          go_round
          case rel => exact ⟨j + 1, by omega, by go_num, by unfold Hid; rw [ST.out, HB.out]; rfl⟩
          case measure => simp [intOf]; omega
      · have hi : ¬ (j : Int) < (L.length : Int) := by omega
        have R : Hid (allI L k = true) := by unfold Hid; rw [HR.out, List.drop_eq_nil_of_le (by omega)]; rfl
        go_wp2
        go_ret
        exact ⟨ret_bool R.out.symm, rfl⟩

theorem arg_exact (op : Int) (n : Nat) (h : argB op n = true) : (op = 10 ∨ op = 11 ∨ op = 16 ∨ op = 17 ∨ op = 18 → n = 2) ∧ (op = 14 → n = 3) := by
  unfold argB at h
  (repeat' split at h) <;> (simp at h; omega)
theorem amt_all (L : List Int) (h : 1 ≤ L.length) : (if (amtB (L.getD 0 0) && allI L (L.getD 0 0)) = true then L.getD 0 0 else 0) = if allI L 1 = true then 1 else if allI L 2 = true then 2 else 0 := by
  cases L with
  | nil => simp at h
  | cons x t =>
    have hx : ∀ k, allI (x :: t) k = ((x == k) && allI t k) := fun k => rfl
    rw [List.getD_cons_zero, hx, hx, hx]
    by_cases h1 : x = 1
    · subst h1; simp [amtB]
    · by_cases h2 : x = 2
      · subst h2; simp [amtB]
      · simp [amtB, h1, h2]
theorem list2 (L : List Int) (h : L.length = 2) : ∃ a b, L = [a, b] := by
  match L, h with
  | [a, b], _ => exact ⟨a, b, rfl⟩
theorem list3 (L : List Int) (h : L.length = 3) : ∃ a b c, L = [a, b, c] := by
  match L, h with
  | [a, b, c], _ => exact ⟨a, b, c, rfl⟩
theorem all2 (a b k : Int) : allI [a, b] k = decide (a = k ∧ b = k) := by
  unfold allI; simp; rfl

set_option maxHeartbeats 8000000 in
set_option maxRecDepth 100000 in
theorem rresult_any (op : Int) (v : Value) (L : List Int) (w : World) (hv : IntsAt w v L) (hL : L.length ≤ 9223372036854775807) (hA : argB op L.length = true) (h1 : 1 ≤ op) (h2 : op ≤ 22) (h6 : op ≠ 6) :
    Calls Try.prog 97 #[.int .i64 op, v] w fun e w' => e = .returned (.int .i64 (resT op L)) ∧ Below w.heap.size w w' := by
  obtain ⟨n1, n2, n3, n4⟩ := arg_len op L.length hA h1 h2 h6
  obtain ⟨m1, m2⟩ := arg_exact op L.length hA
  have C : Hid (∀ k, Calls Try.prog 112 #[v, .int .i64 k] w fun e w' => e = .returned (.bool (allI L k)) ∧ w = w') := fun k => rall_any v L k w hv hL
  clear hA
  by_cases g0 : op ≤ 5
  · have : op = 1 ∨ op = 2 ∨ op = 3 ∨ op = 4 ∨ op = 5 := by omega
    clear n1 n2 n3 n4 g0 h1 h2 h6
    rcases this with rfl | rfl | rfl | rfl | rfl
    all_goals
      go_enter Try.func97, Try.ntmps97
      go_wp2
      go_ret
      exact ⟨rfl, Below.refl _ _⟩
  · by_cases g1 : op = 7 ∨ op = 8 ∨ op = 9 ∨ op = 12 ∨ op = 13
    · have R1 : Hid (resT op L = if allI L 1 = true then 1 else if allI L 2 = true then 2 else 0) := by
        unfold Hid; rw [← amt_all L (n1 g1)]; unfold resT
        rw [if_neg (by omega), if_neg (by omega), if_neg (by omega), if_neg (by omega), if_pos g1]
      clear n1 n2 n3 n4 g0 h1 h2 h6 m1 m2
      rcases g1 with rfl | rfl | rfl | rfl | rfl
      all_goals
        go_enter Try.func97, Try.ntmps97
        go_wp2_with fail
        refine (C.out 1).mono ?_
        generalize allI L 1 = y at *
        rintro e w' ⟨rfl, hw⟩
        subst hw
        cases y
        · go_wp2_with fail
          refine (C.out 2).mono ?_
          generalize allI L 2 = z at *
          rintro e w1 ⟨rfl, hw⟩
          subst hw
          cases z
          · go_wp2
            go_ret
            exact ⟨ret_int (by rw [R1.out]; rfl), Below.refl _ _⟩
          · go_wp2
            go_ret
            exact ⟨ret_int (by rw [R1.out]; rfl), Below.refl _ _⟩
        · go_wp2
          go_ret
          exact ⟨ret_int (by rw [R1.out]; rfl), Below.refl _ _⟩
    · by_cases g2 : op = 10 ∨ op = 11 ∨ op = 16 ∨ op = 17 ∨ op = 18
      · obtain ⟨x0, x1, rfl⟩ := list2 L (m1 g2)
        obtain ⟨g, cap, rfl, c0, c1⟩ := ints_two hv (by simp)
        simp only [List.getD_cons_zero, List.getD_cons_succ] at c0 c1
        have a1 := all2 x0 x1 1
        have a2 := all2 x0 x1 2
        have A1 := Lib.hid a1
        have A2 := Lib.hid a2
        clear n1 n2 n3 n4 g0 h1 h2 h6 m1 m2 g1 hv a1 a2 hL
        simp only [List.length_cons, List.length_nil, Nat.zero_add, Nat.reduceAdd] at C ⊢
        rcases g2 with rfl | rfl | rfl | rfl | rfl
        · have R : Hid (resT 10 [x0, x1] = prodT 10 x0 x1) := rfl
          go_enter Try.func97, Try.ntmps97
          go_wp2_with fail
          refine (C.out 1).mono ?_
          generalize allI [x0, x1] 1 = y at *
          rintro e w' ⟨rfl, hw⟩
          subst hw
          cases y
          · go_wp2
            all_goals
              go_ret
              refine ⟨ret_int ?_, Below.refl _ _⟩
              go_light
              rw [R.out]
              have q := A1.out
              clear R A1 A2 C c0 c1
              try simp only [beq_iff_eq, beq_eq_false_iff_ne] at *
              simp only [false_eq_decide_iff] at q
              unfold prodT
              (repeat' split) <;> first | rfl | (exfalso; omega)
          · go_wp2
            go_ret
            refine ⟨ret_int ?_, Below.refl _ _⟩
            rw [R.out]
            have q := A1.out
            simp only [true_eq_decide_iff] at q
            unfold prodT; rw [if_pos q]
        · have R : Hid (resT 11 [x0, x1] = prodT 11 x0 x1) := rfl
          go_enter Try.func97, Try.ntmps97
          go_wp2_with fail
          refine (C.out 1).mono ?_
          generalize allI [x0, x1] 1 = y at *
          rintro e w' ⟨rfl, hw⟩
          subst hw
          cases y
          · go_wp2_with fail
            refine (C.out 2).mono ?_
            generalize allI [x0, x1] 2 = z at *
            rintro e w1 ⟨rfl, hw⟩
            subst hw
            cases z
            · go_wp2
              all_goals
                go_ret
                refine ⟨ret_int ?_, Below.refl _ _⟩
                go_light
                rw [R.out]
                have q := A1.out
                have q' := A2.out
                clear R A1 A2 C c0 c1
                try simp only [beq_iff_eq, beq_eq_false_iff_ne] at *
                simp only [false_eq_decide_iff] at q q'
                unfold prodT
                (repeat' split) <;> first | rfl | (exfalso; omega)
            · go_wp2
              go_ret
              refine ⟨ret_int ?_, Below.refl _ _⟩
              rw [R.out]
              have q := A2.out
              simp only [true_eq_decide_iff] at q
              obtain ⟨rfl, rfl⟩ := q
              rfl
          · go_wp2
            go_ret
            refine ⟨ret_int ?_, Below.refl _ _⟩
            rw [R.out]
            have q := A1.out
            simp only [true_eq_decide_iff] at q
            unfold prodT; rw [if_pos q]
        · have R : Hid (resT 16 [x0, x1] = if (amtB x0 && (x0 == x1)) = true then 4 else 0) := rfl
          go_enter Try.func97, Try.ntmps97
          go_wp2_with fail
          refine (C.out 1).mono ?_
          generalize allI [x0, x1] 1 = y at *
          rintro e w' ⟨rfl, hw⟩
          subst hw
          cases y
          · go_wp2_with fail
            refine (C.out 2).mono ?_
            generalize allI [x0, x1] 2 = z at *
            rintro e w1 ⟨rfl, hw⟩
            subst hw
            cases z
            · go_wp2
              go_ret
              refine ⟨ret_int ?_, Below.refl _ _⟩
              rw [R.out]
              have q := A1.out
              have q' := A2.out
              simp only [false_eq_decide_iff] at q q'
              rw [if_neg]
              simp [amtB]; omega
            · go_wp2
              go_ret
              refine ⟨ret_int ?_, Below.refl _ _⟩
              rw [R.out]
              have q := A2.out
              simp only [true_eq_decide_iff] at q
              obtain ⟨rfl, rfl⟩ := q
              rfl
          · go_wp2
            go_ret
            refine ⟨ret_int ?_, Below.refl _ _⟩
            rw [R.out]
            have q := A1.out
            simp only [true_eq_decide_iff] at q
            obtain ⟨rfl, rfl⟩ := q
            rfl
        · have R : Hid (resT 17 [x0, x1] = if (amtB x0 && (x0 == x1)) = true then 4 else 0) := rfl
          go_enter Try.func97, Try.ntmps97
          go_wp2_with fail
          refine (C.out 1).mono ?_
          generalize allI [x0, x1] 1 = y at *
          rintro e w' ⟨rfl, hw⟩
          subst hw
          cases y
          · go_wp2_with fail
            refine (C.out 2).mono ?_
            generalize allI [x0, x1] 2 = z at *
            rintro e w1 ⟨rfl, hw⟩
            subst hw
            cases z
            · go_wp2
              go_ret
              refine ⟨ret_int ?_, Below.refl _ _⟩
              rw [R.out]
              have q := A1.out
              have q' := A2.out
              simp only [false_eq_decide_iff] at q q'
              rw [if_neg]
              simp [amtB]; omega
            · go_wp2
              go_ret
              refine ⟨ret_int ?_, Below.refl _ _⟩
              rw [R.out]
              have q := A2.out
              simp only [true_eq_decide_iff] at q
              obtain ⟨rfl, rfl⟩ := q
              rfl
          · go_wp2
            go_ret
            refine ⟨ret_int ?_, Below.refl _ _⟩
            rw [R.out]
            have q := A1.out
            simp only [true_eq_decide_iff] at q
            obtain ⟨rfl, rfl⟩ := q
            rfl
        · have R : Hid (resT 18 [x0, x1] = if (x0 == x1) = true then 4 else 0) := rfl
          cases hb : (x0 == x1)
          · have HB := Lib.hid hb
            go_enter Try.func97, Try.ntmps97
            go_wp2_with fail
            go_quiet (fail)
            go_wp2
            go_ret
            exact ⟨ret_int (by rw [R.out, HB.out]; rfl), below_drewN (Below.refl _ _) _⟩
          · have HB := Lib.hid hb
            go_enter Try.func97, Try.ntmps97
            go_wp2_with fail
            go_quiet (fail)
            go_wp2
            go_ret
            exact ⟨ret_int (by rw [R.out, HB.out]; rfl), below_drewN (Below.refl _ _) _⟩
      · by_cases g3 : op = 14
        · obtain ⟨x0, x1, x2, rfl⟩ := list3 L (m2 g3)
          obtain ⟨g, cap, rfl, c0, c1, c2⟩ := ints_three hv (by simp)
          simp only [List.getD_cons_zero, List.getD_cons_succ] at c0 c1 c2
          clear n1 n2 n3 n4 g0 h1 h2 h6 m1 m2 g1 g2 hv hL C
          simp only [List.length_cons, List.length_nil, Nat.zero_add, Nat.reduceAdd]
          subst g3
          have R : Hid (resT 14 [x0, x1, x2] = if x0 = 4 ∧ x1 = x2 then x1 else 0) := rfl
          by_cases y : x0 = 4
          · have b0 : (x0 == 4) = true := by simp [y]
            by_cases z : x1 = x2
            · have b1 : (x1 == x2) = true := by simp [z]
              have R1 : Hid (resT 14 [x0, x1, x2] = x1) := by unfold Hid; rw [R.out, if_pos ⟨y, z⟩]
              clear y z R
              go_enter Try.func97, Try.ntmps97
              go_wp2_with fail
              go_quiet (fail)
              go_wp2
              go_ret
              exact ⟨ret_int R1.out.symm, below_drewN (Below.refl _ _) _⟩
            · have b1 : (x1 == x2) = false := by simp [z]
              have R1 : Hid (resT 14 [x0, x1, x2] = 0) := by unfold Hid; rw [R.out, if_neg (fun q => z q.2)]
              clear y z R
              go_enter Try.func97, Try.ntmps97
              go_wp2_with fail
              go_quiet (fail)
              go_wp2
              go_ret
              exact ⟨ret_int R1.out.symm, below_drewN (Below.refl _ _) _⟩
          · have b0 : (x0 == 4) = false := by simp [y]
            have R1 : Hid (resT 14 [x0, x1, x2] = 0) := by unfold Hid; rw [R.out, if_neg (fun q => y q.1)]
            clear y R
            go_enter Try.func97, Try.ntmps97
            go_wp2_with fail
            go_quiet (fail)
            go_wp2
            go_ret
            exact ⟨ret_int R1.out.symm, below_drewN (Below.refl _ _) _⟩
        · have this : op = 15 ∨ op = 19 ∨ op = 20 ∨ op = 21 ∨ op = 22 := by omega
          have R : Hid (resT op L = if allI L (if op = 15 then 3 else 4) = true then 4 else 0) := by
            have hc : cmpB op L = allI L (if op = 15 then 3 else 4) := by
              unfold cmpB
              by_cases q : op = 15
              · rw [if_pos q, if_pos q]
              · have q1 : ¬ (op = 16 ∨ op = 17) := by omega
                have q2 : ¬ op = 18 := by omega
                rw [if_neg q, if_neg q1, if_neg q2, if_neg q]
            unfold Hid
            rw [← hc]
            unfold resT
            rw [if_neg (by omega), if_neg (by omega), if_neg (by omega), if_neg (by omega), if_neg (by omega), if_neg (by omega), if_neg (by omega)]
          clear n1 n2 n3 n4 g0 h1 h2 h6 m1 m2 g1 g2 g3 hv hL
          rcases this with rfl | rfl | rfl | rfl | rfl
          · have R1 : Hid (resT 15 L = if allI L 3 = true then 4 else 0) := R
            clear R
            go_enter Try.func97, Try.ntmps97
            go_wp2_with fail
            refine (C.out 3).mono ?_
            generalize allI L 3 = y at *
            rintro e w' ⟨rfl, hw⟩
            subst hw
            cases y
            · go_wp2
              go_ret
              exact ⟨ret_int (by rw [R1.out]; rfl), Below.refl _ _⟩
            · go_wp2
              go_ret
              exact ⟨ret_int (by rw [R1.out]; rfl), Below.refl _ _⟩
          all_goals
            have R1 : Hid (resT _ L = if allI L 4 = true then 4 else 0) := R
            clear R
            go_enter Try.func97, Try.ntmps97
            go_wp2_with fail
            refine (C.out 4).mono ?_
            generalize allI L 4 = y at *
            rintro e w' ⟨rfl, hw⟩
            subst hw
            cases y
            · go_wp2
              go_ret
              exact ⟨ret_int (by rw [R1.out]; rfl), Below.refl _ _⟩
            · go_wp2
              go_ret
              exact ⟨ret_int (by rw [R1.out]; rfl), Below.refl _ _⟩

end Go.Proofs.Ytinbkhchhlkjgaa
