/-
  The contract of the program's result.
-/
import Derived.Test.YtinbkhchhlkjgaaTyQ
namespace Go.Proofs.Ytinbkhchhlkjgaa
set_option linter.unusedVariables false
set_option linter.unusedSimpArgs false
open Go.ChangeShapes Go.WideShapes Go.ChangeAt Go.RowKit

theorem arg_len (op : Int) (n : Nat) (h : argB op n = true) (h1 : 1 ≤ op) (h2 : op ≤ 22) (h6 : op ≠ 6) :
    ((op = 7 ∨ op = 8 ∨ op = 9 ∨ op = 12 ∨ op = 13) → 1 ≤ n) ∧ (op = 10 ∨ op = 11 → 2 ≤ n) ∧ (op = 14 → 3 ≤ n) ∧ (op = 16 ∨ op = 17 ∨ op = 18 → 2 ≤ n) := by
  unfold argB at h
  (repeat' split at h) <;> (simp at h; omega)

set_option maxHeartbeats 4000000 in
set_option maxRecDepth 100000 in
theorem result_any (op : Int) (v : Value) (L : List Int) (w : World) (hv : IntsAt w v L) (hL : L.length ≤ 9223372036854775807) (hA : argB op L.length = true) (h1 : 1 ≤ op) (h2 : op ≤ 22) (h6 : op ≠ 6) :
    Calls Try.prog 107 #[.int .i64 op, v] w fun e w' => e = .returned (.int .i64 (resT op L)) ∧ Below w.heap.size w w' := by
  obtain ⟨n1, n2, n3, n4⟩ := arg_len op L.length hA h1 h2 h6
  clear hA
  by_cases g0 : op ≤ 5
  · have : op = 1 ∨ op = 2 ∨ op = 3 ∨ op = 4 ∨ op = 5 := by omega
    clear n1 n2 n3 n4 g0 h1 h2 h6
    rcases this with rfl | rfl | rfl | rfl | rfl
    all_goals
      go_enter Try.func107, Try.ntmps107
      go_wp2
      go_ret
      exact ⟨rfl, Below.refl _ _⟩
  · by_cases g1 : op = 7 ∨ op = 8 ∨ op = 9 ∨ op = 12 ∨ op = 13
    · have hv' := hv
      obtain ⟨g, cap, rfl, c0⟩ := ints_one hv (n1 g1)
      have i0 : (0 : Int) < (L.length : Int) := by have := n1 g1; omega
      have C2 : Hid (∀ k w, IntsAt w (.slice (some ⟨g, 0, none⟩) L.length cap) L → Calls Try.prog 118 #[.slice (some ⟨g, 0, none⟩) L.length cap, .int .i64 k] w fun e w' => e = .returned (.bool (allI L k)) ∧ w = w') := fun k w h => all_any _ L k w h hL
      have HV := Lib.hid hv'
      clear n1 n2 n3 n4 g0 h1 h2 h6 hv hv'
      have R1 : Hid (resT op L = if (amtB (L.getD 0 0) && allI L (L.getD 0 0)) = true then L.getD 0 0 else 0) := by
        unfold Hid resT
        rw [if_neg (by omega), if_neg (by omega), if_neg (by omega), if_neg (by omega), if_pos g1]
      generalize L.getD 0 0 = x0 at *
      rcases g1 with rfl | rfl | rfl | rfl | rfl
      all_goals
        go_enter Try.func107, Try.ntmps107
        go_wp2_with fail
        refine (amount_any _ _).mono ?_
        generalize amtB x0 = y at *
        rintro e w' ⟨rfl, hw⟩
        subst hw
        cases y
        · go_wp2
          go_ret
          exact ⟨ret_int (by rw [R1.out]; rfl), Below.refl _ _⟩
        · go_wp2_with fail
          refine (C2.out _ _ HV.out).mono ?_
          generalize allI L x0 = z at *
          rintro e w1 ⟨rfl, hw⟩
          subst hw
          cases z
          · go_wp2
            go_ret
            exact ⟨ret_int (by rw [R1.out]; rfl), Below.refl _ _⟩
          · go_wp2
            go_ret
            exact ⟨ret_int (by rw [R1.out]; rfl), Below.refl _ _⟩
    · by_cases g2 : op = 10 ∨ op = 11
      · obtain ⟨g, cap, rfl, c0, c1⟩ := ints_two hv (n2 g2)
        have i0 : (0 : Int) < (L.length : Int) := by have := n2 g2; omega
        have i1 : (1 : Int) < (L.length : Int) := by have := n2 g2; omega
        have R1 : Hid (resT op L = prodT op (L.getD 0 0) (L.getD 1 0)) := by
          unfold Hid resT
          rw [if_neg (by omega), if_neg (by omega), if_neg (by omega), if_neg (by omega), if_neg (by omega), if_pos g2]
        clear n1 n2 n3 n4 g0 h1 h2 h6 hv g1 hL
        generalize L.getD 0 0 = x0 at *
        generalize L.getD 1 0 = x1 at *
        rcases g2 with rfl | rfl
        all_goals
          go_enter Try.func107, Try.ntmps107
          go_wp2_with fail
          go_quiet ((go_at_call 119; exact Calls.quiet_of_same (product_any _ _ _ _)))
          go_wp2
          go_ret
          exact ⟨ret_int R1.out.symm, below_drewN (Below.refl _ _) _⟩
      · by_cases g3 : op = 14
        · obtain ⟨g, cap, rfl, c0, c1, c2⟩ := ints_three hv (n3 g3)
          have i0 : (0 : Int) < (L.length : Int) := by have := n3 g3; omega
          have i1 : (1 : Int) < (L.length : Int) := by have := n3 g3; omega
          have i2 : (2 : Int) < (L.length : Int) := by have := n3 g3; omega
          subst g3
          have R : Hid (resT 14 L = if L.getD 0 0 = 4 ∧ L.getD 1 0 = L.getD 2 0 then L.getD 1 0 else 0) := rfl
          clear n1 n2 n3 n4 g0 h1 h2 h6 hv g1 g2 hL
          generalize L.getD 0 0 = x0 at *
          generalize L.getD 1 0 = x1 at *
          generalize L.getD 2 0 = x2 at *
          by_cases y : x0 = 4
          · have b0 : (x0 == 4) = true := by simp [y]
            by_cases z : x1 = x2
            · have b1 : (x1 == x2) = true := by simp [z]
              have R1 : Hid (resT 14 L = x1) := by unfold Hid; rw [R.out, if_pos ⟨y, z⟩]
              clear y z R
              go_enter Try.func107, Try.ntmps107
              go_wp2_with fail
              go_quiet (fail)
              go_wp2
              go_ret
              exact ⟨ret_int R1.out.symm, below_drewN (Below.refl _ _) _⟩
            · have b1 : (x1 == x2) = false := by simp [z]
              have R1 : Hid (resT 14 L = 0) := by unfold Hid; rw [R.out, if_neg (fun q => z q.2)]
              clear y z R
              go_enter Try.func107, Try.ntmps107
              go_wp2_with fail
              go_quiet (fail)
              go_wp2
              go_ret
              exact ⟨ret_int R1.out.symm, below_drewN (Below.refl _ _) _⟩
          · have b0 : (x0 == 4) = false := by simp [y]
            have R1 : Hid (resT 14 L = 0) := by unfold Hid; rw [R.out, if_neg (fun q => y q.1)]
            clear y R
            go_enter Try.func107, Try.ntmps107
            go_wp2_with fail
            go_quiet (fail)
            go_wp2
            go_ret
            exact ⟨ret_int R1.out.symm, below_drewN (Below.refl _ _) _⟩
        · have this : op = 15 ∨ op = 16 ∨ op = 17 ∨ op = 18 ∨ op = 19 ∨ op = 20 ∨ op = 21 ∨ op = 22 := by omega
          have R : Hid (resT op L = if cmpB op L = true then 4 else 0) := by
            unfold Hid resT
            rw [if_neg (by omega), if_neg (by omega), if_neg (by omega), if_neg (by omega), if_neg (by omega), if_neg (by omega), if_neg (by omega)]
          have C := Lib.hid (comparison_any op v L w hv hL n4)
          clear n1 n2 n3 n4 g0 h1 h2 h6 hv g1 g2 g3 hL
          have b1 : (op == 1) = false ∧ (op == 2) = false ∧ (op == 3) = false ∧ (op == 4) = false ∧ (op == 5) = false ∧ (op == 7) = false ∧ (op == 8) = false ∧ (op == 9) = false ∧ (op == 10) = false ∧ (op == 11) = false ∧ (op == 12) = false ∧ (op == 13) = false ∧ (op == 14) = false := by
            refine ⟨?_, ?_, ?_, ?_, ?_, ?_, ?_, ?_, ?_, ?_, ?_, ?_, ?_⟩ <;> (simp; omega)
          obtain ⟨b1, b2, b3, b4, b5, b7, b8, b9, b10, b11, b12, b13, b14⟩ := b1
          clear this
          go_enter Try.func107, Try.ntmps107
          go_wp2_with fail
          refine C.out.mono ?_
          generalize cmpB op L = y at *
          rintro e w1 ⟨rfl, hb⟩
          cases y
          · go_wp2
            go_ret
            exact ⟨ret_int (by rw [R.out]; rfl), hb⟩
          · go_wp2
            go_ret
            exact ⟨ret_int (by rw [R.out]; rfl), hb⟩

end Go.Proofs.Ytinbkhchhlkjgaa
