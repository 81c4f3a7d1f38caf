/-
  The contracts of the program's result and what it calls.
-/
import Derived.Test.YtinbkhchhlkjgaaAtt
import Derived.Test.YtinbkhchhlkjgaaTyM
namespace Go.Proofs.Ytinbkhchhlkjgaa
set_option linter.unusedVariables false
set_option linter.unusedSimpArgs false
open Go.ChangeShapes Go.WideShapes Go.ChangeAt Go.RowKit

/-- A slice of ints lies in memory. -/
def IntsAt (w : World) (v : Value) (L : List Int) : Prop := (L = [] ∧ ∃ p c, v = .slice p 0 c) ∨ ∃ g cap : Nat, v = .slice (some ⟨g, 0, none⟩) L.length cap ∧ ∀ i x, L[i]? = some x → w.cell? ⟨g, i, none⟩ = some (.int .i64 x)
theorem IntsAt.next {w w' : World} {v : Value} {L : List Int} (h : IntsAt w v L) (hb : Below w.heap.size w w') : IntsAt w' v L := by
  rcases h with h | ⟨g, cap, h1, h2⟩
  · exact .inl h
  · exact .inr ⟨g, cap, h1, fun i u hu => by rw [hb.cell (block_lt_of_cell (h2 i u hu))]; exact h2 i u hu⟩
theorem allI_step (L : List Int) (k : Int) (i : Nat) (h : i < L.length) : allI (L.drop i) k = ((L[i] == k) && allI (L.drop (i + 1)) k) := by
  rw [List.drop_eq_getElem_cons h]; rfl

set_option maxHeartbeats 1000000 in
theorem all_any (v : Value) (L : List Int) (k : Int) (w : World) (hv : IntsAt w v L) (hL : L.length ≤ 9223372036854775807) :
    Calls Try.prog 118 #[v, .int .i64 k] w fun e w' => e = .returned (.bool (allI L k)) ∧ w = w' := by
  rcases hv with ⟨rfl, p, c, rfl⟩ | ⟨g, cap, rfl, hc⟩
  · go_enter Try.func118, Try.ntmps118
    go_wp2_with fail
    go_loop [6, 9] (fun _ i => i = .int .i64 0) (fun _ _ => 0)
    case atStart => rfl
    case round =>
      subst hrel
      go_wp2
      go_ret
      exact ⟨rfl, rfl⟩
  · have HC := Lib.hid hc
    clear hc
    go_enter Try.func118, Try.ntmps118
    go_wp2_with fail
    go_loop [6, 9] (fun _ i => ∃ j : Nat, j ≤ L.length ∧ i = .int .i64 j ∧ Hid (allI L k = allI (L.drop j) k)) (fun _ i => L.length - (intOf i).toNat)
    case atStart => exact ⟨0, by omega, rfl, rfl⟩
    case round =>
      obtain ⟨j, hj, rfl, HR⟩ := hrel
      by_cases hlt : j < L.length
      · have hcell := HC.out j _ (List.getElem?_eq_getElem hlt)
        have ST : Hid (allI L k = ((L[j] == k) && allI (L.drop (j + 1)) k)) := HR.out.trans (allI_step L k j hlt)
        generalize L[j] = x at *
        have hi : (j : Int) < (L.length : Int) := by omega
        cases hb : (x == k)
        · have HB := Lib.hid hb
          have hb2 : (x != k) = true := by unfold bne; rw [hb]; rfl
          go_wp2
          go_ret
          exact ⟨ret_bool (by rw [ST.out, HB.out]; rfl), rfl⟩
        · have HB := Lib.hid hb
          have hb2 : (x != k) = false := by unfold bne; rw [hb]; rfl
          go_wp2
          go_round
          case rel => exact ⟨j + 1, by omega, by go_num, by unfold Hid; rw [ST.out, HB.out]; rfl⟩
          case measure => simp [intOf]; omega
      · have hi : ¬ (j : Int) < (L.length : Int) := by omega
        have R : Hid (allI L k = true) := by unfold Hid; rw [HR.out, List.drop_eq_nil_of_le (by omega)]; rfl
        go_wp2
        go_ret
        exact ⟨ret_bool R.out.symm, rfl⟩

theorem amount_any (k : Int) (w : World) : Calls Try.prog 117 #[.int .i64 k] w fun e w' => e = .returned (.bool (amtB k)) ∧ w' = w := by
  go_enter Try.func117, Try.ntmps117
  go_wp2
  all_goals
    go_ret
    refine ⟨ret_bool ?_, rfl⟩
    go_light
    try simp only [beq_iff_eq, beq_eq_false_iff_ne] at *
    unfold amtB
    rw [Bool.eq_iff_iff]
    simp
    try omega

set_option maxHeartbeats 1000000 in
theorem product_any (op a b : Int) (w : World) : Calls Try.prog 119 #[.int .i64 op, .int .i64 a, .int .i64 b] w fun e w' => e = .returned (.int .i64 (prodT op a b)) ∧ w' = w := by
  go_enter Try.func119, Try.ntmps119
  go_wp2
  all_goals
    go_ret
    refine ⟨ret_int ?_, rfl⟩
    go_light
    try simp only [beq_iff_eq, beq_eq_false_iff_ne] at *
    unfold prodT
    (repeat' split) <;> first | rfl | (exfalso; omega)

end Go.Proofs.Ytinbkhchhlkjgaa
