/-
  The contracts of the reference's ConstIndex and typed.
-/
import Derived.Test.YtinbkhchhlkjgaaCst
import Derived.Test.YtinbkhchhlkjgaaAttS
import Derived.Test.YtinbkhchhlkjgaaTyS
namespace Go.Proofs.Ytinbkhchhlkjgaa
set_option linter.unusedVariables false
set_option linter.unusedSimpArgs false
open Go.ChangeShapes Go.WideShapes Go.ChangeAt Go.RowKit
open Go.Deep (BT)

def ixI (o : Option Nat) : Int := match o with | some i => i | none => -1
set_option maxHeartbeats 1000000 in
theorem rcix_any (cs : List Cn) (p : Option Addr) (n cap : Nat) (s : ByteArray) (w : World) (hcs : CsV w cs p) (hn : n ≤ cs.length) :
    Calls Try.prog 80 #[.slice p n cap, .string s] w fun e w' => e = .returned (.int .i64 (ixI (firstIx s (cs.take n)))) ∧ w = w' := by
  have HC := Lib.hid hcs
  have hsm := hcs.small
  have hn2 : n ≤ 2932031007402 := by omega
  clear hcs hsm
  go_enter Try.func80, Try.ntmps80
  go_wp2_with fail
  go_loop [5] (fun i => ∃ j : Nat, j ≤ n ∧ i = .int .i64 j ∧ Hid (∀ c ∈ cs.take j, c.name ≠ s)) (fun i => n - (intOf i).toNat)
  case atStart => exact ⟨0, by omega, rfl, by intro c hc; simp at hc⟩
  case round =>
    obtain ⟨j, hj, rfl, HR⟩ := hrel
    by_cases hlt : j < n
    · obtain ⟨c, hc⟩ : ∃ c, cs[j]? = some c := ⟨_, List.getElem?_eq_getElem (by omega)⟩
      obtain ⟨B, O, rfl, ⟨c0, -⟩, -⟩ := HC.out.get hc
      have hi : (j : Int) < (n : Int) := by omega
      have CJ := Lib.hid hc
      clear hc
      by_cases he : c.name = s
      · have hb : (c.name.toList == s.toList) = true := by rw [he]; simp
        have R : Hid (firstIx s (cs.take n) = some j) := by
          refine (firstIx_some _ _ _).2 ⟨⟨c, ?_, he⟩, ?_⟩
          · rw [List.getElem?_take_of_lt hlt]; exact CJ.out
          · rw [List.take_take, Nat.min_eq_left (by omega)]; exact HR.out
        clear he
        go_wp2
        go_ret
        exact ⟨ret_int (by rw [R.out]; rfl), rfl⟩
      · have hb : (c.name.toList == s.toList) = false := by
          rw [beq_eq_false_iff_ne, Lib.toList_data, Lib.toList_data]
          exact fun q => he (ByteArray.ext (Array.toList_inj.1 q))
        have R : Hid (∀ c ∈ cs.take (j + 1), c.name ≠ s) := by
          intro d hd
          rw [List.take_add_one, CJ.out] at hd
          rcases List.mem_append.1 hd with hd | hd
          · exact HR.out d hd
          · simp at hd; rw [hd]; exact he
        clear he
        go_wp2
        go_round
        case rel => exact ⟨j + 1, by omega, by go_num, R.out⟩
        case measure => simp [intOf]; omega
    · have hi : ¬ (j : Int) < (n : Int) := by omega
      have R : Hid (firstIx s (cs.take n) = none) := by
        obtain rfl : j = n := by omega
        exact (firstIx_none _ _).2 HR.out
      go_wp2
      go_ret
      exact ⟨ret_int (by rw [R.out]; rfl), rfl⟩

end Go.Proofs.Ytinbkhchhlkjgaa
