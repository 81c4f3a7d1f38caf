/-
  The contracts of pairinglaw12.LightExpr and pairinglaw13.LightConsts: each returns some bool.
-/
import Derived.Test.YtinbkhchhlkjgaaCst
namespace Go.Proofs.Ytinbkhchhlkjgaa
set_option linter.unusedVariables false
set_option linter.unusedSimpArgs false
open Go.ChangeShapes Go.WideShapes Go.ChangeAt Go.RowKit
open Go.Deep (BT)

set_option maxHeartbeats 2000000 in
set_option maxRecDepth 100000 in
theorem lightx_any (b o : Nat) (a : Nd) (k : Fo) (w : World) (hx : ExAt w b o a k) (hok : ExOk a k) : Calls Try.prog 10 #[.agg #[.int .i64 a.op, .int .i64 a.num, .string a.name, .slice a.ptr (len k) a.cap]] w (SomeB w) := by
  have HX := Lib.hid hx
  have HOK := Lib.hid hok
  clear hx hok
  have B0 : Hid (Below w.heap.size w (w.alloc (.cells #[.int .i64 a.op, .int .i64 a.num, .string a.name, .slice a.ptr (len k) a.cap] 26))) := (Below.refl _ _).alloc (Nat.le_refl _) _
  go_enter Try.func10, Try.ntmps10
  go_wp2_with fail
  refine (size_any b o a k _ (HX.out.next B0.out) HOK.out).mono ?_
  rintro e w1 ⟨m, hm, rfl, hb⟩
  have B1 := Lib.hid (B0.out.trans (hb.mono B0.out.size))
  clear hb
  go_wp2
  go_ret
  exact ⟨_, rfl, B1.out⟩

set_option maxHeartbeats 2000000 in
set_option maxRecDepth 100000 in
theorem lightcs_any (cs : List Cn) (p : Option Addr) (cap : Nat) (w : World) (hcs : CsV w cs p) : Calls Try.prog 9 #[.slice p cs.length cap] w (SomeB w) := by
  have HCS := Lib.hid hcs
  have hsm := hcs.small
  clear hcs
  go_enter Try.func9, Try.ntmps9
  go_wp2_with fail
  go_loopw [3, 4] (fun n i wr => ∃ (j : Nat) (m : Int), j ≤ cs.length ∧ i = .int .i64 j ∧ n = .int .i64 m ∧ Hid (Below w.heap.size w wr)) (fun _ i _ => cs.length - (intOf i).toNat)
  case atStart => exact ⟨0, 0, by omega, rfl, rfl, Below.refl _ _⟩
  case round =>
    obtain ⟨j, m, hj, rfl, rfl, HB⟩ := hrel
    by_cases hlt : j < cs.length
    · by_cases hm1 : m < 1000
      · obtain ⟨c, hc⟩ : ∃ c, cs[j]? = some c := ⟨_, List.getElem?_eq_getElem (by omega)⟩
        obtain ⟨B, O, rfl, ⟨d0, d1, d2, d3, d4⟩, hx⟩ := (HCS.out.next HB.out).get hc
        have OK := Lib.hid (HCS.out.ok c (List.mem_of_getElem? hc))
        have HX := Lib.hid hx
        have hj1 : (j : Int) < (cs.length : Int) := by omega
        clear hc hx
        go_wp2_with fail
        refine (size_any c.b c.o c.a c.k _ HX.out OK.out.2).mono ?_
        rintro e w1 ⟨m1, hm2, rfl, hb⟩
        have B2 := Lib.hid (HB.out.trans (hb.mono HB.out.size))
        clear hb d0 d1 d2 d3 d4
        go_wp2
        go_roundw
        case rel => exact ⟨j + 1, _, by omega, by go_num, rfl, B2.out⟩
        case measure => simp [intOf]; omega
      · have hj1 : (j : Int) < (cs.length : Int) := by omega
        go_wp2
        go_ret
        exact ⟨_, rfl, HB.out⟩
    · have hj1 : ¬ (j : Int) < (cs.length : Int) := by omega
      go_wp2
      go_ret
      exact ⟨_, rfl, HB.out⟩

end Go.Proofs.Ytinbkhchhlkjgaa
