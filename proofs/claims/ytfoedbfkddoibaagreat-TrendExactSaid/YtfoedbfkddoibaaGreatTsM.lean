/-
  The walk of TrendExact.
-/
import Derived.Test.YtfoedbfkddoibaaGreatTk1
import Derived.Test.YtfoedbfkddoibaaGreatLgt
namespace Go.Proofs.YtfoedbfkddoibaaGreat
set_option linter.unusedVariables false
set_option linter.unusedSimpArgs false
open Go.ChangeShapes Go.WideShapes Go.ChangeAt Go.RowKit
open Go.Deep (BT)

set_option maxHeartbeats 4000000 in
set_option maxRecDepth 100000 in
theorem walk_trendExact (cs : List Cn) (p : Option Addr) (cap : Nat) (sc : Int) (op num : Int) (name : ByteArray) (ptr : Option Addr) (acap : Nat) (k : Fo) (b o : Nat) (s : ByteArray) (w : World) (hcs : CsV w cs p) (hcap : cs.length ≤ cap) (hsc : (Lit.int .i64 sc).wf = true) (hx : ExAt w b o ⟨op, num, name, ptr, acap⟩ k) (hok : ExOk ⟨op, num, name, ptr, acap⟩ k) (hs : s.size ≤ 9223372036854775807) :
    Calls Tryz.prog 3 #[.slice p cs.length cap, .int .i64 sc, .agg #[.int .i64 op, .int .i64 num, .string name, .slice ptr (len k) acap], .string s] w fun e w' => e = .returned (.bool true) ∧ Below w.heap.size w w' := by
  have HCS := Lib.hid hcs
  have HX := Lib.hid hx
  have HOK := Lib.hid hok
  clear hcs hx hok
  have bx : Hid (Below w.heap.size w (w.alloc (.cells #[.int .i64 op, .int .i64 num, .string name, .slice ptr (len k) acap] 25))) := below_box _ _
  have Y0 : Hid (BX4 (w.alloc (.cells #[.int .i64 op, .int .i64 num, .string name, .slice ptr (len k) acap] 25)) w.heap.size (.int .i64 op) (.int .i64 num) (.string name) (.slice ptr (len k) acap)) := BX4.new w _ _ _ _ _
  have AW := Lib.hid tawake_any
  have OP := Lib.hid (fun (wq : World) h1 h2 => ofP_any cs p cap sc b o op num name ptr acap k s wq h1 h2 HOK.out)
  have OR := Lib.hid (fun (wq : World) h1 h2 => ofR_any cs p cap sc b o op num name ptr acap k s wq h1 hcap hs h2 HOK.out)
  go_enter Tryz.func3, Tryz.ntmps3
  go_wp2_with fail
  generalize w.alloc (.cells #[.int .i64 op, .int .i64 num, .string name, .slice ptr (len k) acap] 25) = w0 at *
  refine (lightcs_any cs p cap w0 (HCS.out.next bx.out)).mono ?_
  rintro e w1 ⟨m1, rfl, hb⟩
  have Y1 := Lib.hid (Y0.out.next hb)
  have B1 := Lib.hid (bx.out.trans (hb.mono bx.out.size))
  obtain ⟨c0, c1, c2, c3, -, -, -, -, -⟩ := Y1.out
  clear hb Y0 bx
  cases m1 with
  | false =>
    go_wp2_with fail
    refine (AW.out w1).mono ?_
    rintro e w2 ⟨rfl, hb⟩
    have B2 := Lib.hid (B1.out.trans (hb.mono B1.out.size))
    clear hb
    go_wp2
    go_ret
    exact ⟨rfl, B2.out⟩
  | true =>
    go_wp2_with fail
    refine (lightx_any b o ⟨op, num, name, ptr, acap⟩ k w1 (HX.out.next B1.out) HOK.out).mono ?_
    rintro e w2 ⟨m2, rfl, hb⟩
    have Y2 := Lib.hid (Y1.out.next hb)
    have B2 := Lib.hid (B1.out.trans (hb.mono B1.out.size))
    clear hb c0 c1 c2 c3 Y1 B1
    cases m2 with
    | false =>
      go_wp2_with fail
      refine (AW.out w2).mono ?_
      rintro e w3 ⟨rfl, hb⟩
      have B3 := Lib.hid (B2.out.trans (hb.mono B2.out.size))
      clear hb
      go_wp2
      go_ret
      exact ⟨rfl, B3.out⟩
    | true =>
      obtain ⟨c0, c1, c2, c3, -, -, -, -, -⟩ := Y2.out
      go_wp2_with fail
      refine (OP.out w2 (HCS.out.next B2.out) (HX.out.next B2.out)).mono ?_
      rintro e w3 ⟨rfl, hb⟩
      have Y3 := Lib.hid (Y2.out.next hb)
      have B3 := Lib.hid (B2.out.trans (hb.mono B2.out.size))
      clear hb c0 c1 c2 c3 Y2 B2
      obtain ⟨c0, c1, c2, c3, -, -, -, -, -⟩ := Y3.out
      go_wp2_with fail
      refine (OR.out w3 (HCS.out.next B3.out) (HX.out.next B3.out)).mono ?_
      rintro e w4 ⟨rfl, hb⟩
      have B4 := Lib.hid (B3.out.trans (hb.mono B3.out.size))
      clear hb c0 c1 c2 c3
      generalize ofT cs sc ⟨op, num, name, ptr, acap⟩ k s = R at *
      obtain ⟨z1, z2⟩ := R
      go_wp2_with fail
      refine (AW.out w4).mono ?_
      rintro e w5 ⟨rfl, hb⟩
      have B5 := Lib.hid (B4.out.trans (hb.mono B4.out.size))
      clear hb
      go_wp2
      go_ret
      exact ⟨rfl, B5.out⟩

end Go.Proofs.YtfoedbfkddoibaaGreat
