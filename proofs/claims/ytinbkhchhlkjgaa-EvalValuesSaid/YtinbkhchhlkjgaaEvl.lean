/-
  The walk of EvalValues.
-/
import Derived.Test.YtinbkhchhlkjgaaRvz
import Derived.Test.YtinbkhchhlkjgaaEaw
import Derived.Test.YtinbkhchhlkjgaaLgt
namespace Go.Proofs.Ytinbkhchhlkjgaa
set_option linter.unusedVariables false
set_option linter.unusedSimpArgs false
open Go.ChangeShapes Go.WideShapes Go.ChangeAt Go.RowKit
open Go.Deep (BT)

set_option maxHeartbeats 4000000 in
set_option maxRecDepth 100000 in
theorem walk_evalValues (cs : List Cn) (p : Option Addr) (cap : Nat) (sc : Int) (L : List Av) (ap : Option Addr) (apc : Nat) (op num : Int) (name : ByteArray) (ptr : Option Addr) (acap : Nat) (k : Fo) (b o : Nat) (w : World) (hcs : CsV w cs p) (hcap : cs.length ≤ cap) (_ : (Lit.int .i64 sc).wf = true)
    (hav : L.length ≤ 60 → AvV w L ap) (hL : L.length ≤ 9223372036854775807) (hx : ExAt w b o ⟨op, num, name, ptr, acap⟩ k) (hok : ExOk ⟨op, num, name, ptr, acap⟩ k) :
    Calls Try.prog 3 #[.slice p cs.length cap, .int .i64 sc, .slice ap L.length apc, .agg #[.int .i64 op, .int .i64 num, .string name, .slice ptr (len k) acap]] w fun e w' => e = .returned (.bool true) ∧ Below w.heap.size w w' := by
  have HCS := Lib.hid hcs
  have HAV := Lib.hid hav
  have HX := Lib.hid hx
  have HOK := Lib.hid hok
  clear hcs hx hok hav
  have B0 : Hid (Below w.heap.size w (w.alloc (.cells #[.int .i64 op, .int .i64 num, .string name, .slice ptr (len k) acap] 26))) := (Below.refl _ _).alloc (Nat.le_refl _) _
  have BX : Hid (∀ wr, Below (w.heap.size + 1) (w.alloc (.cells #[.int .i64 op, .int .i64 num, .string name, .slice ptr (len k) acap] 26)) wr →
      wr.cell? ⟨w.heap.size, 0, none⟩ = some (.int .i64 op) ∧ wr.cell? ⟨w.heap.size, 1, none⟩ = some (.int .i64 num) ∧ wr.cell? ⟨w.heap.size, 2, none⟩ = some (.string name) ∧ wr.cell? ⟨w.heap.size, 3, none⟩ = some (.slice ptr (len k) acap)) := by
    intro wr hb
    refine ⟨?_, ?_, ?_, ?_⟩
    · rw [hb.cell (p := ⟨w.heap.size, 0, none⟩) (by simp)]; simp [go_sem]
    · rw [hb.cell (p := ⟨w.heap.size, 1, none⟩) (by simp)]; simp [go_sem]
    · rw [hb.cell (p := ⟨w.heap.size, 2, none⟩) (by simp)]; simp [go_sem]
    · rw [hb.cell (p := ⟨w.heap.size, 3, none⟩) (by simp)]; simp [go_sem]
  have hz0 : Hid ((w.alloc (.cells #[.int .i64 op, .int .i64 num, .string name, .slice ptr (len k) acap] 26)).heap.size = w.heap.size + 1) := by unfold Hid; simp
  have AW := Lib.hid eawake_any
  go_enter Try.func3, Try.ntmps3
  go_wp2_with fail
  generalize w.alloc (.cells #[.int .i64 op, .int .i64 num, .string name, .slice ptr (len k) acap] 26) = w0 at *
  refine (lightcs_any cs p cap w0 (HCS.out.next B0.out)).mono ?_
  rintro e w1 ⟨m1, rfl, hb⟩
  have Y1 : Hid (Below (w.heap.size + 1) w0 w1) := by rw [← hz0.out]; exact hb
  obtain ⟨c0, c1, c2, c3⟩ := BX.out w1 Y1.out
  have B1 : Hid (Below w.heap.size w w1) := B0.out.trans (Y1.out.mono (Nat.le_succ _))
  clear hb
  cases m1 with
  | false =>
    go_wp2_with fail
    refine (AW.out w1).mono ?_
    rintro e w2 ⟨rfl, hb⟩
    have B2 := Lib.hid (B1.out.trans (hb.mono B1.out.size))
    clear hb
    go_wp2
    go_ret
    exact ⟨rfl, B2.out⟩
  | true =>
    go_wp2_with fail
    refine (lightx_any b o ⟨op, num, name, ptr, acap⟩ k w1 (HX.out.next B1.out) HOK.out).mono ?_
    rintro e w2 ⟨m2, rfl, hb⟩
    have Y2 : Hid (Below (w.heap.size + 1) w0 w2) := Y1.out.trans (hb.mono (by rw [← hz0.out]; exact Y1.out.size))
    have B2 : Hid (Below w.heap.size w w2) := B0.out.trans (Y2.out.mono (Nat.le_succ _))
    clear hb c0 c1 c2 c3
    cases m2 with
    | false =>
      go_wp2_with fail
      refine (AW.out w2).mono ?_
      rintro e w3 ⟨rfl, hb⟩
      have B3 := Lib.hid (B2.out.trans (hb.mono B2.out.size))
      clear hb
      go_wp2
      go_ret
      exact ⟨rfl, B3.out⟩
    | true =>
      by_cases h60 : L.length ≤ 60
      · have AV := Lib.hid (HAV.out h60)
        have n60 : ¬ (60 : Int) < (L.length : Int) := by omega
        obtain ⟨c0, c1, c2, c3⟩ := BX.out w2 Y2.out
        go_wp2_with fail
        refine (eval_any cs p cap sc L ap apc b o op num name ptr acap k w2 (HCS.out.next B2.out) (AV.out.next B2.out) (HX.out.next B2.out) HOK.out).mono ?_
        rintro e w3 ⟨rfl, hb⟩
        have Y3 : Hid (Below (w.heap.size + 1) w0 w3) := Y2.out.trans (hb.mono (by rw [← hz0.out]; exact Y2.out.size))
        have B3 : Hid (Below w.heap.size w w3) := B0.out.trans (Y3.out.mono (Nat.le_succ _))
        have hz3 : w.heap.size + 1 ≤ w3.heap.size := by have := Y3.out.size; rw [hz0.out] at this; exact this
        clear hb c0 c1 c2 c3
        have REV := Lib.hid (fun w' h1 h2 h3 => reval_any cs p cap sc L ap apc b o op num name ptr acap k w' h1 hcap h2 h3 HOK.out)
        generalize evR cs sc L ⟨op, num, name, ptr, acap⟩ k = R at *
        obtain ⟨z1, z2, z3⟩ := R
        dsimp only at REV ⊢
        have Y3a : Hid (Below (w.heap.size + 1) w0 (w3.alloc (.cells #[.int .i64 z1, .int .i64 z2] 31))) := Y3.out.alloc hz3 _
        have hz3a : w.heap.size + 1 ≤ (w3.alloc (.cells #[.int .i64 z1, .int .i64 z2] 31)).heap.size := by simp; omega
        have d0 : (w3.alloc (.cells #[.int .i64 z1, .int .i64 z2] 31)).cell? ⟨w3.heap.size, 0, none⟩ = some (.int .i64 z1) := by simp [go_sem]
        have d1 : (w3.alloc (.cells #[.int .i64 z1, .int .i64 z2] 31)).cell? ⟨w3.heap.size, 1, none⟩ = some (.int .i64 z2) := by simp [go_sem]
        have B3a : Hid (Below w.heap.size w (w3.alloc (.cells #[.int .i64 z1, .int .i64 z2] 31))) := B3.out.alloc B3.out.size _
        obtain ⟨c0, c1, c2, c3⟩ := BX.out w3 Y3.out
        have hne0 : w.heap.size < w3.heap.size := by omega
        go_wp2_with fail
        generalize w3.alloc (.cells #[.int .i64 z1, .int .i64 z2] 31) = w4 at *
        refine (REV.out w4 (HCS.out.next B3a.out) (AV.out.next B3a.out) (HX.out.next B3a.out)).mono ?_
        rintro e w5 ⟨rfl, hb⟩
        have B5 : Hid (Below w.heap.size w w5) := B3a.out.trans (hb.mono B3a.out.size)
        have e0 : w5.cell? ⟨w3.heap.size, 0, none⟩ = some (.int .i64 z1) := by rw [hb.cell (block_lt_of_cell d0)]; exact d0
        have e1 : w5.cell? ⟨w3.heap.size, 1, none⟩ = some (.int .i64 z2) := by rw [hb.cell (block_lt_of_cell d1)]; exact d1
        have hne : w3.heap.size < w5.heap.size := Nat.lt_of_lt_of_le (block_lt_of_cell d0) hb.size
        clear hb c0 c1 c2 c3 d0 d1
        have B5a : Hid (Below w.heap.size w (w5.alloc (.cells #[.int .i64 z1, .int .i64 z2] 31))) := B5.out.alloc B5.out.size _
        go_wp2_with fail
        refine (AW.out _).mono ?_
        rintro e w6 ⟨rfl, hb⟩
        have B6 := Lib.hid (B5a.out.trans (hb.mono B5a.out.size))
        clear hb
        go_wp2
        go_ret
        exact ⟨rfl, B6.out⟩
      · have n60 : (60 : Int) < (L.length : Int) := by omega
        go_wp2_with fail
        refine (AW.out w2).mono ?_
        rintro e w3 ⟨rfl, hb⟩
        have B3 := Lib.hid (B2.out.trans (hb.mono B2.out.size))
        clear hb
        go_wp2
        go_ret
        exact ⟨rfl, B3.out⟩

end Go.Proofs.Ytinbkhchhlkjgaa
