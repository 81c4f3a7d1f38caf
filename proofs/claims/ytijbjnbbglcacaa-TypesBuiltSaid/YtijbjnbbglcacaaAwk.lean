/-
  The contract of pairinglaw13.awake, and the walk of TypesOf.
-/
import Derived.Test.YtijbjnbbglcacaaTyo
import Derived.Test.YtijbjnbbglcacaaLgt
namespace Go.Proofs.Ytijbjnbbglcacaa
set_option linter.unusedVariables false
set_option linter.unusedSimpArgs false
open Go.ChangeShapes Go.WideShapes Go.ChangeAt Go.RowKit
open Go.Deep (BT)

theorem csv_nil (w : World) : CsV w [] none := ⟨⟨0, 0, fun q => absurd rfl q, trivial⟩, (fun c hc => by cases hc), Nat.zero_le _⟩

def awkF : Fo := .node 0 0 ⟨6, 0, ⟨#[115, 112, 97, 110]⟩, none, 0⟩ .nil (.node 0 0 ⟨1, 2, ⟨#[]⟩, none, 0⟩ .nil .nil)
theorem awk_type (q : Option Addr) : typeOfT [] 1 ⟨11, 0, ⟨#[]⟩, q, 2⟩ awkF = (2, 0) := by kernel_rfl
theorem awk_ok (q : Option Addr) : ExOk ⟨11, 0, ⟨#[]⟩, q, 2⟩ awkF := by
  unfold awkF
  simp only [ExOk, FoOk, NdOk, len]
  decide

set_option maxHeartbeats 4000000 in
set_option maxRecDepth 100000 in
theorem awake_any (w : World) : Calls Try.prog 10 #[] w fun e w' => e = .returned (.bool true) ∧ Below w.heap.size w w' := by
  go_enter Try.func10, Try.ntmps10
  go_wp2_with fail
  have q := typeof_any [] none 0 1 w.heap.size 0 11 0 ⟨#[]⟩ (some ⟨w.heap.size, 0, none⟩) 2 awkF ((w.alloc (.cells #[.int .i64 6, .int .i64 0, .string ⟨#[115, 112, 97, 110]⟩, .slice none 0 0, .int .i64 1, .int .i64 2, .string ⟨#[]⟩, .slice none 0 0] 25)).alloc (.cells #[.int .i64 11, .int .i64 0, .string ⟨#[]⟩, .slice (some ⟨w.heap.size, 0, none⟩) 2 2] 25)) (csv_nil _)
    ⟨fun _ => rfl, ⟨by simp [go_sem], by simp [go_sem], by simp [go_sem], by simp [go_sem, len]⟩, fun h => absurd rfl h, trivial, ⟨by simp [go_sem], by simp [go_sem], by simp [go_sem], by simp [go_sem, len]⟩, fun h => absurd rfl h, trivial, trivial⟩ (awk_ok _)
  rw [awk_type] at q
  refine q.mono ?_
  clear q
  rintro e w1 ⟨rfl, hb⟩
  have B1 : Hid (Below w.heap.size w w1) := (((Below.refl _ _).alloc (Nat.le_refl _) _).alloc (by simp) _).trans (hb.mono (by simp; omega))
  clear hb
  go_wp2
  go_ret
  exact ⟨rfl, B1.out⟩

set_option maxHeartbeats 4000000 in
set_option maxRecDepth 100000 in
theorem walk_typesOf (cs : List Cn) (p : Option Addr) (cap : Nat) (sc : Int) (op num : Int) (name : ByteArray) (ptr : Option Addr) (acap : Nat) (k : Fo) (b o : Nat) (w : World) (hcs : CsV w cs p) (hcap : cs.length ≤ cap) (_ : (Lit.int .i64 sc).wf = true)
    (hx : ExAt w b o ⟨op, num, name, ptr, acap⟩ k) (hok : ExOk ⟨op, num, name, ptr, acap⟩ k) :
    Calls Try.prog 3 #[.slice p cs.length cap, .int .i64 sc, .agg #[.int .i64 op, .int .i64 num, .string name, .slice ptr (len k) acap]] w fun e w' => e = .returned (.bool true) ∧ Below w.heap.size w w' := by
  have HCS := Lib.hid hcs
  have HX := Lib.hid hx
  have HOK := Lib.hid hok
  clear hcs hx hok
  have B0 : Hid (Below w.heap.size w (w.alloc (.cells #[.int .i64 op, .int .i64 num, .string name, .slice ptr (len k) acap] 25))) := (Below.refl _ _).alloc (Nat.le_refl _) _
  have BX : Hid (∀ wr, Below (w.heap.size + 1) (w.alloc (.cells #[.int .i64 op, .int .i64 num, .string name, .slice ptr (len k) acap] 25)) wr →
      wr.cell? ⟨w.heap.size, 0, none⟩ = some (.int .i64 op) ∧ wr.cell? ⟨w.heap.size, 1, none⟩ = some (.int .i64 num) ∧ wr.cell? ⟨w.heap.size, 2, none⟩ = some (.string name) ∧ wr.cell? ⟨w.heap.size, 3, none⟩ = some (.slice ptr (len k) acap)) := by
    intro wr hb
    refine ⟨?_, ?_, ?_, ?_⟩
    · rw [hb.cell (p := ⟨w.heap.size, 0, none⟩) (by simp)]; simp [go_sem]
    · rw [hb.cell (p := ⟨w.heap.size, 1, none⟩) (by simp)]; simp [go_sem]
    · rw [hb.cell (p := ⟨w.heap.size, 2, none⟩) (by simp)]; simp [go_sem]
    · rw [hb.cell (p := ⟨w.heap.size, 3, none⟩) (by simp)]; simp [go_sem]
  have hz0 : Hid ((w.alloc (.cells #[.int .i64 op, .int .i64 num, .string name, .slice ptr (len k) acap] 25)).heap.size = w.heap.size + 1) := by unfold Hid; simp
  have AW := Lib.hid awake_any
  go_enter Try.func3, Try.ntmps3
  go_wp2_with fail
  generalize w.alloc (.cells #[.int .i64 op, .int .i64 num, .string name, .slice ptr (len k) acap] 25) = w0 at *
  refine (lightcs_any cs p cap w0 (HCS.out.next B0.out)).mono ?_
  rintro e w1 ⟨m1, rfl, hb⟩
  have Y1 : Hid (Below (w.heap.size + 1) w0 w1) := by rw [← hz0.out]; exact hb
  obtain ⟨c0, c1, c2, c3⟩ := BX.out w1 Y1.out
  have B1 : Hid (Below w.heap.size w w1) := B0.out.trans (Y1.out.mono (Nat.le_succ _))
  clear hb
  cases m1 with
  | false =>
    go_wp2_with fail
    refine (AW.out w1).mono ?_
    rintro e w2 ⟨rfl, hb⟩
    have B2 := Lib.hid (B1.out.trans (hb.mono B1.out.size))
    clear hb
    go_wp2
    go_ret
    exact ⟨rfl, B2.out⟩
  | true =>
    go_wp2_with fail
    refine (lightx_any b o ⟨op, num, name, ptr, acap⟩ k w1 (HX.out.next B1.out) HOK.out).mono ?_
    rintro e w2 ⟨m2, rfl, hb⟩
    have Y2 : Hid (Below (w.heap.size + 1) w0 w2) := Y1.out.trans (hb.mono (by rw [← hz0.out]; exact Y1.out.size))
    have B2 : Hid (Below w.heap.size w w2) := B0.out.trans (Y2.out.mono (Nat.le_succ _))
    clear hb c0 c1 c2 c3
    cases m2 with
    | false =>
      go_wp2_with fail
      refine (AW.out w2).mono ?_
      rintro e w3 ⟨rfl, hb⟩
      have B3 := Lib.hid (B2.out.trans (hb.mono B2.out.size))
      clear hb
      go_wp2
      go_ret
      exact ⟨rfl, B3.out⟩
    | true =>
      obtain ⟨c0, c1, c2, c3⟩ := BX.out w2 Y2.out
      go_wp2_with fail
      refine (typeof_any cs p cap sc b o op num name ptr acap k w2 (HCS.out.next B2.out) (HX.out.next B2.out) HOK.out).mono ?_
      rintro e w3 ⟨rfl, hb⟩
      have Y3 : Hid (Below (w.heap.size + 1) w0 w3) := Y2.out.trans (hb.mono (by rw [← hz0.out]; exact Y2.out.size))
      have B3 : Hid (Below w.heap.size w w3) := B0.out.trans (Y3.out.mono (Nat.le_succ _))
      clear hb c0 c1 c2 c3
      obtain ⟨c0, c1, c2, c3⟩ := BX.out w3 Y3.out
      go_wp2_with fail
      refine (rtypeof_any cs p cap sc b o op num name ptr acap k w3 (HCS.out.next B3.out) hcap (HX.out.next B3.out) HOK.out).mono ?_
      generalize typeOfT cs sc ⟨op, num, name, ptr, acap⟩ k = R
      obtain ⟨z1, z2⟩ := R
      rintro e w4 ⟨rfl, hb⟩
      have B4 := Lib.hid (B3.out.trans (hb.mono B3.out.size))
      clear hb c0 c1 c2 c3
      go_wp2_with fail
      refine (AW.out w4).mono ?_
      rintro e w5 ⟨rfl, hb⟩
      have B5 := Lib.hid (B4.out.trans (hb.mono B4.out.size))
      clear hb
      go_wp2
      go_ret
      exact ⟨rfl, B5.out⟩

end Go.Proofs.Ytijbjnbbglcacaa
