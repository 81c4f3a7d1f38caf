/-
  The contract of pairinglaw14's awake.
-/
import Derived.Test.YtifdimpfgglieaaEev
import Derived.Test.YtifdimpfgglieaaGi
namespace Go.Proofs.Ytifdimpfgglieaa
set_option linter.unusedVariables false
set_option linter.unusedSimpArgs false
open Go.ChangeShapes Go.WideShapes Go.ChangeAt Go.RowKit
open Go.Deep (BT)

theorem enum_any (n : Int) (w : World) : Calls Try.prog 30 #[.int .i64 n] w fun e w' => e = .returned (.agg #[.int .i64 1, .int .i64 n, .string ⟨#[]⟩, .slice none 0 0]) ∧ Below w.heap.size w w' := by
  go_enter Try.func30, Try.ntmps30
  go_wp2
  refine bodyPost_ret (v := .agg #[.int .i64 1, .int .i64 n, .string ⟨#[]⟩, .slice none 0 0]) ?_ rfl ⟨rfl, (Below.refl _ _).alloc (Nat.le_refl _) _⟩
  rw [results_cell1 rfl]
  go_simp
theorem eattr_any (s : ByteArray) (w : World) : Calls Try.prog 31 #[.string s] w fun e w' => e = .returned (.agg #[.int .i64 6, .int .i64 0, .string s, .slice none 0 0]) ∧ Below w.heap.size w w' := by
  go_enter Try.func31, Try.ntmps31
  go_wp2
  refine bodyPost_ret (v := .agg #[.int .i64 6, .int .i64 0, .string s, .slice none 0 0]) ?_ rfl ⟨rfl, (Below.refl _ _).alloc (Nat.le_refl _) _⟩
  rw [results_cell1 rfl]
  go_simp
theorem enode_any (op : Int) (p : Option Addr) (m c : Nat) (w : World) : Calls Try.prog 29 #[.int .i64 op, .slice p m c] w fun e w' => e = .returned (.agg #[.int .i64 op, .int .i64 0, .string ⟨#[]⟩, .slice p m c]) ∧ Below w.heap.size w w' := by
  go_enter Try.func29, Try.ntmps29
  go_wp2
  refine bodyPost_ret (v := .agg #[.int .i64 op, .int .i64 0, .string ⟨#[]⟩, .slice p m c]) ?_ rfl ⟨rfl, (Below.refl _ _).alloc (Nat.le_refl _) _⟩
  rw [results_cell1 rfl]
  go_simp
def legsN : ByteArray := ⟨#[108, 101, 103, 115]⟩
def eawF : Fo := .node 0 0 ⟨1, 2, ⟨#[]⟩, none, 0⟩ .nil (.node 0 0 ⟨6, 0, legsN, none, 0⟩ .nil .nil)
def eawL : List Av := [⟨legsN, 3⟩]
theorem eaw_val (q : Option Addr) : evR [] 1 eawL ⟨10, 0, ⟨#[]⟩, q, 2⟩ eawF = (1, 6, 0) := by kernel_rfl
theorem eaw_ok (q : Option Addr) : ExOk ⟨10, 0, ⟨#[]⟩, q, 2⟩ eawF := by
  unfold eawF legsN
  simp only [ExOk, FoOk, NdOk, len]
  decide
theorem ecsv_nil (w : World) : CsV w [] none := ⟨⟨0, 0, fun q => absurd rfl q, trivial⟩, (fun c hc => by cases hc), Nat.zero_le _⟩
set_option maxHeartbeats 4000000 in
set_option maxRecDepth 100000 in
theorem eawake_any (w : World) : Calls Try.prog 12 #[] w fun e w' => e = .returned (.bool true) ∧ Below w.heap.size w w' := by
  go_enter Try.func12, Try.ntmps12
  go_wp2_with fail
  have B0 : Hid (Below w.heap.size w (w.alloc (.cells #[.string ⟨#[108, 101, 103, 115]⟩, .int .i64 3] 52))) := (Below.refl _ _).alloc (Nat.le_refl _) _
  have a0 : (w.alloc (.cells #[.string ⟨#[108, 101, 103, 115]⟩, .int .i64 3] 52)).cell? ⟨w.heap.size, 0, none⟩ = some (.string ⟨#[108, 101, 103, 115]⟩) := by simp [go_sem]
  have a1 : (w.alloc (.cells #[.string ⟨#[108, 101, 103, 115]⟩, .int .i64 3] 52)).cell? ⟨w.heap.size, 1, none⟩ = some (.int .i64 3) := by simp [go_sem]
  generalize w.alloc (.cells #[.string ⟨#[108, 101, 103, 115]⟩, .int .i64 3] 52) = w0 at *
  refine (enum_any 2 w0).mono ?_
  rintro e w1 ⟨rfl, hb1⟩
  go_wp2_with fail
  refine (eattr_any ⟨#[108, 101, 103, 115]⟩ w1).mono ?_
  rintro e w2 ⟨rfl, hb2⟩
  have B2 : Hid (Below w0.heap.size w0 w2) := hb1.trans (hb2.mono hb1.size)
  clear hb1 hb2
  go_wp2_with fail
  have B3 : Hid (Below w2.heap.size w2 (w2.alloc (.cells #[.int .i64 1, .int .i64 2, .string ⟨#[]⟩, .slice none 0 0, .int .i64 6, .int .i64 0, .string ⟨#[108, 101, 103, 115]⟩, .slice none 0 0] 56))) := (Below.refl _ _).alloc (Nat.le_refl _) _
  have E3 : Hid (ExAt (w2.alloc (.cells #[.int .i64 1, .int .i64 2, .string ⟨#[]⟩, .slice none 0 0, .int .i64 6, .int .i64 0, .string ⟨#[108, 101, 103, 115]⟩, .slice none 0 0] 56)) w2.heap.size 0 ⟨10, 0, ⟨#[]⟩, some ⟨w2.heap.size, 0, none⟩, 2⟩ eawF) :=
    ⟨fun _ => rfl, ⟨by simp [go_sem], by simp [go_sem], by simp [go_sem], by simp [go_sem, len]⟩, fun h => absurd rfl h, trivial, ⟨by simp [go_sem], by simp [go_sem], by simp [go_sem]; rfl, by simp [go_sem, len]⟩, fun h => absurd rfl h, trivial, trivial⟩
  generalize w2.alloc (.cells #[.int .i64 1, .int .i64 2, .string ⟨#[]⟩, .slice none 0 0, .int .i64 6, .int .i64 0, .string ⟨#[108, 101, 103, 115]⟩, .slice none 0 0] 56) = w3 at *
  refine (enode_any 10 _ 2 2 w3).mono ?_
  rintro e w4 ⟨rfl, hb⟩
  have B4 : Hid (Below w0.heap.size w0 w4) := (B2.out.trans (B3.out.mono B2.out.size)).trans (hb.mono (Nat.le_trans B2.out.size B3.out.size))
  have E4 := Lib.hid (E3.out.next hb)
  have A4 : Hid (AvV w4 eawL (some ⟨w.heap.size, 0, none⟩)) := by
    refine ⟨⟨w.heap.size, 0, fun _ => rfl, ⟨?_, ?_⟩, trivial⟩, ?_, by decide⟩
    · rw [B4.out.cell (block_lt_of_cell a0)]; exact a0
    · rw [B4.out.cell (p := ⟨w.heap.size, 0 + 1, none⟩) (block_lt_of_cell a1)]; exact a1
    · intro a ha
      rw [List.mem_singleton.1 ha]
      exact ⟨by decide, by unfold i64B; decide⟩
  clear hb
  go_wp2_with fail
  have q := eval_any [] none 0 1 eawL (some ⟨w.heap.size, 0, none⟩) 1 w2.heap.size 0 10 0 ⟨#[]⟩ (some ⟨w2.heap.size, 0, none⟩) 2 eawF w4 (ecsv_nil _) A4.out E4.out (eaw_ok _)
  rw [eaw_val] at q
  refine q.mono ?_
  clear q
  rintro e w5 ⟨rfl, hb⟩
  have B5 : Hid (Below w.heap.size w w5) := B0.out.trans ((B4.out.trans (hb.mono B4.out.size)).mono B0.out.size)
  clear hb
  go_wp2
  go_ret
  exact ⟨rfl, B5.out.alloc B5.out.size _⟩

end Go.Proofs.Ytifdimpfgglieaa
