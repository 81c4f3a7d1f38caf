/-
  The contract of pairinglaw13.awake.
-/
import Derived.Test.YtjdjbjblblmdjaaDoorTyo
namespace Go.Proofs.YtjdjbjblblmdjaaDoor
set_option linter.unusedVariables false
set_option linter.unusedSimpArgs false
open Go.ChangeShapes Go.WideShapes Go.ChangeAt Go.RowKit
open Go.Deep (BT)

theorem csv_nil (w : World) : CsV w [] none := ⟨⟨0, 0, fun q => absurd rfl q, trivial⟩, (fun c hc => by cases hc), Nat.zero_le _⟩

def awkF : Fo := .node 0 0 ⟨6, 0, ⟨#[115, 112, 97, 110]⟩, none, 0⟩ .nil (.node 0 0 ⟨1, 2, ⟨#[]⟩, none, 0⟩ .nil .nil)
theorem awk_type (q : Option Addr) : typeOfT [] 1 ⟨11, 0, ⟨#[]⟩, q, 2⟩ awkF = (2, 0) := by kernel_rfl
theorem awk_ok (q : Option Addr) : ExOk ⟨11, 0, ⟨#[]⟩, q, 2⟩ awkF := by
  unfold awkF
  simp only [ExOk, FoOk, NdOk, len]
  decide

set_option maxHeartbeats 4000000 in
set_option maxRecDepth 100000 in
theorem awake_any (w : World) : Calls Tryd.prog 6 #[] w fun e w' => e = .returned (.bool true) ∧ Below w.heap.size w w' := by
  go_enter Tryd.func6, Tryd.ntmps6
  go_wp2_with fail
  have q := typeof_any [] none 0 1 w.heap.size 0 11 0 ⟨#[]⟩ (some ⟨w.heap.size, 0, none⟩) 2 awkF ((w.alloc (.cells #[.int .i64 6, .int .i64 0, .string ⟨#[115, 112, 97, 110]⟩, .slice none 0 0, .int .i64 1, .int .i64 2, .string ⟨#[]⟩, .slice none 0 0] 24)).alloc (.cells #[.int .i64 11, .int .i64 0, .string ⟨#[]⟩, .slice (some ⟨w.heap.size, 0, none⟩) 2 2] 24)) (csv_nil _)
    ⟨fun _ => rfl, ⟨by simp [go_sem], by simp [go_sem], by simp [go_sem], by simp [go_sem, len]⟩, fun h => absurd rfl h, trivial, ⟨by simp [go_sem], by simp [go_sem], by simp [go_sem], by simp [go_sem, len]⟩, fun h => absurd rfl h, trivial, trivial⟩ (awk_ok _)
  rw [awk_type] at q
  refine q.mono ?_
  clear q
  rintro e w1 ⟨rfl, hb⟩
  have B1 : Hid (Below w.heap.size w w1) := (((Below.refl _ _).alloc (Nat.le_refl _) _).alloc (by simp) _).trans (hb.mono (by simp; omega))
  clear hb
  go_wp2
  go_ret
  exact ⟨rfl, B1.out⟩

end Go.Proofs.YtjdjbjblblmdjaaDoor
