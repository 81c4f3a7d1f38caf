/-
  The contract of the program's ValidateExpr.
-/
import Derived.Test.YtinbkhchhlkjgaaExpF
namespace Go.Proofs.Ytinbkhchhlkjgaa
set_option linter.unusedVariables false
set_option linter.unusedSimpArgs false
open Go.ChangeShapes Go.WideShapes Go.ChangeAt Go.RowKit
open Go.Deep (BT)

set_option maxHeartbeats 1000000 in
theorem vexpr_any (b o : Nat) (op num : Int) (name : ByteArray) (ptr : Option Addr) (cap : Nat) (k : Fo) (w : World) (hx : ExAt w b o ⟨op, num, name, ptr, cap⟩ k) (hok : ExOk ⟨op, num, name, ptr, cap⟩ k) :
    Calls Try.prog 92 #[.agg #[.int .i64 op, .int .i64 num, .string name, .slice ptr (len k) cap]] w fun e w' => e = .returned (.int .i64 (valE ⟨op, num, name, ptr, cap⟩ k)) ∧ Below w.heap.size w w' := by
  have B0 : Below w.heap.size w ((w.alloc (.cells #[.int .i64 op, .int .i64 num, .string name, .slice ptr (len k) cap] 26)).alloc (.cells #[.int .i64 0] 3)) := ((Below.refl _ _).alloc (Nat.le_refl _) _).alloc (by simp) _
  have X0 := hx.next B0
  have L0 : FoLt (w.heap.size + 1) k b := hx.2.lt.mono (by omega)
  have C1 := fits_any b o ⟨op, num, name, ptr, cap⟩ k _ (w.heap.size + 1) 0 1 X0 hok L0 (by simp [go_sem]) (by simp [go_sem]) (by omega) (by omega) (by omega) (by omega)
  have HC := Lib.hid C1
  have HB := Lib.hid B0
  have HX := Lib.hid hx
  have HOK := Lib.hid hok
  clear C1 B0 X0 hx hok L0
  have V : Hid (valE ⟨op, num, name, ptr, cap⟩ k = if fitB 0 1 k = true then (if (wfB ⟨op, num, name, ptr, cap⟩ (len k) && wfT k) = true then 0 else 1) else 10) := rfl
  go_enter Try.func92, Try.ntmps92
  go_wp2_with fail
  refine HC.out.mono ?_
  rintro e w1 ⟨he, -, -, hg⟩
  have B1 : Below w.heap.size w w1 := HB.out.grown hg (by simp; omega) (by rintro k' h; simp at h; omega)
  have hc : ∀ j v, (#[Value.int .i64 op, .int .i64 num, .string name, .slice ptr (len k) cap] : Array Value)[j]? = some v → w1.cell? ⟨w.heap.size, j, none⟩ = some v := by
    intro j v hv
    exact hg.cell (by simp [go_sem, hv]) (by simp)
  have c0 := hc 0 _ rfl
  have c1 := hc 1 _ rfl
  have c2 := hc 2 _ rfl
  have c3 := hc 3 _ rfl
  clear hc hg HC
  subst he
  cases hf : fitB 0 1 k
  · have HF := Lib.hid hf
    clear hf
    go_wp2
    go_ret
    exact ⟨ret_int (by rw [V.out, HF.out]; rfl), B1⟩
  · have HF := Lib.hid hf
    clear hf
    have C2 := wf_any b o ⟨op, num, name, ptr, cap⟩ k w1 (HX.out.next B1) HOK.out
    have HW := Lib.hid C2
    clear C2
    generalize (wfB ⟨op, num, name, ptr, cap⟩ (len k) && wfT k) = y at *
    go_wp2_with fail
    refine HW.out.mono ?_
    rintro e w2 ⟨rfl, hb⟩
    have B2 := B1.trans (hb.mono B1.size)
    clear hb c0 c1 c2 c3
    cases y
    · go_wp2
      go_ret
      exact ⟨ret_int (by rw [V.out, HF.out]; rfl), B2⟩
    · go_wp2
      go_ret
      exact ⟨ret_int (by rw [V.out, HF.out]; rfl), B2⟩

end Go.Proofs.Ytinbkhchhlkjgaa
