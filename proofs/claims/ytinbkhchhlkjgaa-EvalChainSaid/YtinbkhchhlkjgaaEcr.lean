/-
  Single operations of EvalChain's region that draws its order, in whatever frame.
-/
import Derived.Test.YtinbkhchhlkjgaaEcp
import Derived.Laws.IdiomStrings
import Derived.Maps.AppendAt
namespace Go.Proofs.Ytinbkhchhlkjgaa
set_option linter.unusedVariables false
set_option linter.unusedSimpArgs false
set_option maxRecDepth 100000
open Go.ChangeShapes Go.WideShapes Go.ChangeAt Go.RowKit
open Go.Deep (BT)

section
variable (ρ : Operand → Value) (d : Option Tmp) (ty : TypeId) (pos : String) (af : Array Edge) (gd : Option (Nat × Bool)) (w : World)
theorem rn_sub (x : Operand) (a c : Int) (h : ρ x = .int .i64 a) (hk : ρ (.const (.int .i64 1)) = .int .i64 1) (hw : IntKind.i64.wrap (a - 1) = c) : (execOp ρ ⟨d, .binOp .sub 3 x (.const (.int .i64 1)) 3, ty, pos, af, gd⟩).run Try.prog w = .ok (.value (.int .i64 c)) w := by
  simp only [execOp, h, hk]
  go_simp
theorem rn_rem (x : Operand) (a c : Int) (h : ρ x = .int .i64 a) (hk : ρ (.const (.int .i64 26)) = .int .i64 26) (hw : a.tmod 26 = c) : (execOp ρ ⟨d, .binOp .rem 3 x (.const (.int .i64 26)) 3, ty, pos, af, gd⟩).run Try.prog w = .ok (.value (.int .i64 c)) w := by
  simp only [execOp, h, hk]
  go_simp
theorem rn_quo (x : Operand) (a c : Int) (h : ρ x = .int .i64 a) (hk : ρ (.const (.int .i64 26)) = .int .i64 26) (hw : IntKind.i64.wrap (a.tdiv 26) = c) : (execOp ρ ⟨d, .binOp .quo 3 x (.const (.int .i64 26)) 3, ty, pos, af, gd⟩).run Try.prog w = .ok (.value (.int .i64 c)) w := by
  simp only [execOp, h, hk]
  go_simp
theorem rn_add (q : Int) (x : Operand) (a c : Int) (h : ρ x = .int .i64 a) (hk : ρ (.const (.int .i64 q)) = .int .i64 q) (hw : IntKind.i64.wrap (q + a) = c) : (execOp ρ ⟨d, .binOp .add 3 (.const (.int .i64 q)) x 3, ty, pos, af, gd⟩).run Try.prog w = .ok (.value (.int .i64 c)) w := by
  simp only [execOp, h, hk]
  go_simp
theorem rn_conv (x : Operand) (a c : Int) (h : ρ x = .int .i64 a) (hw : IntKind.u8.wrap a = c) : (execOp ρ ⟨d, .convert 3 5 x, ty, pos, af, gd⟩).run Try.prog w = .ok (.value (.int .u8 c)) w := by
  simp only [execOp, h]
  go_simp
theorem rn_idx (x y : Operand) (g j n cap : Nat) (hx : ρ x = .slice (some ⟨g, 0, none⟩) n cap) (hy : ρ y = .int .i64 j) (hj : j < n) : (execOp ρ ⟨d, .indexAddr 22 x y, ty, pos, af, gd⟩).run Try.prog w = .ok (.value (.pointer (some ⟨g, j * 5, none⟩))) w := by
  have hj1 : (j : Int) < (n : Int) := by omega
  simp only [execOp, hx, hy]
  go_simp
theorem rn_fld (x : Operand) (g o : Nat) (hx : ρ x = .pointer (some ⟨g, o, none⟩)) : (execOp ρ ⟨d, .fieldAddr 46 x 0, ty, pos, af, gd⟩).run Try.prog w = .ok (.value (.pointer (some ⟨g, o, none⟩))) w := by
  simp only [execOp, hx]
  go_simp
theorem rn_loadS (x : Operand) (g o : Nat) (s : ByteArray) (hx : ρ x = .pointer (some ⟨g, o, none⟩)) (hc : w.cell? ⟨g, o, none⟩ = some (.string s)) : (execOp ρ ⟨d, .load 9 x, ty, pos, af, gd⟩).run Try.prog w = .ok (.value (.string s)) w := by
  simp only [execOp, hx]
  go_simp
theorem rn_sl (x : Operand) (s : ByteArray) (hx : ρ x = .string s) (hk : ρ (.const (.int .i64 1)) = .int .i64 1) (h1 : 1 ≤ s.size) : (execOp ρ ⟨d, .slice 9 x none (some (.const (.int .i64 1))) none, ty, pos, af, gd⟩).run Try.prog w = .ok (.value (.string (s.extract 0 1))) w := by
  simp only [execOp, hx, Option.map, hk]
  go_simp
  intro q
  exfalso
  omega
theorem rn_bb (x y : Operand) (a b : Int) (hx : ρ x = .int .u8 a) (hy : ρ y = .int .u8 b) : (execOp ρ ⟨d, .buildSlice 48 2 #[(0, x), (1, y)], ty, pos, af, gd⟩).run Try.prog w = .ok (.value (.slice (some ⟨w.heap.size, 0, none⟩) 2 2)) (w.alloc (.cells #[.int .u8 a, .int .u8 b] 5)) := by
  simp only [execOp, List.map_toArray, List.map, hx, hy]
  go_simp
theorem rn_cvs (x : Operand) (g : Nat) (a b : UInt8) (hx : ρ x = .slice (some ⟨g, 0, none⟩) 2 2) (h0 : w.cell? ⟨g, 0, none⟩ = some (.int .u8 a.toNat)) (h1 : w.cell? ⟨g, 1, none⟩ = some (.int .u8 b.toNat)) : (execOp ρ ⟨d, .convert 48 9 x, ty, pos, af, gd⟩).run Try.prog w = .ok (.value (.string ⟨#[a, b]⟩)) w := by
  have k := run_convert_bytes_back (P := Try.prog) w 48 9 5 ⟨g, 0, none⟩ 2 [a, b] Try.underlying48 Try.underlying5 Try.underlying9 (fun j hj => by
    match j, hj with
    | 0, _ => exact h0
    | 1, _ => exact h1
    | j + 2, hj => simp at hj; omega)
  simp only [execOp, hx]
  have k' : Sem.run Try.prog (convert 48 9 (.slice (some ⟨g, 0, none⟩) 2 2)) w = .ok (.string ⟨#[a, b]⟩) w := k
  simp [go_sem, k']
theorem rn_cat (x y : Operand) (s t : ByteArray) (hx : ρ x = .string s) (hy : ρ y = .string t) (h : s.size + t.size ≤ 100) : (execOp ρ ⟨d, .binOp .add 9 x y 9, ty, pos, af, gd⟩).run Try.prog w = .ok (.value (.string (s ++ t))) w := by
  have h' : s.size + t.size ≤ 9223372036854775807 := by omega
  simp only [execOp, hx, hy]
  go_simp
theorem rn_bC (x y : Operand) (s : ByteArray) (c0 c1 c2 c3 : Value) (hx : ρ x = .string s) (hy : ρ y = .agg #[c0, c1, c2, c3]) : (execOp ρ ⟨d, .build 46 #[(0, x), (1, y)], ty, pos, af, gd⟩).run Try.prog w = .ok (.value (.agg #[.string s, c0, c1, c2, c3])) w := by
  simp only [execOp, List.map_toArray, List.map, hx, hy]
  go_simp
theorem rn_bsC (x : Operand) (s : ByteArray) (c0 c1 c2 c3 : Value) (hx : ρ x = .agg #[.string s, c0, c1, c2, c3]) : (execOp ρ ⟨d, .buildSlice 22 1 #[(0, x)], ty, pos, af, gd⟩).run Try.prog w = .ok (.value (.slice (some ⟨w.heap.size, 0, none⟩) 1 1)) (w.alloc (.cells #[.string s, c0, c1, c2, c3] 46)) := by
  simp only [execOp, Array.map_singleton, List.map_toArray, List.map, hx]
  go_simp
end

end Go.Proofs.Ytinbkhchhlkjgaa
