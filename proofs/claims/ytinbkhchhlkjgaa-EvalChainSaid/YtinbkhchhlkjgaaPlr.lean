/-
  Single operations of a region that draws its order: what each leaves, in whatever frame. Expressions made in such regions.
-/
import Derived.Test.YtinbkhchhlkjgaaPln
import Derived.Test.YtinbkhchhlkjgaaEaw
import Derived.Test.YtinbkhchhlkjgaaGl
namespace Go.Proofs.Ytinbkhchhlkjgaa
set_option linter.unusedVariables false
set_option linter.unusedSimpArgs false
set_option maxRecDepth 100000
open Go.ChangeShapes Go.WideShapes Go.ChangeAt Go.RowKit
open Go.Deep (BT)
variable {P : Program} {Q : Exit → Act → World → Prop}
theorem wp_of_run {o : Oper} {a : Act} {w w' : World} {K : Act → World → Prop} {v : Value} (h : (execOp a.eval o).run P w = .ok (.value v) w') (hk : K (a.put o.dst v) w') : o.wp P a w K Q := by
  unfold Oper.wp; rw [h]; exact hk
theorem wp_of_enter {o : Oper} {a : Act} {w w' : World} {K : Act → World → Prop} {f : FuncId} {vs : Array Value} {R : Value → World → Prop} (h : (execOp a.eval o).run P w = .ok (.enter f vs) w') (hc : Calls P f vs w' fun e w'' => ∃ v, e = .returned v ∧ R v w'') (hk : ∀ v w'', R v w'' → K (a.put o.dst v) w'') : o.wp P a w K Q := by
  unfold Oper.wp; rw [h]
  exact hc.mono fun e w'' ⟨v, he, hr⟩ => by subst he; exact hk v w'' hr
section
variable (ρ : Operand → Value) (d : Option Tmp) (ty : TypeId) (pos : String) (af : Array Edge) (gd : Option (Nat × Bool)) (w : World)
theorem run_move (x : Operand) (v : Value) (h : ρ x = v) : (execOp ρ ⟨d, .move x, ty, pos, af, gd⟩).run P w = .ok (.value v) w := by
  simp [execOp, h, go_sem]
theorem run_assign (x : Operand) (v : Value) (h : ρ x = v) : (execOp ρ ⟨d, .assign x, ty, pos, af, gd⟩).run P w = .ok (.value v) w := by
  simp [execOp, h, go_sem]
theorem run_extract (x : Operand) (i : Nat) (vs : Array Value) (v : Value) (h : ρ x = .tuple vs) (hv : vs[i]? = some v) : (execOp ρ ⟨d, .extract x i, ty, pos, af, gd⟩).run P w = .ok (.value v) w := by
  simp [execOp, h, hv, go_sem]
theorem run_call {f : FuncId} {fn : Func} {c : Code} (args : Array Operand) (vs : Array Value) (tys : Array TypeId) (hfn : P.funcs[f]? = some fn) (hname : (fn.name == "runtime.NumGoroutine") = false) (hb : fn.body = some c) (hf : ρ (.func f) = .func (.func f) #[] #[]) (hv : args.map ρ = vs) : (execOp ρ ⟨d, .call ⟨.value (.func f), args, tys⟩, ty, pos, af, gd⟩).run P w = .ok (.enter f vs) w := by
  have hc : (callFunc f vs).run P w = .ok (.enter f vs) w := by
    have hn : ¬ fn.name = "runtime.NumGoroutine" := by simpa using hname
    simp [callFunc, Sem.run_bind, Result.andThen, hfn, hn, hb, go_sem]
  simp [execOp, resolve, hv, hf, go_sem]
  exact hc
theorem run_loadE (x : Operand) (b : Nat) (c0 c1 c2 c3 : Value) (h : ρ x = .pointer (some ⟨b, 0, none⟩)) (h0 : w.cell? ⟨b, 0, none⟩ = some c0) (h1 : w.cell? ⟨b, 1, none⟩ = some c1) (h2 : w.cell? ⟨b, 2, none⟩ = some c2) (h3 : w.cell? ⟨b, 3, none⟩ = some c3) : (execOp ρ ⟨d, .load 26 x, ty, pos, af, gd⟩).run Try.prog w = .ok (.value (.agg #[c0, c1, c2, c3])) w := by
  simp only [execOp, h]
  go_simp
theorem run_buildE1 (x : Operand) (c0 c1 c2 c3 : Value) (h : ρ x = .agg #[c0, c1, c2, c3]) : (execOp ρ ⟨d, .buildSlice 24 1 #[(0, x)], ty, pos, af, gd⟩).run Try.prog w = .ok (.value (.slice (some ⟨w.heap.size, 0, none⟩) 1 1)) (w.alloc (.cells #[c0, c1, c2, c3] 26)) := by
  simp only [execOp, Array.map_singleton, List.map_toArray, List.map, h]
  go_simp
theorem run_buildE2 (x y : Operand) (c0 c1 c2 c3 e0 e1 e2 e3 : Value) (h : ρ x = .agg #[c0, c1, c2, c3]) (h' : ρ y = .agg #[e0, e1, e2, e3]) : (execOp ρ ⟨d, .buildSlice 24 2 #[(0, x), (1, y)], ty, pos, af, gd⟩).run Try.prog w = .ok (.value (.slice (some ⟨w.heap.size, 0, none⟩) 2 2)) (w.alloc (.cells #[c0, c1, c2, c3, e0, e1, e2, e3] 26)) := by
  simp only [execOp, List.map_toArray, List.map, h, h']
  go_simp
theorem run_buildE3 (x y z : Operand) (c0 c1 c2 c3 e0 e1 e2 e3 f0 f1 f2 f3 : Value) (h : ρ x = .agg #[c0, c1, c2, c3]) (h' : ρ y = .agg #[e0, e1, e2, e3]) (h'' : ρ z = .agg #[f0, f1, f2, f3]) : (execOp ρ ⟨d, .buildSlice 24 3 #[(0, x), (1, y), (2, z)], ty, pos, af, gd⟩).run Try.prog w = .ok (.value (.slice (some ⟨w.heap.size, 0, none⟩) 3 3)) (w.alloc (.cells #[c0, c1, c2, c3, e0, e1, e2, e3, f0, f1, f2, f3] 26)) := by
  simp only [execOp, List.map_toArray, List.map, h, h', h'']
  go_simp
theorem run_allocV : (execOp ρ ⟨d, .alloc 31, ty, pos, af, gd⟩).run Try.prog w = .ok (.value (.pointer (some ⟨w.heap.size, 0, none⟩))) (w.alloc (.cells #[.int .i64 0, .int .i64 0] 31)) := by
  simp only [execOp]
  go_simp
theorem run_storeV (x y : Operand) (b : Nat) (u0 u1 : Int) (o0 o1 : Value) (h : ρ x = .pointer (some ⟨b, 0, none⟩)) (h' : ρ y = .agg #[.int .i64 u0, .int .i64 u1]) (h0 : w.cell? ⟨b, 0, none⟩ = some o0) (h1 : w.cell? ⟨b, 1, none⟩ = some o1) (f0 : w.frozen? ⟨b, 0, none⟩ = false) (f1 : w.frozen? ⟨b, 1, none⟩ = false) : (execOp ρ ⟨d, .store 31 x y, ty, pos, af, gd⟩).run Try.prog w = .ok .skip ((w.setCell ⟨b, 0, none⟩ (.int .i64 u0)).setCell ⟨b, 1, none⟩ (.int .i64 u1)) := by
  simp only [execOp, h, h']
  go_simp
end

theorem map1 {α β : Type} (f : α → β) (x : α) : #[x].map f = #[f x] := by simp
theorem map2 {α β : Type} (f : α → β) (x y : α) : #[x, y].map f = #[f x, f y] := by simp
theorem map3 {α β : Type} (f : α → β) (x y z : α) : #[x, y, z].map f = #[f x, f y, f z] := by simp
theorem map4 {α β : Type} (f : α → β) (x y z u : α) : #[x, y, z, u].map f = #[f x, f y, f z, f u] := by simp
/-! ### the tables of a plan, checked by reckoning -/
def srcOf (tbl : List (Nat × Nat)) (t : Nat) : Option Nat := (tbl.find? fun p => p.1 == t).map fun p => p.2
def planB (ops : Array Oper) (tbl : List (Nat × Nat)) (n : Nat) : Bool :=
  ((List.range ops.size).all fun i => match ops[i]? with
    | some o => (match o.dst with | some d => (srcOf tbl d == some i) && decide (d < n) | none => true) && (o.after.all fun x => !Region.binds .any x || decide (x.on < i))
    | none => true) && (tbl.all fun p => match ops[p.2]? with | some o => o.dst == some p.1 | none => false)
theorem plan_src {ops : Array Oper} {tbl : List (Nat × Nat)} {n : Nat} (h : planB ops tbl n = true) : ∀ i o d, ops[i]? = some o → o.dst = some d → srcOf tbl d = some i ∧ d < n := by
  intro i o d ho hd
  unfold planB at h
  rw [Bool.and_eq_true, List.all_eq_true] at h
  have h1 := h.1 i (List.mem_range.2 (Array.getElem?_eq_some_iff.1 ho).1)
  rw [ho] at h1
  simp only [hd, Bool.and_eq_true, decide_eq_true_eq] at h1
  exact ⟨eq_of_beq h1.1.1, h1.1.2⟩
theorem plan_low {ops : Array Oper} {tbl : List (Nat × Nat)} {n : Nat} (h : planB ops tbl n = true) : ∀ i o, ops[i]? = some o → ∀ x ∈ o.after, Region.binds .any x = true → x.on < i := by
  intro i o ho x hx hb
  unfold planB at h
  rw [Bool.and_eq_true, List.all_eq_true] at h
  have h1 := h.1 i (List.mem_range.2 (Array.getElem?_eq_some_iff.1 ho).1)
  rw [ho] at h1
  simp only [Bool.and_eq_true] at h1
  have h2 := h1.2
  rw [Array.all_eq_true_iff_forall_mem] at h2
  have h3 := h2 x hx
  rw [hb] at h3
  simpa using h3
theorem plan_all {ops : Array Oper} {tbl : List (Nat × Nat)} {n : Nat} (h : planB ops tbl n = true) : ∀ t i, srcOf tbl t = some i → ∃ o, ops[i]? = some o ∧ o.dst = some t := by
  intro t i hs
  unfold planB at h
  rw [Bool.and_eq_true, List.all_eq_true, List.all_eq_true] at h
  unfold srcOf at hs
  cases hf : tbl.find? (fun p => p.1 == t) with
  | none => rw [hf] at hs; cases hs
  | some p =>
    rw [hf] at hs
    obtain rfl : p.2 = i := Option.some.inj hs
    have h1 : p.1 = t := by have := List.find?_some hf; simpa using this
    have h2 := h.2 p (List.mem_of_find?_eq_some hf)
    cases ho : ops[p.2]? with
    | none => rw [ho] at h2; cases h2
    | some o =>
      rw [ho] at h2
      exact ⟨o, rfl, by rw [← h1]; exact eq_of_beq h2⟩
/-! ### what one operation must leave -/
section
variable {G : Nat → Value → World → Prop} {i : Nat} {o : Oper} {a : Act} {w w' : World} {v : Value}
theorem st_run (h : (execOp a.eval o).run P w = .ok (.value v) w') (he : Ext w w') (hg : G i v w') : o.wp P a w (fun a' w' => ∃ v, a' = a.put o.dst v ∧ Ext w w' ∧ (o.dst.isSome = true → G i v w')) Q :=
  wp_of_run h ⟨v, rfl, he, fun _ => hg⟩
theorem st_pure {w1 : World} (h : (execOp a.eval o).run P w = .ok (.value v) w) (hg : G i v w1) : o.wp P a w (fun a' w' => ∃ v, a' = a.put o.dst v ∧ w' = w ∧ (o.dst.isSome = true → G i v w1)) Q :=
  wp_of_run h ⟨v, rfl, rfl, fun _ => hg⟩
theorem st_enter {f : FuncId} {vs : Array Value} (h : (execOp a.eval o).run P w = .ok (.enter f vs) w) (hc : Calls P f vs w fun e w'' => ∃ v, e = .returned v ∧ Ext w w'' ∧ G i v w'') : o.wp P a w (fun a' w' => ∃ v, a' = a.put o.dst v ∧ Ext w w' ∧ (o.dst.isSome = true → G i v w')) Q :=
  wp_of_enter (R := fun v w'' => Ext w w'' ∧ G i v w'') h hc fun v w'' hr => ⟨v, rfl, hr.1, fun _ => hr.2⟩
end
/-! ### expressions made in a region -/
def nd (op : Int) (g : Nat) (l : List Ch) : Ch := ⟨g, 0, ⟨op, 0, ⟨#[]⟩, some ⟨g, 0, none⟩, l.length⟩, rowF l⟩
def chV (c : Ch) : Value := .agg #[.int .i64 c.a.op, .int .i64 c.a.num, .string c.a.name, .slice c.a.ptr (len c.k) c.a.cap]
/-- A kind of expressions: whatever stands for it. -/
abbrev Kd := Ch → Prop
def oneK (c : Ch) : Kd := fun c' => c' = c
def nodK (op : Int) (X : Kd) : Kd := fun c' => ∃ g c, X c ∧ c' = nd op g [c]
def nodK2 (op : Int) (X Y : Kd) : Kd := fun c' => ∃ g c d, X c ∧ Y d ∧ c' = nd op g [c, d]
def nodK3 (op : Int) (X Y Z : Kd) : Kd := fun c' => ∃ g c d e, X c ∧ Y d ∧ Z e ∧ c' = nd op g [c, d, e]
def valG (X : Kd) (v : Value) (w : World) : Prop := ∃ c, X c ∧ v = chV c ∧ ExAt w c.b c.o c.a c.k
def rowG (X : Kd) (v : Value) (w : World) : Prop := ∃ g c, X c ∧ v = .slice (some ⟨g, 0, none⟩) 1 1 ∧ FoAt w (rowF [c]) g 0
def rowG2 (X Y : Kd) (v : Value) (w : World) : Prop := ∃ g c d, X c ∧ Y d ∧ v = .slice (some ⟨g, 0, none⟩) 2 2 ∧ FoAt w (rowF [c, d]) g 0
def rowG3 (X Y Z : Kd) (v : Value) (w : World) : Prop := ∃ g c d e, X c ∧ Y d ∧ Z e ∧ v = .slice (some ⟨g, 0, none⟩) 3 3 ∧ FoAt w (rowF [c, d, e]) g 0
theorem valG.ext {X : Kd} {v : Value} {w w' : World} (h : valG X v w) (he : Ext w w') : valG X v w' := by
  obtain ⟨c, h1, h2, h3⟩ := h
  exact ⟨c, h1, h2, h3.next he⟩
theorem rowG.ext {X : Kd} {v : Value} {w w' : World} (h : rowG X v w) (he : Ext w w') : rowG X v w' := by
  obtain ⟨g, c, h1, h2, h3⟩ := h
  exact ⟨g, c, h1, h2, h3.next he⟩
theorem rowG2.ext {X Y : Kd} {v : Value} {w w' : World} (h : rowG2 X Y v w) (he : Ext w w') : rowG2 X Y v w' := by
  obtain ⟨g, c, d, h1, h2, h3, h4⟩ := h
  exact ⟨g, c, d, h1, h2, h3, h4.next he⟩
theorem rowG3.ext {X Y Z : Kd} {v : Value} {w w' : World} (h : rowG3 X Y Z v w) (he : Ext w w') : rowG3 X Y Z v w' := by
  obtain ⟨g, c, d, e, h1, h2, h3, h4, h5⟩ := h
  exact ⟨g, c, d, e, h1, h2, h3, h4, h5.next he⟩
theorem row_at {w : World} (l : List Ch) (h : ∀ c ∈ l, ExAt w c.b c.o c.a c.k) (cells : Array Value) (hcells : cells = (rowC l).toArray) (e : TypeId) : FoAt (w.alloc (.cells cells e)) (rowF l) w.heap.size 0 :=
  (row_new (w := w) (B0 := 0) l (fun c hc => ⟨h c hc, foge0 _ _⟩) (Nat.zero_le _) e cells hcells).1
section
variable (ρ : Operand → Value) (d : Option Tmp) (ty : TypeId) (pos : String) (af : Array Edge) (gd : Option (Nat × Bool)) (w : World)
theorem build1 {X : Kd} {x : Operand} (h : valG X (ρ x) w) : ∃ v w', (execOp ρ ⟨d, .buildSlice 24 1 #[(0, x)], ty, pos, af, gd⟩).run Try.prog w = .ok (.value v) w' ∧ Ext w w' ∧ rowG X v w' := by
  obtain ⟨c, h1, h2, h3⟩ := h
  exact ⟨_, _, run_buildE1 ρ d ty pos af gd w x _ _ _ _ h2, Ext.alloc _ _, ⟨_, c, h1, rfl, row_at [c] (by intro c' hc; simp only [List.mem_cons, List.not_mem_nil, or_false] at hc; subst hc; exact h3) _ rfl _⟩⟩
theorem build2 {X Y : Kd} {x y : Operand} (h : valG X (ρ x) w) (k : valG Y (ρ y) w) : ∃ v w', (execOp ρ ⟨d, .buildSlice 24 2 #[(0, x), (1, y)], ty, pos, af, gd⟩).run Try.prog w = .ok (.value v) w' ∧ Ext w w' ∧ rowG2 X Y v w' := by
  obtain ⟨c, h1, h2, h3⟩ := h
  obtain ⟨e, k1, k2, k3⟩ := k
  exact ⟨_, _, run_buildE2 ρ d ty pos af gd w x y _ _ _ _ _ _ _ _ h2 k2, Ext.alloc _ _, ⟨_, c, e, h1, k1, rfl, row_at [c, e] (by intro c' hc; simp only [List.mem_cons, List.not_mem_nil, or_false] at hc; rcases hc with rfl | rfl; exact h3; exact k3) _ rfl _⟩⟩
theorem build3 {X Y Z : Kd} {x y z : Operand} (h : valG X (ρ x) w) (k : valG Y (ρ y) w) (m : valG Z (ρ z) w) : ∃ v w', (execOp ρ ⟨d, .buildSlice 24 3 #[(0, x), (1, y), (2, z)], ty, pos, af, gd⟩).run Try.prog w = .ok (.value v) w' ∧ Ext w w' ∧ rowG3 X Y Z v w' := by
  obtain ⟨c, h1, h2, h3⟩ := h
  obtain ⟨e, k1, k2, k3⟩ := k
  obtain ⟨f, m1, m2, m3⟩ := m
  exact ⟨_, _, run_buildE3 ρ d ty pos af gd w x y z _ _ _ _ _ _ _ _ _ _ _ _ h2 k2 m2, Ext.alloc _ _, ⟨_, c, e, f, h1, k1, m1, rfl, row_at [c, e, f] (by intro c' hc; simp only [List.mem_cons, List.not_mem_nil, or_false] at hc; rcases hc with rfl | rfl | rfl; exact h3; exact k3; exact m3) _ rfl _⟩⟩
end
theorem node1 {X : Kd} {v : Value} {w : World} (op : Int) (h : rowG X v w) : Calls Try.prog 18 #[.int .i64 op, v] w fun e w'' => ∃ u, e = .returned u ∧ Ext w w'' ∧ valG (nodK op X) u w'' := by
  obtain ⟨g, c, h1, rfl, h3⟩ := h
  refine (enode_any op _ 1 1 w).mono ?_
  rintro e w'' ⟨rfl, hb⟩
  exact ⟨_, rfl, hb, nd op g [c], ⟨g, c, h1, rfl⟩, rfl, fun _ => rfl, h3.next hb⟩
theorem node2 {X Y : Kd} {v : Value} {w : World} (op : Int) (h : rowG2 X Y v w) : Calls Try.prog 18 #[.int .i64 op, v] w fun e w'' => ∃ u, e = .returned u ∧ Ext w w'' ∧ valG (nodK2 op X Y) u w'' := by
  obtain ⟨g, c, d, h1, h2, rfl, h3⟩ := h
  refine (enode_any op _ 2 2 w).mono ?_
  rintro e w'' ⟨rfl, hb⟩
  exact ⟨_, rfl, hb, nd op g [c, d], ⟨g, c, d, h1, h2, rfl⟩, rfl, fun _ => rfl, h3.next hb⟩
theorem node3 {X Y Z : Kd} {v : Value} {w : World} (op : Int) (h : rowG3 X Y Z v w) : Calls Try.prog 18 #[.int .i64 op, v] w fun e w'' => ∃ u, e = .returned u ∧ Ext w w'' ∧ valG (nodK3 op X Y Z) u w'' := by
  obtain ⟨g, c, d, f, h1, h2, h4, rfl, h3⟩ := h
  refine (enode_any op _ 3 3 w).mono ?_
  rintro e w'' ⟨rfl, hb⟩
  exact ⟨_, rfl, hb, nd op g [c, d, f], ⟨g, c, d, f, h1, h2, h4, rfl⟩, rfl, fun _ => rfl, h3.next hb⟩
/-- What is known of all expressions of a kind: type, size, value. -/
def KdOk (nm : ByteArray → Int) (sc kind : Int) (S D : Nat) (X : Kd) (x : Int) : Prop := ∀ c, X c → Bx sc kind S D c ∧ exv nm c = x
theorem kd_one {nm : ByteArray → Int} {sc kind : Int} {S D : Nat} {c : Ch} (h : Bx sc kind S D c) : KdOk nm sc kind S D (oneK c) (exv nm c) := by
  rintro c' rfl; exact ⟨h, rfl⟩
theorem kd_nod {nm : ByteArray → Int} {sc k1 : Int} {S D : Nat} {X : Kd} {x : Int} (op kind : Int) (h : KdOk nm sc k1 S D X x) (hop : 7 ≤ op ∧ op ≤ 22) (hw : argB op 1 = true) (hr : resT op [k1] = kind) (h0 : kind ≠ 0) : KdOk nm sc kind (1 + S) (D + 1) (nodK op X) (opV op [x]) := by
  rintro c' ⟨g, c, hc, rfl⟩
  obtain ⟨h1, h2⟩ := h c hc
  refine ⟨bx_node sc D [c] [k1] S op kind ⟨S, 0, h1, trivial, by omega⟩ (by simp) hop hw hr h0 g _ _, ?_⟩
  show exv nm ⟨g, 0, ⟨op, 0, ⟨#[]⟩, _, _⟩, rowF [c]⟩ = _
  rw [exv_node _ _ _ hop.1, List.map_cons, List.map_nil, h2]
theorem kd_nod2 {nm : ByteArray → Int} {sc k1 k2 : Int} {S1 S2 D : Nat} {X Y : Kd} {x y : Int} (op kind : Int) (h : KdOk nm sc k1 S1 D X x) (k : KdOk nm sc k2 S2 D Y y) (hop : 7 ≤ op ∧ op ≤ 22) (hw : argB op 2 = true) (hr : resT op [k1, k2] = kind) (h0 : kind ≠ 0) : KdOk nm sc kind (1 + (S1 + S2)) (D + 1) (nodK2 op X Y) (opV op [x, y]) := by
  rintro c' ⟨g, c, d, hc, hd, rfl⟩
  obtain ⟨h1, h2⟩ := h c hc
  obtain ⟨h3, h4⟩ := k d hd
  refine ⟨bx_node sc D [c, d] [k1, k2] (S1 + S2) op kind ⟨S1, S2, h1, ⟨S2, 0, h3, trivial, by omega⟩, by omega⟩ (by simp) hop hw hr h0 g _ _, ?_⟩
  show exv nm ⟨g, 0, ⟨op, 0, ⟨#[]⟩, _, _⟩, rowF [c, d]⟩ = _
  rw [exv_node _ _ _ hop.1, List.map_cons, List.map_cons, List.map_nil, h2, h4]
theorem kd_nod3 {nm : ByteArray → Int} {sc k1 k2 k3 : Int} {S1 S2 S3 D : Nat} {X Y Z : Kd} {x y z : Int} (op kind : Int) (h : KdOk nm sc k1 S1 D X x) (k : KdOk nm sc k2 S2 D Y y) (m : KdOk nm sc k3 S3 D Z z) (hop : 7 ≤ op ∧ op ≤ 22) (hw : argB op 3 = true) (hr : resT op [k1, k2, k3] = kind) (h0 : kind ≠ 0) : KdOk nm sc kind (1 + (S1 + (S2 + S3))) (D + 1) (nodK3 op X Y Z) (opV op [x, y, z]) := by
  rintro c' ⟨g, c, d, e, hc, hd, he, rfl⟩
  obtain ⟨h1, h2⟩ := h c hc
  obtain ⟨h3, h4⟩ := k d hd
  obtain ⟨h5, h6⟩ := m e he
  refine ⟨bx_node sc D [c, d, e] [k1, k2, k3] (S1 + (S2 + S3)) op kind ⟨S1, S2 + S3, h1, ⟨S2, S3, h3, ⟨S3, 0, h5, trivial, by omega⟩, by omega⟩, by omega⟩ (by simp) hop hw hr h0 g _ _, ?_⟩
  show exv nm ⟨g, 0, ⟨op, 0, ⟨#[]⟩, _, _⟩, rowF [c, d, e]⟩ = _
  rw [exv_node _ _ _ hop.1, List.map_cons, List.map_cons, List.map_cons, List.map_nil, h2, h4, h6]
theorem KdOk.mono {nm : ByteArray → Int} {sc kind : Int} {S D S' D' : Nat} {X : Kd} {x : Int} (h : KdOk nm sc kind S D X x) (hS : S ≤ S') (hD : D ≤ D') : KdOk nm sc kind S' D' X x := fun c hc => ⟨(h c hc).1.mono hS hD, (h c hc).2⟩

/-! ### a plan by its table -/
def frameT (tbl : List (Nat × Nat)) (x : Nat → Value) (s : Array Value) : Array Value := tbl.foldl (fun s p => s.setIfInBounds p.1 (x p.1)) s
theorem frameT_size (tbl : List (Nat × Nat)) (x : Nat → Value) (s : Array Value) : (frameT tbl x s).size = s.size := by
  unfold frameT
  induction tbl generalizing s with
  | nil => rfl
  | cons p l ih => rw [List.foldl_cons, ih, Array.size_setIfInBounds]
theorem frameT_get (tbl : List (Nat × Nat)) (x : Nat → Value) (s : Array Value) (t : Nat) (ht : t < s.size) : (frameT tbl x s)[t]? = if (srcOf tbl t).isSome = true then some (x t) else s[t]? := by
  unfold frameT
  induction tbl generalizing s with
  | nil => rfl
  | cons p l ih =>
    rw [List.foldl_cons, ih _ (by rw [Array.size_setIfInBounds]; exact ht), Array.getElem?_setIfInBounds]
    have hs : srcOf (p :: l) t = if p.1 = t then some p.2 else srcOf l t := by
      unfold srcOf
      rw [List.find?_cons]
      by_cases q : p.1 = t
      · simp [q]
      · have : (p.1 == t) = false := by simp [q]
        rw [this, if_neg q]
    rw [hs]
    by_cases q : p.1 = t
    · rw [if_pos q, if_pos q]
      subst q
      simp [ht]
    · rw [if_neg q, if_neg q]
theorem frame_tbl (tbl : List (Nat × Nat)) (x : Nat → Value) (s : Array Value) : frameOf s (srcOf tbl) x = frameT tbl x s := by
  apply Array.ext_getElem?
  intro t
  by_cases ht : t < s.size
  · rw [frameT_get tbl x s t ht]
    unfold frameOf
    rw [List.getElem?_toArray, List.getElem?_mapIdx, Array.getElem?_toList, Array.getElem?_eq_getElem ht]
    cases hs : srcOf tbl t with
    | some i => simp [hs]
    | none => simp [hs]
  · rw [Array.getElem?_eq_none (by unfold frameOf; simp; omega), Array.getElem?_eq_none (by rw [frameT_size]; omega)]
theorem plan_tbl {ops : Array Oper} {id : Nat} {a0 : Act} {w : World} (tbl : List (Nat × Nat)) (G : Nat → Value → World → Prop) (z : Nat) (F : (Nat → Value) → World → World → Prop)
    (hm : P.follows .mixedOrders = true) (hchk : planB ops tbl a0.tmps.size = true)
    (hG : ∀ i v w w', G i v w → Ext w w' → G i v w')
    (hF : ∀ x x' w1 w', (∀ t, (srcOf tbl t = none ∨ ∃ e, srcOf tbl t = some e ∧ (e = z ∨ ((ops[z]?).any fun p => p.after.toList.any fun x => x.on == e && Region.binds .any x) = true)) → x t = x' t) → F x w1 w' → F x' w1 w')
    (hst : ∀ i o, ops[i]? = some o → i ≠ z → StepOk P ops Q (srcOf tbl) G a0.tmps w.drew i o)
    (hpu : ∀ i o, ops[i]? = some o → i ≠ z → ((ops[z]?).any fun p => p.after.toList.any fun x => x.on == i && Region.binds .any x) = true ∨ ops.size ≤ z ∨ PureOk P ops Q (srcOf tbl) G a0.tmps w.drew i o)
    (hla : ∀ o, ops[z]? = some o → LastOk P ops Q (srcOf tbl) G F a0.tmps w.drew z o)
    (hfin : ∀ (x : Nat → Value) (w1 w' : World), Ext w.drew w1 → (∀ t i, srcOf tbl t = some i → G i (x t) w1) → (z < ops.size → F x w1 w') → (ops.size ≤ z → w' = w1) → Q .normal ⟨frameT tbl x a0.tmps, a0.defers⟩ w') :
    (Code.region id ops true).wp P Q a0 w :=
  wp_region_plan hm (srcOf tbl) G z F hG (plan_src hchk) (plan_low hchk) (plan_all hchk) hF hst hpu hla (fun x w1 w' h1 h2 h3 h4 => by rw [frame_tbl]; exact hfin x w1 w' h1 h2 h3 h4)

end Go.Proofs.Ytinbkhchhlkjgaa
