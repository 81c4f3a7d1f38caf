/-
  The contract of the compiler's Compile. Printed by wip/mkfcm.py.
-/
import Derived.Test.YtfoedbfkddoibaaFcp
namespace Go.Proofs.Ytfoedbfkddoibaa
set_option linter.unusedVariables false
set_option linter.unusedSimpArgs false
open Go.ChangeShapes Go.WideShapes Go.ChangeAt Go.RowKit
open Go.Deep (BT)

theorem Try.infoF : (Try.prog.info? 66).map (fun i => (i.zero, i.size, i.bytes)) = some (some (.agg #[.int .i64 0, .int .i64 0, .slice none 0 0]), 3, 40) := by kernel_rfl
/-- The result's block: three cells that may be written. -/
structure RT (w : World) (r : Nat) : Prop where
  c0 : ∃ u, w.cell? ⟨r, 0, none⟩ = some u
  c1 : ∃ u, w.cell? ⟨r, 1, none⟩ = some u
  c2 : ∃ u, w.cell? ⟨r, 2, none⟩ = some u
  f0 : w.frozen? ⟨r, 0, none⟩ = false
  f1 : w.frozen? ⟨r, 1, none⟩ = false
  f2 : w.frozen? ⟨r, 2, none⟩ = false
  lt : r < w.heap.size
theorem RT.grown {w w' : World} {r : Nat} {row : Option Nat} (h : RT w r) (hg : w.grownBy w' row) (hne : some r ≠ row) : RT w' r where
  c0 := by obtain ⟨u, q⟩ := h.c0; exact ⟨u, by rw [World.cell?_of_block (hg.block r h.lt hne)]; exact q⟩
  c1 := by obtain ⟨u, q⟩ := h.c1; exact ⟨u, by rw [World.cell?_of_block (hg.block r h.lt hne)]; exact q⟩
  c2 := by obtain ⟨u, q⟩ := h.c2; exact ⟨u, by rw [World.cell?_of_block (hg.block r h.lt hne)]; exact q⟩
  f0 := by rw [World.frozen?_of_block (hg.block r h.lt hne)]; exact h.f0
  f1 := by rw [World.frozen?_of_block (hg.block r h.lt hne)]; exact h.f1
  f2 := by rw [World.frozen?_of_block (hg.block r h.lt hne)]; exact h.f2
  lt := Nat.lt_of_lt_of_le h.lt hg.size
theorem RT.next {w w' : World} {r : Nat} (h : RT w r) (hb : Below w.heap.size w w') : RT w' r := h.grown (grw_of_below none hb) (by simp)
theorem gb_three (w : World) (r : Nat) (a b c : Value) : w.grownBy (((w.setCell ⟨r, 0, none⟩ a).setCell ⟨r, 1, none⟩ b).setCell ⟨r, 2, none⟩ c) (some r) := by
  have g : ∀ (w : World) (i : Nat) (u : Value), w.grownBy (w.setCell ⟨r, i, none⟩ u) (some r) := fun w i u => ⟨rfl, rfl, rfl, by simp [World.setCell], fun k hk hr => Below.heap_setCell _ _ _ _ (fun e => hr (by rw [e]))⟩
  exact ((g _ _ _).trans (g _ _ _)).trans (g _ _ _)
def zerosF (n : Nat) : List Value := (List.replicate n [Value.int .i64 0, .int .i64 0, .slice none 0 0]).flatten
theorem frowC_len (l : List FC) : (frowC l).length = l.length * 3 := by
  induction l with
  | nil => rfl
  | cons c l ih => simp [frowC, fcC] at *; omega
/-- The formula under way: its own cells, its row of arguments, the first of them laid down. -/
structure CmSt (w wc wr : World) (fb gs : Nat) (op : Int) (m : Nat) (Dn : List FC) (rest : Nat) : Prop where
  c0 : wr.cell? ⟨fb, 0, none⟩ = some (.int .i64 op)
  c1 : wr.cell? ⟨fb, 1, none⟩ = some (.int .i64 0)
  c2 : wr.cell? ⟨fb, 2, none⟩ = some (.slice (some ⟨gs, 0, none⟩) m m)
  ow : wr.ownsRow (w.heap.size + 2) 66 3 (.slice (some ⟨gs, 0, none⟩) m m) m (frowC Dn ++ zerosF rest)
  ch : ∀ c ∈ Dn, FCAt wr wc.heap.size c
  rt : RT wr (w.heap.size + 1)
  sz : wc.heap.size ≤ wr.heap.size
theorem made_zeros (n : Nat) : (madeCells #[Value.int .i64 0, .int .i64 0, .slice none 0 0] (n * 3)).toList = zerosF n := by
  have e : (madeCells #[Value.int .i64 0, .int .i64 0, .slice none 0 0] (n * 3)).toList = (List.range (n * 3)).map (fun i => (#[Value.int .i64 0, .int .i64 0, .slice none 0 0] : Array Value)[i % 3]!) := by
    unfold madeCells
    simp
  rw [e]
  clear e
  induction n with
  | zero => rfl
  | succ n ih =>
    have r : List.range ((n + 1) * 3) = List.range (n * 3) ++ [n * 3, n * 3 + 1, n * 3 + 2] := by
      rw [show (n + 1) * 3 = n * 3 + 1 + 1 + 1 by omega, List.range_succ, List.range_succ, List.range_succ]; simp
    rw [r, List.map_append, ih]
    unfold zerosF
    rw [List.replicate_succ', List.flatten_append]
    have m0 : n * 3 % 3 = 0 := by omega
    have m1 : (n * 3 + 1) % 3 = 1 := by omega
    have m2 : (n * 3 + 2) % 3 = 2 := by omega
    simp [m0, m1, m2]

theorem zerosF_succ (n : Nat) : zerosF (n + 1) = [Value.int .i64 0, .int .i64 0, .slice none 0 0] ++ zerosF n := by
  unfold zerosF; rw [List.replicate_succ]; rfl
theorem CmSt.zero {w wc wr : World} {fb gs : Nat} {op : Int} {m : Nat} {Dn : List FC} {n j : Nat} (h : CmSt w wc wr fb gs op m Dn (n + 1)) (hd : Dn.length = j) (hj : j < m) :
    wr.cell? ⟨gs, j * 3, none⟩ = some (.int .i64 0) ∧ wr.cell? ⟨gs, j * 3 + 1, none⟩ = some (.int .i64 0) ∧ wr.cell? ⟨gs, j * 3 + 2, none⟩ = some (.slice none 0 0) := by
  have hl := frowC_len Dn
  rw [hd] at hl
  have g : ∀ i u, i < 3 → ([Value.int .i64 0, .int .i64 0, .slice none 0 0] ++ zerosF n)[i]? = some u → wr.cell? ⟨gs, j * 3 + i, none⟩ = some u := fun i u hi hu => by
    rw [h.ow.cellAt (j * 3 + i) (by omega), List.getElem?_append_right (by omega), hl, Nat.add_sub_cancel_left, zerosF_succ]
    exact hu
  exact ⟨g 0 _ (by omega) rfl, g 1 _ (by omega) rfl, g 2 _ (by omega) rfl⟩
theorem set_three (A : List Value) (x0 x1 x2 : Value) (Z : List Value) (a b c : Value) (i : Nat) (hi : A.length = i) : (((A ++ ([x0, x1, x2] ++ Z)).set i a).set (i + 1) b).set (i + 2) c = A ++ ([a, b, c] ++ Z) := by
  subst hi
  rw [List.set_append_right _ _ (Nat.le_refl _), Nat.sub_self, List.set_append_right _ _ (by omega), List.set_append_right _ _ (by omega)]
  simp
theorem CmSt.store {w wc wr : World} {fb gs : Nat} {op : Int} {m : Nat} {Dn : List FC} {n j : Nat} {c : FC} (h : CmSt w wc wr fb gs op m Dn (n + 1)) (hd : Dn.length = j) (hne : fb ≠ gs) (hgs : w.heap.size + 2 ≤ gs) (hg2 : gs < wc.heap.size) (hc : FCAt wr wc.heap.size c) :
    CmSt w wc (((wr.setCell ⟨gs, j * 3, none⟩ (.int .i64 c.f.op)).setCell ⟨gs, j * 3 + 1, none⟩ (.int .i64 c.f.num)).setCell ⟨gs, j * 3 + 2, none⟩ (.slice c.f.ptr (flen c.k) c.f.cap)) fb gs op m (Dn ++ [c]) n ∧
    wr.grownBy (((wr.setCell ⟨gs, j * 3, none⟩ (.int .i64 c.f.op)).setCell ⟨gs, j * 3 + 1, none⟩ (.int .i64 c.f.num)).setCell ⟨gs, j * 3 + 2, none⟩ (.slice c.f.ptr (flen c.k) c.f.cap)) (some gs) := by
  obtain ⟨o1, g1⟩ := h.ow.stored (j * 3) (.int .i64 c.f.op)
  obtain ⟨o2, g2⟩ := o1.stored (j * 3 + 1) (.int .i64 c.f.num)
  obtain ⟨o3, g3⟩ := o2.stored (j * 3 + 2) (.slice c.f.ptr (flen c.k) c.f.cap)
  have g := (g1.trans g2).trans g3
  have hl := frowC_len Dn
  rw [hd] at hl
  have e : (((frowC Dn ++ zerosF (n + 1)).set (j * 3) (.int .i64 c.f.op)).set (j * 3 + 1) (.int .i64 c.f.num)).set (j * 3 + 2) (.slice c.f.ptr (flen c.k) c.f.cap) = frowC (Dn ++ [c]) ++ zerosF n := by
    rw [zerosF_succ, set_three _ _ _ _ _ _ _ _ _ hl]
    simp [frowC, fcC]
  rw [e] at o3
  have cell : ∀ (i : Nat) (u : Value), wr.cell? ⟨fb, i, none⟩ = some u → (((wr.setCell ⟨gs, j * 3, none⟩ (.int .i64 c.f.op)).setCell ⟨gs, j * 3 + 1, none⟩ (.int .i64 c.f.num)).setCell ⟨gs, j * 3 + 2, none⟩ (.slice c.f.ptr (flen c.k) c.f.cap)).cell? ⟨fb, i, none⟩ = some u := fun i u q => by
    rw [World.cell?_of_block (g.block fb (block_lt_of_cell q) (by simpa using hne))]; exact q
  refine ⟨⟨cell _ _ h.c0, cell _ _ h.c1, cell _ _ h.c2, o3, fun d hd2 => ?_, h.rt.grown g (by simp; omega), Nat.le_trans h.sz g.size⟩, g⟩
  rcases List.mem_append.1 hd2 with q | q
  · exact (h.ch d q).set hg2 g
  · rw [List.mem_singleton.1 q]; exact hc.set hg2 g

end Go.Proofs.Ytfoedbfkddoibaa
