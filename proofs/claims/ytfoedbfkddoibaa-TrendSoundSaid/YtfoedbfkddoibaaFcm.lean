/-
  The contract of the compiler's Compile. Printed by wip/mkfcm.py.
-/
import Derived.Test.YtfoedbfkddoibaaFcp
namespace Go.Proofs.Ytfoedbfkddoibaa
set_option linter.unusedVariables false
set_option linter.unusedSimpArgs false
open Go.ChangeShapes Go.WideShapes Go.ChangeAt Go.RowKit
open Go.Deep (BT)

theorem Try.infoF : (Try.prog.info? 66).map (fun i => (i.zero, i.size, i.bytes)) = some (some (.agg #[.int .i64 0, .int .i64 0, .slice none 0 0]), 3, 40) := by kernel_rfl
/-- The contract of Constant at a name. -/
def ConQ (sc : Int) (kb ib vb : Nat) (pb : Nat → Nat) (cs : List Cn) (p : Option Addr) (cap : Nat) (f : Nat → Int) (cv : ByteArray → Int) (s : ByteArray) : Prop :=
  placeT sc s = none → i64B (cv s) ∧ ∀ w : World, CmpX w kb ib vb pb cs p cap f → CsV w cs p →
    Calls Try.prog 46 #[.pointer (some ⟨kb, 0, none⟩), .string s] w fun e w' => e = .returned (.int .i64 (cv s)) ∧ CmpX w' kb ib vb pb cs p cap f ∧ w.grownBy w' (some vb)
/-- What Compile leaves. -/
def CPst (w : World) (kb ib vb : Nat) (pb : Nat → Nat) (cs : List Cn) (p : Option Addr) (cap : Nat) (f : Nat → Int) (sc : Int) (cv : ByteArray → Int) (a : Nd) (k : Fo) (e : Ending) (w' : World) : Prop :=
  ∃ c : FC, e = .returned (.agg #[.int .i64 c.f.op, .int .i64 c.f.num, .slice c.f.ptr (flen c.k) c.f.cap]) ∧ FCAt w' w.heap.size c ∧ CompR sc cv a k c ∧ CmpX w' kb ib vb pb cs p cap f ∧ w.grownBy w' (some vb)
def CmpC (sc : Int) (b o : Nat) (a : Nd) (k : Fo) : Prop := ∀ (w : World) (kb ib vb : Nat) (pb : Nat → Nat) (cs : List Cn) (p : Option Addr) (cap : Nat) (f : Nat → Int) (cv : ByteArray → Int),
  CmpX w kb ib vb pb cs p cap f → CsV w cs p → ExAt w b o a k → ExOk a k → (wfB a (len k) && wfT k) = true → sz k ≤ 200 → (a.op = 6 → ConQ sc kb ib vb pb cs p cap f cv a.name) → NamF (ConQ sc kb ib vb pb cs p cap f cv) k →
  Calls Try.prog 29 #[.pointer (some ⟨kb, 0, none⟩), .int .i64 sc, .agg #[.int .i64 a.op, .int .i64 a.num, .string a.name, .slice a.ptr (len k) a.cap]] w (CPst w kb ib vb pb cs p cap f sc cv a k)
/-- The result's block: three cells that may be written. -/
structure RT (w : World) (r : Nat) : Prop where
  c0 : ∃ u, w.cell? ⟨r, 0, none⟩ = some u
  c1 : ∃ u, w.cell? ⟨r, 1, none⟩ = some u
  c2 : ∃ u, w.cell? ⟨r, 2, none⟩ = some u
  f0 : w.frozen? ⟨r, 0, none⟩ = false
  f1 : w.frozen? ⟨r, 1, none⟩ = false
  f2 : w.frozen? ⟨r, 2, none⟩ = false
  lt : r < w.heap.size
theorem RT.grown {w w' : World} {r : Nat} {row : Option Nat} (h : RT w r) (hg : w.grownBy w' row) (hne : some r ≠ row) : RT w' r where
  c0 := by obtain ⟨u, q⟩ := h.c0; exact ⟨u, by rw [World.cell?_of_block (hg.block r h.lt hne)]; exact q⟩
  c1 := by obtain ⟨u, q⟩ := h.c1; exact ⟨u, by rw [World.cell?_of_block (hg.block r h.lt hne)]; exact q⟩
  c2 := by obtain ⟨u, q⟩ := h.c2; exact ⟨u, by rw [World.cell?_of_block (hg.block r h.lt hne)]; exact q⟩
  f0 := by rw [World.frozen?_of_block (hg.block r h.lt hne)]; exact h.f0
  f1 := by rw [World.frozen?_of_block (hg.block r h.lt hne)]; exact h.f1
  f2 := by rw [World.frozen?_of_block (hg.block r h.lt hne)]; exact h.f2
  lt := Nat.lt_of_lt_of_le h.lt hg.size
theorem RT.next {w w' : World} {r : Nat} (h : RT w r) (hb : Below w.heap.size w w') : RT w' r := h.grown (grw_of_below none hb) (by simp)
theorem gb_three (w : World) (r : Nat) (a b c : Value) : w.grownBy (((w.setCell ⟨r, 0, none⟩ a).setCell ⟨r, 1, none⟩ b).setCell ⟨r, 2, none⟩ c) (some r) := by
  have g : ∀ (w : World) (i : Nat) (u : Value), w.grownBy (w.setCell ⟨r, i, none⟩ u) (some r) := fun w i u => ⟨rfl, rfl, rfl, by simp [World.setCell], fun k hk hr => Below.heap_setCell _ _ _ _ (fun e => hr (by rw [e]))⟩
  exact ((g _ _ _).trans (g _ _ _)).trans (g _ _ _)
/-- The end of a walk: the result is stored. -/
theorem cpst_store {w wx : World} {kb ib vb : Nat} {pb : Nat → Nat} {cs : List Cn} {p : Option Addr} {cap : Nat} {f : Nat → Int} {sc : Int} {cv : ByteArray → Int} {a : Nd} {k : Fo} {c : FC} {r : Nat} {u0 u1 u2 : Value}
    (hx : CmpX wx kb ib vb pb cs p cap f) (hg : w.grownBy wx (some vb)) (hc : FCAt wx (r + 1) c) (hr : CompR sc cv a k c) (hw : w.heap.size ≤ r) (hk : CmpX w kb ib vb pb cs p cap f) :
    CPst w kb ib vb pb cs p cap f sc cv a k (.returned (.agg #[.int .i64 c.f.op, .int .i64 c.f.num, .slice c.f.ptr (flen c.k) c.f.cap])) (((wx.setCell ⟨r, 0, none⟩ u0).setCell ⟨r, 1, none⟩ u1).setCell ⟨r, 2, none⟩ u2) := by
  have g := gb_three wx r u0 u1 u2
  have l1 := hk.s.lt
  have l2 := hk.s.ix.lt
  have l3 := hk.s.vm.lt
  have l4 : ∀ i, i < 4 → pb i < w.heap.size := fun i hi => (hk.l.m i hi).lt
  exact ⟨c, rfl, (hc.set (Nat.lt_succ_self r) g).mono (by omega), hr, hx.grown g (by simp; omega) (by simp; omega) (by simp; omega) (fun i hi => by have := l4 i hi; simp; omega), grw_new hg g hw⟩

def zerosF (n : Nat) : List Value := (List.replicate n [Value.int .i64 0, .int .i64 0, .slice none 0 0]).flatten
theorem frowC_len (l : List FC) : (frowC l).length = l.length * 3 := by
  induction l with
  | nil => rfl
  | cons c l ih => simp [frowC, fcC] at *; omega
/-- The formula under way: its own cells, its row of arguments, the first of them laid down. -/
structure CmSt (w wc wr : World) (fb gs : Nat) (op : Int) (m : Nat) (Dn : List FC) (rest : Nat) : Prop where
  c0 : wr.cell? ⟨fb, 0, none⟩ = some (.int .i64 op)
  c1 : wr.cell? ⟨fb, 1, none⟩ = some (.int .i64 0)
  c2 : wr.cell? ⟨fb, 2, none⟩ = some (.slice (some ⟨gs, 0, none⟩) m m)
  ow : wr.ownsRow (w.heap.size + 2) 66 3 (.slice (some ⟨gs, 0, none⟩) m m) m (frowC Dn ++ zerosF rest)
  ch : ∀ c ∈ Dn, FCAt wr wc.heap.size c
  rt : RT wr (w.heap.size + 1)
  sz : wc.heap.size ≤ wr.heap.size
theorem made_zeros (n : Nat) : (madeCells #[Value.int .i64 0, .int .i64 0, .slice none 0 0] (n * 3)).toList = zerosF n := by
  have e : (madeCells #[Value.int .i64 0, .int .i64 0, .slice none 0 0] (n * 3)).toList = (List.range (n * 3)).map (fun i => (#[Value.int .i64 0, .int .i64 0, .slice none 0 0] : Array Value)[i % 3]!) := by
    unfold madeCells
    simp
  rw [e]
  clear e
  induction n with
  | zero => rfl
  | succ n ih =>
    have r : List.range ((n + 1) * 3) = List.range (n * 3) ++ [n * 3, n * 3 + 1, n * 3 + 2] := by
      rw [show (n + 1) * 3 = n * 3 + 1 + 1 + 1 by omega, List.range_succ, List.range_succ, List.range_succ]; simp
    rw [r, List.map_append, ih]
    unfold zerosF
    rw [List.replicate_succ', List.flatten_append]
    have m0 : n * 3 % 3 = 0 := by omega
    have m1 : (n * 3 + 1) % 3 = 1 := by omega
    have m2 : (n * 3 + 2) % 3 = 2 := by omega
    simp [m0, m1, m2]

theorem cm_call {w wc wr wb w2 : World} {fb gs : Nat} {op : Int} {m : Nat} {Dn : List FC} {rest vb N : Nat} {f : Nat → Int} (h : CmSt w wc wr fb gs op m Dn rest) (hb : Below wr.heap.size wr wb) (hg : wb.grownBy w2 (some vb)) (hv : VMap Try.prog wb f N vb) (hgs : w.heap.size + 2 ≤ gs) (hvb : vb < w.heap.size) : CmSt w wc w2 fb gs op m Dn rest := by
  have K : Keeps wr w2 := (Keeps.of_below hb).trans (Keeps.of_vm hv hg)
  exact ⟨K _ _ h.c0, K _ _ h.c1, K _ _ h.c2, (own_below h.ow hb).kept hg (.inr (by simp [Value.ownBlock]; omega)), fun c hc => (h.ch c hc).keep K, (h.rt.next hb).grown hg (by simp; omega), Nat.le_trans h.sz (Nat.le_trans hb.size hg.size)⟩
theorem zerosF_succ (n : Nat) : zerosF (n + 1) = [Value.int .i64 0, .int .i64 0, .slice none 0 0] ++ zerosF n := by
  unfold zerosF; rw [List.replicate_succ]; rfl
theorem CmSt.zero {w wc wr : World} {fb gs : Nat} {op : Int} {m : Nat} {Dn : List FC} {n j : Nat} (h : CmSt w wc wr fb gs op m Dn (n + 1)) (hd : Dn.length = j) (hj : j < m) :
    wr.cell? ⟨gs, j * 3, none⟩ = some (.int .i64 0) ∧ wr.cell? ⟨gs, j * 3 + 1, none⟩ = some (.int .i64 0) ∧ wr.cell? ⟨gs, j * 3 + 2, none⟩ = some (.slice none 0 0) := by
  have hl := frowC_len Dn
  rw [hd] at hl
  have g : ∀ i u, i < 3 → ([Value.int .i64 0, .int .i64 0, .slice none 0 0] ++ zerosF n)[i]? = some u → wr.cell? ⟨gs, j * 3 + i, none⟩ = some u := fun i u hi hu => by
    rw [h.ow.cellAt (j * 3 + i) (by omega), List.getElem?_append_right (by omega), hl, Nat.add_sub_cancel_left, zerosF_succ]
    exact hu
  exact ⟨g 0 _ (by omega) rfl, g 1 _ (by omega) rfl, g 2 _ (by omega) rfl⟩
theorem set_three (A : List Value) (x0 x1 x2 : Value) (Z : List Value) (a b c : Value) (i : Nat) (hi : A.length = i) : (((A ++ ([x0, x1, x2] ++ Z)).set i a).set (i + 1) b).set (i + 2) c = A ++ ([a, b, c] ++ Z) := by
  subst hi
  rw [List.set_append_right _ _ (Nat.le_refl _), Nat.sub_self, List.set_append_right _ _ (by omega), List.set_append_right _ _ (by omega)]
  simp
theorem CmSt.store {w wc wr : World} {fb gs : Nat} {op : Int} {m : Nat} {Dn : List FC} {n j : Nat} {c : FC} (h : CmSt w wc wr fb gs op m Dn (n + 1)) (hd : Dn.length = j) (hne : fb ≠ gs) (hgs : w.heap.size + 2 ≤ gs) (hg2 : gs < wc.heap.size) (hc : FCAt wr wc.heap.size c) :
    CmSt w wc (((wr.setCell ⟨gs, j * 3, none⟩ (.int .i64 c.f.op)).setCell ⟨gs, j * 3 + 1, none⟩ (.int .i64 c.f.num)).setCell ⟨gs, j * 3 + 2, none⟩ (.slice c.f.ptr (flen c.k) c.f.cap)) fb gs op m (Dn ++ [c]) n ∧
    wr.grownBy (((wr.setCell ⟨gs, j * 3, none⟩ (.int .i64 c.f.op)).setCell ⟨gs, j * 3 + 1, none⟩ (.int .i64 c.f.num)).setCell ⟨gs, j * 3 + 2, none⟩ (.slice c.f.ptr (flen c.k) c.f.cap)) (some gs) := by
  obtain ⟨o1, g1⟩ := h.ow.stored (j * 3) (.int .i64 c.f.op)
  obtain ⟨o2, g2⟩ := o1.stored (j * 3 + 1) (.int .i64 c.f.num)
  obtain ⟨o3, g3⟩ := o2.stored (j * 3 + 2) (.slice c.f.ptr (flen c.k) c.f.cap)
  have g := (g1.trans g2).trans g3
  have hl := frowC_len Dn
  rw [hd] at hl
  have e : (((frowC Dn ++ zerosF (n + 1)).set (j * 3) (.int .i64 c.f.op)).set (j * 3 + 1) (.int .i64 c.f.num)).set (j * 3 + 2) (.slice c.f.ptr (flen c.k) c.f.cap) = frowC (Dn ++ [c]) ++ zerosF n := by
    rw [zerosF_succ, set_three _ _ _ _ _ _ _ _ _ hl]
    simp [frowC, fcC]
  rw [e] at o3
  have cell : ∀ (i : Nat) (u : Value), wr.cell? ⟨fb, i, none⟩ = some u → (((wr.setCell ⟨gs, j * 3, none⟩ (.int .i64 c.f.op)).setCell ⟨gs, j * 3 + 1, none⟩ (.int .i64 c.f.num)).setCell ⟨gs, j * 3 + 2, none⟩ (.slice c.f.ptr (flen c.k) c.f.cap)).cell? ⟨fb, i, none⟩ = some u := fun i u q => by
    rw [World.cell?_of_block (g.block fb (block_lt_of_cell q) (by simpa using hne))]; exact q
  refine ⟨⟨cell _ _ h.c0, cell _ _ h.c1, cell _ _ h.c2, o3, fun d hd2 => ?_, h.rt.grown g (by simp; omega), Nat.le_trans h.sz g.size⟩, g⟩
  rcases List.mem_append.1 hd2 with q | q
  · exact (h.ch d q).set hg2 g
  · rw [List.mem_singleton.1 q]; exact hc.set hg2 g

set_option maxHeartbeats 16000000 in
set_option maxRecDepth 100000 in
theorem compile_any (sc : Int) (b o : Nat) (a : Nd) (k : Fo) : CmpC sc b o a k := by
  refine tree_of (P := CmpC sc) ?_ b o a k
  clear b o a k
  intro b o a k ih w kb ib vb pb cs p cap f cv hx hcs hxx hok hwf hz hq hqk
  obtain ⟨op, num, name, ptr, acap⟩ := a
  obtain ⟨i0, hi, hi0, hi1, hi2⟩ := info_parts Try.infoF
  show Calls Try.prog 29 #[.pointer (some ⟨kb, 0, none⟩), .int .i64 sc, .agg #[.int .i64 op, .int .i64 num, .string name, .slice ptr (len k) acap]] w _
  have IH := Lib.hid ih
  have HX := Lib.hid hx
  have HCS := Lib.hid hcs
  have HE := Lib.hid hxx
  have HOK := Lib.hid hok
  have HW := Lib.hid hwf
  have HZ := Lib.hid hz
  have HQ : Hid (op = 6 → ConQ sc kb ib vb pb cs p cap f cv name) := hq
  have HQK := Lib.hid hqk
  have hs : name.size ≤ 9223372036854775807 := hok.1.2.2.1
  have hk : len k ≤ 200 := Nat.le_trans (len_le_sz k) hz
  have hnum : Hid (i64B num) := hok.1.2.1
  have hopr : 1 ≤ op ∧ op ≤ 22 ∧ argB op (len k) = true := by
    have h := hwf
    unfold wfB at h
    dsimp only at h
    simp only [Bool.and_eq_true, decide_eq_true_eq] at h
    exact ⟨h.1.1.1.1.1, h.1.1.1.1.2, h.1.1.1.2⟩
  have HO := Lib.hid hopr
  have l1 : kb < w.heap.size := hx.s.lt
  have l3 : vb < w.heap.size := hx.s.vm.lt
  clear ih hx hcs hxx hok hwf hz hq hqk hopr
  have B0 : Hid (Below w.heap.size w ((w.alloc (.cells #[.int .i64 op, .int .i64 num, .string name, .slice ptr (len k) acap] 31)).alloc (.cells #[.int .i64 0, .int .i64 0, .slice none 0 0] 66))) := ((Below.refl _ _).alloc (Nat.le_refl _) _).alloc (by simp) _
  have R0 : Hid (RT ((w.alloc (.cells #[.int .i64 op, .int .i64 num, .string name, .slice ptr (len k) acap] 31)).alloc (.cells #[.int .i64 0, .int .i64 0, .slice none 0 0] 66)) (w.heap.size + 1)) := ⟨⟨_, by simp [go_sem]; rfl⟩, ⟨_, by simp [go_sem]; rfl⟩, ⟨_, by simp [go_sem]; rfl⟩, by simp [go_sem], by simp [go_sem], by simp [go_sem], by simp⟩
  have XC : Hid (∀ wr, Below (w.heap.size + 2) ((w.alloc (.cells #[.int .i64 op, .int .i64 num, .string name, .slice ptr (len k) acap] 31)).alloc (.cells #[.int .i64 0, .int .i64 0, .slice none 0 0] 66)) wr → True) := fun _ _ => trivial
  have x0 : ((w.alloc (.cells #[.int .i64 op, .int .i64 num, .string name, .slice ptr (len k) acap] 31)).alloc (.cells #[.int .i64 0, .int .i64 0, .slice none 0 0] 66)).cell? ⟨w.heap.size, 0, none⟩ = some (.int .i64 op) := by simp [go_sem]
  have x1 : ((w.alloc (.cells #[.int .i64 op, .int .i64 num, .string name, .slice ptr (len k) acap] 31)).alloc (.cells #[.int .i64 0, .int .i64 0, .slice none 0 0] 66)).cell? ⟨w.heap.size, 1, none⟩ = some (.int .i64 num) := by simp [go_sem]
  have x2 : ((w.alloc (.cells #[.int .i64 op, .int .i64 num, .string name, .slice ptr (len k) acap] 31)).alloc (.cells #[.int .i64 0, .int .i64 0, .slice none 0 0] 66)).cell? ⟨w.heap.size, 2, none⟩ = some (.string name) := by simp [go_sem]
  have x3 : ((w.alloc (.cells #[.int .i64 op, .int .i64 num, .string name, .slice ptr (len k) acap] 31)).alloc (.cells #[.int .i64 0, .int .i64 0, .slice none 0 0] 66)).cell? ⟨w.heap.size, 3, none⟩ = some (.slice ptr (len k) acap) := by simp [go_sem]
  have z0 : ((w.alloc (.cells #[.int .i64 op, .int .i64 num, .string name, .slice ptr (len k) acap] 31)).alloc (.cells #[.int .i64 0, .int .i64 0, .slice none 0 0] 66)).heap.size = w.heap.size + 2 := by simp
  go_enter Try.func29, Try.ntmps29
  go_upto_region 2 with (fail)
  generalize (w.alloc (.cells #[.int .i64 op, .int .i64 num, .string name, .slice ptr (len k) acap] 31)).alloc (.cells #[.int .i64 0, .int .i64 0, .slice none 0 0] 66) = w0 at *
  have X0 := Lib.hid (HX.out.next B0.out)
  have G0 : Hid (w.grownBy w0 (some vb)) := grw_of_below _ B0.out
  clear XC
  by_cases hlow : op ≤ 5
  · have h5 : op = 1 ∨ op = 2 ∨ op = 3 ∨ op = 4 ∨ op = 5 := by have := HO.out.1; omega
    have SX := X0
    have GX := G0
    have RX := R0
    obtain ⟨⟨u0, q0⟩, ⟨u1, q1⟩, ⟨u2, q2⟩, f0, f1, f2, rlt⟩ := RX.out
    rcases h5 with rfl | rfl | rfl | rfl | rfl
    · go_wp2
      refine bodyPost_ret (v := .agg #[.int .i64 1, .int .i64 num, .slice none 0 0]) ?_ rfl (cpst_store (c := ⟨0, 0, ⟨1, num, none, 0⟩, .nil⟩) SX.out GX.out ⟨fun q => absurd rfl q, trivial, trivial⟩ (comp_leaf sc cv _ k num hnum.out (fun vals => rfl)) (Nat.le_succ _) HX.out)
      rw [results_cell1 rfl]
      go_simp
    · go_wp2
      refine bodyPost_ret (v := .agg #[.int .i64 1, .int .i64 num, .slice none 0 0]) ?_ rfl (cpst_store (c := ⟨0, 0, ⟨1, num, none, 0⟩, .nil⟩) SX.out GX.out ⟨fun q => absurd rfl q, trivial, trivial⟩ (comp_leaf sc cv _ k num hnum.out (fun vals => rfl)) (Nat.le_succ _) HX.out)
      rw [results_cell1 rfl]
      go_simp
    · go_wp2
      refine bodyPost_ret (v := .agg #[.int .i64 1, .int .i64 num, .slice none 0 0]) ?_ rfl (cpst_store (c := ⟨0, 0, ⟨1, num, none, 0⟩, .nil⟩) SX.out GX.out ⟨fun q => absurd rfl q, trivial, trivial⟩ (comp_leaf sc cv _ k num hnum.out (fun vals => rfl)) (Nat.le_succ _) HX.out)
      rw [results_cell1 rfl]
      go_simp
    · go_wp2
      refine bodyPost_ret (v := .agg #[.int .i64 1, .int .i64 1, .slice none 0 0]) ?_ rfl (cpst_store (c := ⟨0, 0, ⟨1, 1, none, 0⟩, .nil⟩) SX.out GX.out ⟨fun q => absurd rfl q, trivial, trivial⟩ (comp_leaf sc cv _ k 1 (by unfold i64B; decide) (fun vals => rfl)) (Nat.le_succ _) HX.out)
      rw [results_cell1 rfl]
      go_simp
    · go_wp2
      refine bodyPost_ret (v := .agg #[.int .i64 1, .int .i64 0, .slice none 0 0]) ?_ rfl (cpst_store (c := ⟨0, 0, ⟨1, 0, none, 0⟩, .nil⟩) SX.out GX.out ⟨fun q => absurd rfl q, trivial, trivial⟩ (comp_leaf sc cv _ k 0 (by unfold i64B; decide) (fun vals => rfl)) (Nat.le_succ _) HX.out)
      rw [results_cell1 rfl]
      go_simp
  · by_cases h6 : op = 6
    · subst h6
      have Q := Lib.hid (HQ.out rfl)
      obtain ⟨pl, hpl⟩ : ∃ pl, pl = placeT sc name := ⟨_, rfl⟩
      have PLQ := Lib.hid hpl
      clear hpl hlow
      by_cases hsc : 0 ≤ sc ∧ sc < 4
      · obtain ⟨j, rfl⟩ := Int.eq_ofNat_of_zero_le hsc.1
        have hj4 : j < 4 := by omega
        have hs1 : (0 : Int) ≤ (j : Int) := hsc.1
        have hs2 : (j : Int) < 4 := hsc.2
        have PLE : Hid (pl = posN (Att.listL (j : Int)) (Att.listL (j : Int)).length name) := by unfold Hid; rw [PLQ.out]; unfold placeT; rw [if_pos hsc]
        have cj := X0.out.l.c j hj4
        obtain ⟨v, hb, hrun, hv⟩ := pl_look (w := w0.drew) ((X0.out.next (Below.refl _ _).drew).l.m j hj4) name hs
        rw [← PLE.out] at hv
        have HV := Lib.hid hv
        clear hv hsc
        go_upto_region 12 with (fail)
        go_region
        clear hrun
        have XD := Lib.hid (X0.out.next (Below.refl _ _).drew)
        have GD : Hid (w.grownBy w0.drew (some vb)) := grw_of_below _ B0.out.drew
        have RD := Lib.hid (R0.out.next (Below.refl _ _).drew)
        cases pl with
        | some i =>
          obtain ⟨rfl, rfl⟩ := HV.out
          obtain ⟨⟨u0, q0⟩, ⟨u1, q1⟩, ⟨u2, q2⟩, f0, f1, f2, rlt⟩ := R0.out
          go_wp2
          refine bodyPost_ret (v := .agg #[.int .i64 6, .int .i64 i, .slice none 0 0]) ?_ rfl (cpst_store (c := ⟨0, 0, ⟨6, i, none, 0⟩, .nil⟩) XD.out GD.out ⟨fun q => absurd rfl q, trivial, trivial⟩ (comp_attr (j : Int) cv ⟨6, num, name, ptr, acap⟩ k i rfl PLQ.out.symm) (Nat.le_succ _) HX.out)
          rw [results_cell1 rfl]
          go_simp
        | none =>
          have hq : hb = false := HV.out
          subst hq
          go_wp2_with fail
          have CQ := Lib.hid (Q.out PLQ.out.symm)
          refine (CQ.out.2 w0.drew XD.out (HCS.out.keep (Keeps.of_vm HX.out.s.vm GD.out))).mono ?_
          rintro e w2 ⟨rfl, hx2, hg2⟩
          have SX := Lib.hid hx2
          have GX : Hid (w.grownBy w2 (some vb)) := GD.out.trans hg2
          have RX : Hid (RT w2 (w.heap.size + 1)) := RD.out.grown hg2 (by simp; omega)
          clear hx2 hg2
          have PLN := Lib.hid PLQ.out.symm
          obtain ⟨⟨u0, q0⟩, ⟨u1, q1⟩, ⟨u2, q2⟩, f0, f1, f2, rlt⟩ := RX.out
          go_wp2
          refine bodyPost_ret (v := .agg #[.int .i64 1, .int .i64 (cv name), .slice none 0 0]) ?_ rfl (cpst_store (c := ⟨0, 0, ⟨1, cv name, none, 0⟩, .nil⟩) SX.out GX.out ⟨fun q => absurd rfl q, trivial, trivial⟩ (comp_leaf _ cv ⟨6, num, name, ptr, acap⟩ k (cv name) CQ.out.1 (fun vals => by unfold ev1 nmT; dsimp only; rw [if_neg (by omega), if_neg (by omega), if_neg (by omega), if_pos rfl, PLN.out])) (Nat.le_succ _) HX.out)
          rw [results_cell1 rfl]
          go_simp
      · have PLE : Hid (pl = none) := by unfold Hid; rw [PLQ.out]; unfold placeT; rw [if_neg hsc]
        have PLQ : Hid (none = placeT sc name) := by unfold Hid; rw [← PLE.out]; exact PLQ.out
        by_cases s0 : 0 ≤ sc
        · have s1 : ¬ sc < 4 := fun q => hsc ⟨s0, q⟩
          clear hsc PLE
          go_wp2_with fail
          have CQ := Lib.hid (Q.out PLQ.out.symm)
          refine (CQ.out.2 w0 X0.out (HCS.out.keep (Keeps.of_vm HX.out.s.vm G0.out))).mono ?_
          rintro e w2 ⟨rfl, hx2, hg2⟩
          have SX := Lib.hid hx2
          have GX : Hid (w.grownBy w2 (some vb)) := G0.out.trans hg2
          have RX : Hid (RT w2 (w.heap.size + 1)) := R0.out.grown hg2 (by simp; omega)
          clear hx2 hg2
          have PLN := Lib.hid PLQ.out.symm
          obtain ⟨⟨u0, q0⟩, ⟨u1, q1⟩, ⟨u2, q2⟩, f0, f1, f2, rlt⟩ := RX.out
          go_wp2
          refine bodyPost_ret (v := .agg #[.int .i64 1, .int .i64 (cv name), .slice none 0 0]) ?_ rfl (cpst_store (c := ⟨0, 0, ⟨1, cv name, none, 0⟩, .nil⟩) SX.out GX.out ⟨fun q => absurd rfl q, trivial, trivial⟩ (comp_leaf _ cv ⟨6, num, name, ptr, acap⟩ k (cv name) CQ.out.1 (fun vals => by unfold ev1 nmT; dsimp only; rw [if_neg (by omega), if_neg (by omega), if_neg (by omega), if_pos rfl, PLN.out])) (Nat.le_succ _) HX.out)
          rw [results_cell1 rfl]
          go_simp
        · clear hsc PLE
          go_wp2_with fail
          have CQ := Lib.hid (Q.out PLQ.out.symm)
          refine (CQ.out.2 w0 X0.out (HCS.out.keep (Keeps.of_vm HX.out.s.vm G0.out))).mono ?_
          rintro e w2 ⟨rfl, hx2, hg2⟩
          have SX := Lib.hid hx2
          have GX : Hid (w.grownBy w2 (some vb)) := G0.out.trans hg2
          have RX : Hid (RT w2 (w.heap.size + 1)) := R0.out.grown hg2 (by simp; omega)
          clear hx2 hg2
          have PLN := Lib.hid PLQ.out.symm
          obtain ⟨⟨u0, q0⟩, ⟨u1, q1⟩, ⟨u2, q2⟩, f0, f1, f2, rlt⟩ := RX.out
          go_wp2
          refine bodyPost_ret (v := .agg #[.int .i64 1, .int .i64 (cv name), .slice none 0 0]) ?_ rfl (cpst_store (c := ⟨0, 0, ⟨1, cv name, none, 0⟩, .nil⟩) SX.out GX.out ⟨fun q => absurd rfl q, trivial, trivial⟩ (comp_leaf _ cv ⟨6, num, name, ptr, acap⟩ k (cv name) CQ.out.1 (fun vals => by unfold ev1 nmT; dsimp only; rw [if_neg (by omega), if_neg (by omega), if_neg (by omega), if_pos rfl, PLN.out])) (Nat.le_succ _) HX.out)
          rw [results_cell1 rfl]
          go_simp
    · have h7 : Hid (7 ≤ op ∧ op ≤ 22 ∧ argB op (len k) = true) := ⟨by have := HO.out.1; omega, HO.out.2.1, HO.out.2.2⟩
      clear HQ
      have n1 : (op == 1) = false := by simp; omega
      have n2 : (op == 2) = false := by simp; omega
      have n3 : (op == 3) = false := by simp; omega
      have n4 : (op == 4) = false := by simp; omega
      have n5 : (op == 5) = false := by simp; omega
      have n6 : (op == 6) = false := by simp; omega
      clear h6 hlow
      go_upto_region 16 with (fail)
      go_cut [9] (fun v9 wx => ∃ fb gs : Nat, v9 = .pointer (some ⟨fb, 0, none⟩) ∧ Hid (wx.cell? ⟨fb, 0, none⟩ = some (.int .i64 op) ∧ wx.cell? ⟨fb, 1, none⟩ = some (.int .i64 0) ∧ wx.cell? ⟨fb, 2, none⟩ = some (.slice (some ⟨gs, 0, none⟩) (len k) (len k)) ∧
        wx.ownsRow (w.heap.size + 2) 66 3 (.slice (some ⟨gs, 0, none⟩) (len k) (len k)) (len k) (zerosF (len k)) ∧ fb ≠ gs ∧ w.heap.size + 2 ≤ fb ∧ fb < wx.heap.size ∧ Below (w.heap.size + 2) w0 wx))
      case first =>
        have bD : w.heap.size + 2 ≤ w0.drew.heap.size := by show w.heap.size + 2 ≤ w0.heap.size; omega
        obtain ⟨wm, hm, om, gm⟩ := run_make_full (P := Try.prog) w0.drew (w.heap.size + 2) 64 66 i0 (.agg #[.int .i64 0, .int .i64 0, .slice none 0 0]) 3 Try.underlying64 hi hi0 hi1 .i64 .i64 (len k) (by rw [hi2]; omega) (by unfold maxLen; omega) bD
        obtain ⟨wn, hn, on, gn⟩ := run_make_full (P := Try.prog) (w0.alloc (.cells #[.int .i64 0, .int .i64 0, .slice none 0 0] 66)).drew (w.heap.size + 2) 64 66 i0 (.agg #[.int .i64 0, .int .i64 0, .slice none 0 0]) 3 Try.underlying64 hi hi0 hi1 .i64 .i64 (len k) (by rw [hi2]; omega) (by unfold maxLen; omega) (by simp; omega)
        have OM : Hid (wm.ownsRow (w.heap.size + 2) 66 3 (.slice (some ⟨w.heap.size + 2, 0, none⟩) (len k) (len k)) (len k) (zerosF (len k))) := by
          have h := om
          rw [show (Value.agg #[.int .i64 0, .int .i64 0, .slice none 0 0]).cells = #[.int .i64 0, .int .i64 0, .slice none 0 0] from rfl, made_zeros, show w0.drew.heap.size = w.heap.size + 2 from z0] at h
          exact h
        have GM := Lib.hid gm
        have ON : Hid (wn.ownsRow (w.heap.size + 2) 66 3 (.slice (some ⟨w.heap.size + 2 + 1, 0, none⟩) (len k) (len k)) (len k) (zerosF (len k))) := by
          have h := on
          rw [show (Value.agg #[.int .i64 0, .int .i64 0, .slice none 0 0]).cells = #[.int .i64 0, .int .i64 0, .slice none 0 0] from rfl, made_zeros, show (w0.alloc (.cells #[.int .i64 0, .int .i64 0, .slice none 0 0] 66)).drew.heap.size = w.heap.size + 2 + 1 by simp [z0]] at h
          exact h
        have GN := Lib.hid gn
        clear om on
        have hl0 : w.heap.size < w0.heap.size := by omega
        have a0 : wm.cell? ⟨w.heap.size, 0, none⟩ = some (.int .i64 op) := (gb_cell gm (p := ⟨w.heap.size, 0, none⟩) (by show w.heap.size < w0.heap.size; omega) (by simp)).trans x0
        have a3 : wm.cell? ⟨w.heap.size, 3, none⟩ = some (.slice ptr (len k) acap) := (gb_cell gm (p := ⟨w.heap.size, 3, none⟩) (by show w.heap.size < w0.heap.size; omega) (by simp)).trans x3
        have b0 : wn.cell? ⟨w.heap.size, 0, none⟩ = some (.int .i64 op) := (gb_cell gn (p := ⟨w.heap.size, 0, none⟩) (by simp; omega) (by simp)).trans (by simp [go_sem, hl0, x0])
        have b3 : wn.cell? ⟨w.heap.size, 3, none⟩ = some (.slice ptr (len k) acap) := (gb_cell gn (p := ⟨w.heap.size, 3, none⟩) (by simp; omega) (by simp)).trans (by simp [go_sem, hl0, x3])
        have d0 : wn.cell? ⟨w.heap.size + 2, 0, none⟩ = some (.int .i64 0) := (gb_cell gn (p := ⟨w.heap.size + 2, 0, none⟩) (by simp; omega) (by simp)).trans (by rw [← z0]; simp [go_sem])
        have d1 : wn.cell? ⟨w.heap.size + 2, 1, none⟩ = some (.int .i64 0) := (gb_cell gn (p := ⟨w.heap.size + 2, 1, none⟩) (by simp; omega) (by simp)).trans (by rw [← z0]; simp [go_sem])
        have d2 : wn.cell? ⟨w.heap.size + 2, 2, none⟩ = some (.slice none 0 0) := (gb_cell gn (p := ⟨w.heap.size + 2, 2, none⟩) (by simp; omega) (by simp)).trans (by rw [← z0]; simp [go_sem])
        have e0 : wn.frozen? ⟨w.heap.size + 2, 0, none⟩ = false := (gb_frozen gn (p := ⟨w.heap.size + 2, 0, none⟩) (by simp; omega) (by simp)).trans (by rw [← z0]; simp [go_sem])
        have e1 : wn.frozen? ⟨w.heap.size + 2, 1, none⟩ = false := (gb_frozen gn (p := ⟨w.heap.size + 2, 1, none⟩) (by simp; omega) (by simp)).trans (by rw [← z0]; simp [go_sem])
        have e2 : wn.frozen? ⟨w.heap.size + 2, 2, none⟩ = false := (gb_frozen gn (p := ⟨w.heap.size + 2, 2, none⟩) (by simp; omega) (by simp)).trans (by rw [← z0]; simp [go_sem])
        have hlm : w.heap.size < wm.heap.size := by have := gm.size; simp at this; omega
        have hln : w.heap.size < wn.heap.size := by have := gn.size; simp at this; omega
        clear gm gn
        go_region
        · go_wp2
          go_meet
          have hl2 : w.heap.size + 2 < wm.heap.size := (OM.out.lt _ rfl).2
          refine ⟨wm.heap.size, w.heap.size + 2, rfl, by simp [go_sem], by simp [go_sem], by simp [go_sem], OM.out.alloc _, by omega, by omega, by simp, ?_⟩
          exact (((Below.refl _ _).drew).grown GM.out (by simp; omega) (fun m hm => by cases hm)).alloc (by omega) _
        · go_wp2
          go_meet
          have hl2 : w.heap.size + 2 + 1 < wn.heap.size := (ON.out.lt _ rfl).2
          refine ⟨w.heap.size + 2, w.heap.size + 2 + 1, rfl, by simp [go_sem, d0, d1, d2], by simp [go_sem, d0, d1, d2], by simp [go_sem, d0, d1, d2], own_setCell_ne (own_setCell_ne (own_setCell_ne ON.out (by simp [Value.ownBlock]) _) (by simp [Value.ownBlock]) _) (by simp [Value.ownBlock]) _, by omega, by omega, by simp [World.setCell]; omega, ?_⟩
          exact ((((((Below.refl _ _).alloc (by omega) _).drew).grown GN.out (by simp; omega) (fun m hm => by cases hm)).setCell (by simp) _).setCell (by simp) _).setCell (by simp) _
      case rest =>
        obtain ⟨fb, gs, rfl, HF⟩ := hcut
        have BC : Hid (Below w0.heap.size w0 wc) := by unfold Hid; rw [z0]; exact HF.out.2.2.2.2.2.2.2
        have X1 := Lib.hid (X0.out.next BC.out)
        have G1 : Hid (w.grownBy wc (some vb)) := grw_of_below _ (B0.out.trans (BC.out.mono B0.out.size))
        have R1 := Lib.hid (R0.out.next BC.out)
        have hgs := (HF.out.2.2.2.1.lt gs rfl)
        have hfb : w.heap.size + 2 ≤ fb := HF.out.2.2.2.2.2.1
        have hfb2 : fb < wc.heap.size := HF.out.2.2.2.2.2.2.1
        have hne : fb ≠ gs := HF.out.2.2.2.2.1
        have y3 : wc.cell? ⟨w.heap.size, 3, none⟩ = some (.slice ptr (len k) acap) := by rw [BC.out.cell (p := ⟨w.heap.size, 3, none⟩) (by show w.heap.size < w0.heap.size; omega)]; exact x3
        clear x0 x1 x2 x3
        go_wp2_with fail
        clear y3
        go_loopw [65] (fun i wr => ∃ (j : Nat) (r : Fo) (Dn : List FC), i = .int .i64 j ∧ Hid (j + len r = len k ∧ FoAt wr r b (o + j * 4) ∧ FoOk r ∧ AllT (CmpC sc) r ∧ wfT r = true ∧ sz r ≤ 200 ∧ NamF (ConQ sc kb ib vb pb cs p cap f cv) r ∧ Dn.length = j ∧
            CmSt w wc wr fb gs op (len k) Dn (len r) ∧ (∀ c ∈ Dn, fOk1 (nS sc) c.f (flen c.k) ∧ flen c.k ≤ 200 ∧ fOk (nS sc) c.k) ∧ (∀ vals, (Dn.map fun c => fv1 vals c.f (fvF vals c.k)) ++ evF (nmT sc vals cv) r = evF (nmT sc vals cv) k) ∧ CmpX wr kb ib vb pb cs p cap f ∧ w.grownBy wr (some vb) ∧ FoLt w.heap.size r b)) (fun i _ => len k - (intOf i).toNat)
        case atStart =>
          refine ⟨0, k, [], rfl, by omega, ?_, HOK.out.2, IH.out, ?_, HZ.out, HQK.out, rfl, ⟨HF.out.1, HF.out.2.1, HF.out.2.2.1, HF.out.2.2.2.1, (fun c hc => by cases hc), R1.out, Nat.le_refl _⟩, (fun c hc => by cases hc), fun vals => rfl, X1.out, G1.out, HE.out.2.lt⟩
          · rw [Nat.zero_mul, Nat.add_zero]; exact (HE.out.2.next B0.out).next BC.out
          · have := HW.out; rw [Bool.and_eq_true] at this; exact this.2
        case round =>
          obtain ⟨j, r, Dn, rfl, HR⟩ := hrel
          have ST := Lib.hid HR.out.2.2.2.2.2.2.2.2.1
          cases r with
          | nil =>
            have hj : ¬ (j : Int) < (len k : Int) := by have := HR.out.1; simp [len] at this; omega
            have SX := Lib.hid HR.out.2.2.2.2.2.2.2.2.2.2.2.1
            have GX := Lib.hid HR.out.2.2.2.2.2.2.2.2.2.2.2.2.1
            have RX := Lib.hid ST.out.rt
            have hlen : Hid (Dn.length = len k) := by have h1 := HR.out.1; have h2 := HR.out.2.2.2.2.2.2.2.1; simp [len] at h1; unfold Hid; omega
            have FX : Hid (FCAt wr (w.heap.size + 2) ⟨gs, 0, ⟨op, 0, some ⟨gs, 0, none⟩, len k⟩, frowF Dn⟩) := by
              have h := frowF_at (w := wr) (B0 := w.heap.size + 2) (g := gs) (O := 0) Dn (fun c hc => (ST.out.ch c hc).mono (by omega)) (fun i u hu => by
                have how := ST.out.ow
                simp only [len] at how
                have hi9 : i < len k * 3 := by
                  have h1 := (List.getElem?_eq_some_iff.1 hu).1
                  have h2 := frowC_len Dn
                  have h3 := hlen.out
                  omega
                rw [Nat.zero_add, how.cellAt i hi9, List.getElem?_append_left (by exact (List.getElem?_eq_some_iff.1 hu).1)]; exact hu) hgs.1
              exact ⟨fun _ => rfl, h.1, h.2⟩
            have CR : Hid (CompR sc cv ⟨op, num, name, ptr, acap⟩ k ⟨gs, 0, ⟨op, 0, some ⟨gs, 0, none⟩, len k⟩, frowF Dn⟩) := comp_node sc cv ⟨op, num, name, ptr, acap⟩ k Dn gs ⟨h7.out.1, h7.out.2.1⟩ h7.out.2.2 hlen.out hk HR.out.2.2.2.2.2.2.2.2.2.1 (fun vals => by have := HR.out.2.2.2.2.2.2.2.2.2.2.1 vals; simpa [evF] using this) _ _
            have t0 := ST.out.c0
            have t1 := ST.out.c1
            have t2 := ST.out.c2
            obtain ⟨⟨u0, q0⟩, ⟨u1, q1⟩, ⟨u2, q2⟩, f0, f1, f2, rlt⟩ := RX.out
            go_wp2
            refine bodyPost_ret (v := .agg #[.int .i64 op, .int .i64 0, .slice (some ⟨gs, 0, none⟩) (len k) (len k)]) ?_ rfl ?_
            · rw [results_cell1 rfl]
              go_simp
            · have h9 := cpst_store (w := w) (r := w.heap.size + 1) (u0 := .int .i64 op) (u1 := .int .i64 0) (u2 := .slice (some ⟨gs, 0, none⟩) (len k) (len k)) SX.out GX.out FX.out CR.out (Nat.le_succ _) HX.out
              rw [show flen (frowF Dn) = len k by rw [frowF_len]; exact hlen.out] at h9
              exact h9
          | node b1 o1 a1 k1 r1 =>
            have hj : j < len k := by have := HR.out.1; simp [len] at this; omega
            obtain rfl : ptr = some ⟨b, o, none⟩ := HE.out.1 (by rintro rfl; simp [len] at hj)
            obtain ⟨⟨c0, c1, c2, c3⟩, hp1, hk1, hr1⟩ := HR.out.2.1
            have E1 : Hid (ExAt wr b1 o1 a1 k1) := ⟨hp1, hk1⟩
            have N1 := Lib.hid hr1
            clear hp1 hk1 hr1
            have hj1 : (j : Int) < (len k : Int) := by omega
            have hj0 : (0 : Int) ≤ (j : Int) := by omega
            have W1 : Hid ((wfB a1 (len k1) && wfT k1) = true ∧ wfT r1 = true) := by
              have h : ((wfB a1 (len k1) && wfT k1) && wfT r1) = true := HR.out.2.2.2.2.1
              rw [Bool.and_eq_true] at h; exact h
            have Z1 : Hid (sz k1 ≤ 200 ∧ sz r1 ≤ 200) := by
              have e1 : sz (BT.node b1 o1 a1 k1 r1) = 1 + sz k1 + sz r1 := rfl
              have := HR.out.2.2.2.2.2.1
              rw [e1] at this
              exact ⟨by omega, by omega⟩
            go_upto_region 20 with (fail)
            have AB : Hid (Below wr.heap.size wr (wr.alloc (.cells #[.int .i64 a1.op, .int .i64 a1.num, .string a1.name, .slice a1.ptr (len k1) a1.cap] 31)).drew) := ((Below.refl _ _).alloc (Nat.le_refl _) _).drew
            have e0 : (wr.alloc (.cells #[.int .i64 a1.op, .int .i64 a1.num, .string a1.name, .slice a1.ptr (len k1) a1.cap] 31)).cell? ⟨wr.heap.size, 0, none⟩ = some (.int .i64 a1.op) := by simp [go_sem]
            have e1 : (wr.alloc (.cells #[.int .i64 a1.op, .int .i64 a1.num, .string a1.name, .slice a1.ptr (len k1) a1.cap] 31)).cell? ⟨wr.heap.size, 1, none⟩ = some (.int .i64 a1.num) := by simp [go_sem]
            have e2 : (wr.alloc (.cells #[.int .i64 a1.op, .int .i64 a1.num, .string a1.name, .slice a1.ptr (len k1) a1.cap] 31)).cell? ⟨wr.heap.size, 2, none⟩ = some (.string a1.name) := by simp [go_sem]
            have e3 : (wr.alloc (.cells #[.int .i64 a1.op, .int .i64 a1.num, .string a1.name, .slice a1.ptr (len k1) a1.cap] 31)).cell? ⟨wr.heap.size, 3, none⟩ = some (.slice a1.ptr (len k1) a1.cap) := by simp [go_sem]
            have hsz : wc.heap.size ≤ wr.heap.size := ST.out.sz
            have t2 : (wr.alloc (.cells #[.int .i64 a1.op, .int .i64 a1.num, .string a1.name, .slice a1.ptr (len k1) a1.cap] 31)).cell? ⟨fb, 2, none⟩ = some (.slice (some ⟨gs, 0, none⟩) (len k) (len k)) := by
              have hl : fb < wr.heap.size := by omega
              simp [go_sem, ST.out.c2, hl]
            generalize wr.alloc (.cells #[.int .i64 a1.op, .int .i64 a1.num, .string a1.name, .slice a1.ptr (len k1) a1.cap] 31) = wb at *
            have XD := Lib.hid (HR.out.2.2.2.2.2.2.2.2.2.2.2.1.next AB.out)
            have GD : Hid (w.grownBy wb.drew (some vb)) := grw_below HR.out.2.2.2.2.2.2.2.2.2.2.2.2.1 (AB.out.mono HR.out.2.2.2.2.2.2.2.2.2.2.2.2.1.size)
            have NQ : Hid ((a1.op = 6 → ConQ sc kb ib vb pb cs p cap f cv a1.name) ∧ NamF (ConQ sc kb ib vb pb cs p cap f cv) k1 ∧ NamF (ConQ sc kb ib vb pb cs p cap f cv) r1) := ⟨HR.out.2.2.2.2.2.2.1.1.1, HR.out.2.2.2.2.2.2.1.1.2, HR.out.2.2.2.2.2.2.1.2⟩
            have CC := Lib.hid (HR.out.2.2.2.1.1 wb.drew kb ib vb pb cs p cap f cv XD.out (HCS.out.keep (Keeps.of_vm HX.out.s.vm GD.out)) (E1.out.next AB.out) ⟨HR.out.2.2.1.1, HR.out.2.2.1.2.1⟩ W1.out.1 Z1.out.1 NQ.out.1 NQ.out.2.1)
            clear c0 c1 c2 c3
            go_region_with (go_at_call 29; refine CC.out.mono ?_; rintro e w2 ⟨c, rfl, hc, hr, hx2, hg2⟩; have SX := Lib.hid hx2; have CR := Lib.hid hr; have CA := Lib.hid hc; have G2 := Lib.hid hg2; have S2 := Lib.hid (cm_call ST.out AB.out hg2 XD.out.s.vm hgs.1 l3); have m2 := S2.out.c2; obtain ⟨m3, m4, m5⟩ := CmSt.zero (n := len r1) S2.out HR.out.2.2.2.2.2.2.2.1 hj; have m6 := S2.out.ow.frozenAt (j * 3); have m7 := S2.out.ow.frozenAt (j * 3 + 1); have m8 := S2.out.ow.frozenAt (j * 3 + 2); clear hc hr hx2 hg2)
            all_goals (
              go_wp2
              have SS := Lib.hid (CmSt.store (n := len r1) (c := c) S2.out HR.out.2.2.2.2.2.2.2.1 hne hgs.1 hgs.2 (CA.out.mono (Nat.le_trans ST.out.sz AB.out.size)))
              go_roundw
              case rel => (
                obtain ⟨q1, -, q3, q4, -, -, -, q8, -, q10, q11, -, -, q14⟩ := HR.out
                simp [len] at q1
                have l2 := HX.out.s.ix.lt
                have l4 : ∀ i, i < 4 → pb i < w.heap.size := fun i hi => (HX.out.l.m i hi).lt
                refine ⟨j + 1, r1, Dn ++ [c], by go_num, by omega, ?_, q3.2.2, q4.2, W1.out.2, Z1.out.2, NQ.out.2.2, by simp [q8], SS.out.1, ?_, ?_, SX.out.grown SS.out.2 (by simp; omega) (by simp; omega) (by simp; omega) (fun i hi => by have := l4 i hi; simp; omega), grw_new (GD.out.trans G2.out) SS.out.2 (by omega), q14.2.2⟩
                · rw [Nat.add_mul, Nat.one_mul, ← Nat.add_assoc]
                  exact ((N1.out.next AB.out).keep (Keeps.of_vm XD.out.s.vm G2.out)).below (q14.2.2.mono (Nat.le_refl _)) ((Below.refl _ _).grown SS.out.2 (Nat.le_trans (by omega) (Nat.le_trans AB.out.size G2.out.size)) (fun m hm => by cases hm; omega))
                · intro d hd
                  rcases List.mem_append.1 hd with q | q
                  · exact q10 d q
                  · rw [List.mem_singleton.1 q]; exact ⟨CR.out.o1, CR.out.l, CR.out.o⟩
                · intro vals
                  have := q11 vals
                  rw [List.map_append, List.append_assoc]
                  simp only [List.map_cons, List.map_nil, List.singleton_append]
                  rw [CR.out.v vals]
                  exact this)
              case measure => (simp [intOf]; omega))

end Go.Proofs.Ytfoedbfkddoibaa
