/-
  The walk of EvalChain. Printed by wip/mkech.py.
-/
import Derived.Test.YtinbkhchhlkjgaaPl2
import Derived.Test.YtinbkhchhlkjgaaEcr
import Derived.Test.YtinbkhchhlkjgaaEaw
import Derived.Deep.CutBlock
namespace Go.Proofs.Ytinbkhchhlkjgaa
set_option linter.unusedVariables false
set_option linter.unusedSimpArgs false
open Go.ChangeShapes Go.WideShapes Go.ChangeAt Go.RowKit
open Go.Deep (BT)

theorem Try.infoCn : (Try.prog.info? 46).map (fun i => (i.zero, i.size, i.bytes)) = some (some (.agg #[.string ⟨#[]⟩, .int .i64 0, .int .i64 0, .string ⟨#[]⟩, .slice none 0 0]), 5, 72) := by kernel_rfl
def cnC (c : Cn) : List Value := [.string c.name, .int .i64 c.a.op, .int .i64 c.a.num, .string c.a.name, .slice c.a.ptr (len c.k) c.a.cap]
def csC (cs : List Cn) : List Value := cs.flatMap cnC
theorem csC_len (cs : List Cn) : (csC cs).length = cs.length * 5 := by
  induction cs with
  | nil => rfl
  | cons c l ih => simp [csC, cnC] at *; omega
theorem csC_snoc (cs : List Cn) (c : Cn) : csC (cs ++ [c]) = csC cs ++ cnC c := by simp [csC]
theorem csC_name (cs : List Cn) (i : Nat) (c : Cn) (h : cs[i]? = some c) : (csC cs)[i * 5]? = some (.string c.name) := by
  induction cs generalizing i with
  | nil => simp at h
  | cons d l ih =>
    have e : csC (d :: l) = cnC d ++ csC l := by simp [csC]
    cases i with
    | zero => simp at h; subst h; rw [e]; rfl
    | succ i =>
      rw [e, show (i + 1) * 5 = 5 + i * 5 by omega, List.getElem?_append_right (by simp [cnC])]
      have := ih i (by simpa using h)
      simpa [cnC] using this
theorem cs_at {w : World} {g O : Nat} (cs : List Cn) (hc : ∀ j u, (csC cs)[j]? = some u → w.cell? ⟨g, O + j, none⟩ = some u) (hx : ∀ c ∈ cs, ExAt w c.b c.o c.a c.k) : CsAt w cs g O := by
  induction cs generalizing O with
  | nil => trivial
  | cons c l ih =>
    refine ⟨⟨hc 0 _ rfl, hc 1 _ rfl, hc 2 _ rfl, hc 3 _ rfl, hc 4 _ rfl⟩, hx c (List.mem_cons_self ..), ih (O := O + 5) (fun j u hu => ?_) (fun d hd => hx d (List.mem_cons_of_mem _ hd))⟩
    have := hc (5 + j) u (by rw [show csC (c :: l) = cnC c ++ csC l by simp [csC], List.getElem?_append_right (by simp [cnC])]; simpa [cnC] using hu)
    rw [← Nat.add_assoc] at this
    exact this
def FoNe (g : Nat) : Fo → Nat → Prop
  | .nil, _ => True
  | .node b _ _ k r, B => B ≠ g ∧ FoNe g k b ∧ FoNe g r B
theorem FoAt.grownNe {w w' : World} {s : Nat} {T : Fo} {B O : Nat} (h : FoAt w T B O) (hn : FoNe s T B) (hg : w.grownBy w' (some s)) : FoAt w' T B O := by
  induction T generalizing B O with
  | nil => trivial
  | node b o a k r ihk ihr =>
    obtain ⟨⟨h0, h1, h2, h3⟩, hp, hk, hr⟩ := h
    obtain ⟨n0, nk, nr⟩ := hn
    have key : ∀ (i : Nat) (u : Value), w.cell? ⟨B, i, none⟩ = some u → w'.cell? ⟨B, i, none⟩ = some u := fun i u q => by
      rw [World.cell?_of_block (hg.block B (block_lt_of_cell q) (fun e => n0 (Option.some.inj e)))]; exact q
    exact ⟨⟨key _ _ h0, key _ _ h1, key _ _ h2, key _ _ h3⟩, hp, ihk hk nk, ihr hr nr⟩
theorem ne_of_cells {w : World} {a b : Nat} {x : Int} {s : ByteArray} (h : w.cell? ⟨a, 0, none⟩ = some (.int .i64 x)) (k : w.cell? ⟨b, 0, none⟩ = some (.string s)) : a ≠ b := by
  rintro rfl; rw [h] at k; cases k
theorem step_grown {w w' : World} {g : Nat} {nm s : ByteArray} {c : Ch} (hs : stepK nm c) (hx : ExAt w c.b c.o c.a c.k) (h0 : w.cell? ⟨g, 0, none⟩ = some (.string s)) (hg : w.grownBy w' (some g)) : ExAt w' c.b c.o c.a c.k := by
  obtain ⟨g0, c1, c2, ⟨g1, y1, y2, rfl, rfl, rfl⟩, ⟨g2, y3, y4, rfl, rfl, rfl⟩, rfl⟩ := hs
  refine ⟨hx.1, hx.2.grownNe ?_ hg⟩
  obtain ⟨⟨a0, -⟩, -, ⟨⟨a1, -⟩, -⟩, -, -, ⟨⟨a2, -⟩, -⟩, -⟩ := hx.2
  have n0 := ne_of_cells a0 h0
  have n1 := ne_of_cells a1 h0
  have n2 := ne_of_cells a2 h0
  exact ⟨n0, ⟨n1, trivial, n1, trivial, trivial⟩, n0, ⟨n2, trivial, n2, trivial, trivial⟩, trivial⟩
theorem av_nilC (w : World) : AvV w [] none := ⟨⟨0, 0, fun q => absurd rfl q, trivial⟩, (fun c hc => by cases hc), Nat.zero_le _⟩
structure ChS (w0 : World) (v : Value) (cs : List Cn) (wr : World) : Prop where
  own : wr.ownsRow w0.heap.size 46 5 v cs.length (csC cs)
  chn : Chain cs
  exs : ∀ c ∈ cs, ExAt wr c.b c.o c.a c.k
  bel : Below w0.heap.size w0 wr
theorem ChS.next {w0 wr w' : World} {v : Value} {cs : List Cn} (h : ChS w0 v cs wr) (hb : Below wr.heap.size wr w') : ChS w0 v cs w' :=
  ⟨own_below h.own hb, h.chn, fun c hc => (h.exs c hc).next hb, h.bel.trans (hb.mono h.bel.size)⟩
theorem ChS.grow {w0 w1 w' : World} {g cap j : Nat} {v' : Value} {cs : List Cn} {c : Ch} (h : ChS w0 (.slice (some ⟨g, 0, none⟩) cs.length cap) cs w1) (hj : cs.length = j + 1) (hs : stepK (cname j) c) (hx : ExAt w1 c.b c.o c.a c.k)
    (hown : w'.ownsRow w0.heap.size 46 5 v' (cs.length + 1) (csC cs ++ [.string (cname (j + 1)), .int .i64 c.a.op, .int .i64 c.a.num, .string c.a.name, .slice c.a.ptr (len c.k) c.a.cap])) (hg : w1.grownBy w' (some g)) : ChS w0 v' (cs ++ [⟨cname (j + 1), c.b, c.o, c.a, c.k⟩]) w' := by
  have c0 : w1.cell? ⟨g, 0, none⟩ = some (.string (cname 0)) := by
    have h1 := h.own.cellAt 0 (by rw [hj]; omega)
    have hc : cs[0]? = some cs[0] := List.getElem?_eq_getElem (by omega)
    rw [h1]
    have := csC_name cs 0 _ hc
    rw [Nat.zero_mul] at this
    rw [this, (h.chn 0 _ hc).nm]
  refine ⟨?_, ?_, ?_, ?_⟩
  · rw [csC_snoc, List.length_append]; exact hown
  · intro i d hd
    by_cases hi : i < cs.length
    · rw [List.getElem?_append_left hi] at hd; exact h.chn i d hd
    · rw [List.getElem?_append_right (by omega)] at hd
      have hi2 : i - cs.length = 0 := by
        have := (List.getElem?_eq_some_iff.1 hd).1
        simp at this; omega
      rw [hi2] at hd
      obtain rfl : _ = d := Option.some.inj hd
      obtain rfl : i = j + 1 := by omega
      exact ⟨rfl, fun q => by omega, fun _ => hs⟩
  · intro d hd
    rcases List.mem_append.1 hd with hd | hd
    · obtain ⟨i, hi, rfl⟩ := List.getElem_of_mem hd
      have hc := h.chn i cs[i] (List.getElem?_eq_getElem hi)
      have hxd := h.exs _ hd
      by_cases h0 : i = 0
      · have := (hc.zero h0).2
        refine ⟨hxd.1, ?_⟩
        rw [this]; trivial
      · exact step_grown (hc.more (by omega)) hxd c0 hg
    · rw [List.mem_singleton.1 hd]
      exact step_grown hs hx c0 hg
  · exact h.bel.grown hg h.bel.size (fun m hm => (h.own.lt m hm).1)
/-- What a slot holds. -/
inductive We where
  | eq (v : Value)
  | val (X : Kd)
  | row2 (X Y : Kd)
  | byt (a b : UInt8)
  | cn (X : Kd) (s : ByteArray)
  | rowC (X : Kd) (s : ByteArray)
  | lgt (n : Nat)
  | any
def We.ok : We → Value → World → Prop
  | .eq u, v, _ => v = u
  | .val X, v, w => valG X v w
  | .row2 X Y, v, w => rowG2 X Y v w
  | .byt a b, v, w => ∃ g, v = .slice (some ⟨g, 0, none⟩) 2 2 ∧ w.cell? ⟨g, 0, none⟩ = some (.int .u8 a.toNat) ∧ w.cell? ⟨g, 1, none⟩ = some (.int .u8 b.toNat)
  | .cn X s, v, w => ∃ c : Ch, X c ∧ v = .agg #[.string s, .int .i64 c.a.op, .int .i64 c.a.num, .string c.a.name, .slice c.a.ptr (len c.k) c.a.cap] ∧ ExAt w c.b c.o c.a c.k
  | .rowC X s, v, w => ∃ (g : Nat) (c : Ch), X c ∧ v = .slice (some ⟨g, 0, none⟩) 1 1 ∧ (∀ q u, ([.string s, .int .i64 c.a.op, .int .i64 c.a.num, .string c.a.name, .slice c.a.ptr (len c.k) c.a.cap])[q]? = some u → w.cell? ⟨g, q, none⟩ = some u) ∧ ExAt w c.b c.o c.a c.k
  | .lgt n, v, _ => ∃ p c, v = .slice p n c
  | .any, _, _ => True
theorem cell_ext {w w' : World} {p : Addr} {u : Value} (h : w.cell? p = some u) (he : Ext w w') : w'.cell? p = some u := by rw [Below.cell he (block_lt_of_cell h)]; exact h
theorem We.ext {d : We} {v : Value} {w w' : World} (h : d.ok v w) (he : Ext w w') : d.ok v w' := by
  cases d with
  | eq u => exact h
  | val X => exact valG.ext h he
  | row2 X Y => exact rowG2.ext h he
  | byt a b => obtain ⟨g, h1, h2, h3⟩ := h; exact ⟨g, h1, cell_ext h2 he, cell_ext h3 he⟩
  | cn X s => obtain ⟨c, h1, h2, h3⟩ := h; exact ⟨c, h1, h2, h3.next he⟩
  | rowC X s => obtain ⟨g, c, h1, h2, h3, h4⟩ := h; exact ⟨g, c, h1, h2, fun q u hu => cell_ext (h3 q u hu) he, h4.next he⟩
  | lgt n => exact h
  | any => trivial
theorem byt_new (w : World) (a b : UInt8) : (w.alloc (.cells #[.int .u8 a.toNat, .int .u8 b.toNat] 5)).cell? ⟨w.heap.size, 0, none⟩ = some (.int .u8 a.toNat) ∧ (w.alloc (.cells #[.int .u8 a.toNat, .int .u8 b.toNat] 5)).cell? ⟨w.heap.size, 1, none⟩ = some (.int .u8 b.toNat) := ⟨by simp [go_sem], by simp [go_sem]⟩
theorem rowc_new (w : World) (s : ByteArray) (c : Ch) : ∀ q u, ([.string s, .int .i64 c.a.op, .int .i64 c.a.num, .string c.a.name, .slice c.a.ptr (len c.k) c.a.cap] : List Value)[q]? = some u → (w.alloc (.cells #[.string s, .int .i64 c.a.op, .int .i64 c.a.num, .string c.a.name, .slice c.a.ptr (len c.k) c.a.cap] 46)).cell? ⟨w.heap.size, q, none⟩ = some u := by
  intro q u hu
  match q with
  | 0 => simp at hu; subst hu; simp [go_sem]
  | 1 => simp at hu; subst hu; simp [go_sem]
  | 2 => simp at hu; subst hu; simp [go_sem]
  | 3 => simp at hu; subst hu; simp [go_sem]
  | 4 => simp at hu; subst hu; simp [go_sem]
  | q + 5 => simp at hu
def chT : List (Nat × Nat) := [(27, 0), (28, 1), (29, 2), (30, 3), (31, 4), (32, 5), (33, 6), (34, 7), (35, 8), (36, 9), (37, 10), (38, 11), (39, 12), (40, 13), (41, 14), (42, 15), (43, 16), (44, 17), (45, 18), (46, 19), (47, 20), (48, 21), (49, 22), (50, 23), (51, 24), (52, 25), (53, 26), (54, 27), (55, 28), (56, 29), (57, 30), (58, 31), (4, 32)]
def chW (vl : Value) (j g : Nat) : List We := [.eq vl, .eq vl, .eq (.int .i64 ((j : Int) + 1)), .eq (.int .i64 (j : Int)), .eq (.pointer (some ⟨g, j * 5, none⟩)), .eq (.pointer (some ⟨g, j * 5, none⟩)), .eq (.string (cname j)), .eq (.string ((cname j).extract 0 1)), .eq (.int .i64 ((j : Int) + 1)), .eq (.int .i64 (((j + 1) % 26 : Nat) : Int)), .eq (.int .i64 ((97 + (j + 1) % 26 : Nat) : Int)), .eq (.int .u8 ((UInt8.ofNat (97 + (j + 1) % 26)).toNat : Int)), .eq (.int .i64 ((j : Int) + 1)), .eq (.int .i64 (((j + 1) / 26 : Nat) : Int)), .eq (.int .i64 ((48 + (j + 1) / 26 : Nat) : Int)), .eq (.int .u8 ((UInt8.ofNat (48 + (j + 1) / 26)).toNat : Int)), .byt (UInt8.ofNat (97 + (j + 1) % 26)) (UInt8.ofNat (48 + (j + 1) / 26)), .eq (.string ⟨#[UInt8.ofNat (97 + (j + 1) % 26), UInt8.ofNat (48 + (j + 1) / 26)]⟩), .eq (.string (cname (j + 1))), .val (oneK (yC (cname j))), .val (oneK (yC (cname j))), .row2 (oneK (yC (cname j))) (oneK (yC (cname j))), .val (nodK2 8 (oneK (yC (cname j))) (oneK (yC (cname j)))), .val (oneK (yC (cname j))), .val (oneK (yC (cname j))), .row2 (oneK (yC (cname j))) (oneK (yC (cname j))), .val (nodK2 9 (oneK (yC (cname j))) (oneK (yC (cname j)))), .row2 (nodK2 8 (oneK (yC (cname j))) (oneK (yC (cname j)))) (nodK2 9 (oneK (yC (cname j))) (oneK (yC (cname j)))), .val (stepK (cname j)), .cn (stepK (cname j)) (cname (j + 1)), .rowC (stepK (cname j)) (cname (j + 1)), .lgt (j + 2), .lgt (j + 2)]
def chG (vl : Value) (j g : Nat) (i : Nat) (v : Value) (w : World) : Prop := ((chW vl j g).getD i .any).ok v w
theorem chG_ext (vl : Value) (j g : Nat) (i : Nat) (v : Value) (w w' : World) (h : chG vl j g i v w) (he : Ext w w') : chG vl j g i v w' := We.ext h he
def chF1 (w0 : World) (j : Nat) (cs : List Cn) (g : Nat) (v : Value) (w1 w' : World) : Prop := ∃ c : Ch, stepK (cname j) c ∧ ExAt w1 c.b c.o c.a c.k ∧ w'.ownsRow w0.heap.size 46 5 v (cs.length + 1) (csC cs ++ [.string (cname (j + 1)), .int .i64 c.a.op, .int .i64 c.a.num, .string c.a.name, .slice c.a.ptr (len c.k) c.a.cap]) ∧ w1.grownBy w' (some g)
def chF (w0 : World) (j : Nat) (cs : List Cn) (vl : Value) (g : Nat) (x : Nat → Value) (w1 w' : World) : Prop := chF1 w0 j cs g (x 58) w1 w' ∧ (x 4 = vl ∨ x 4 = x 58)
theorem rn_app (ρ : Operand → Value) (d : Option Tmp) (ty : TypeId) (pos : String) (af : Array Edge) (gd : Option (Nat × Bool)) (w w' : World) (x y : Operand) (t : TypeId) (u v r : Value) (hx : ρ x = u) (hy : ρ y = v) (hr : (Builtin.append_ #[t, t] ty #[u, v]).run Try.prog w = .ok r w') :
    (execOp ρ ⟨d, .call { callee := .builtin .append, args := #[x, y], argTypes := #[t, t] }, ty, pos, af, gd⟩).run Try.prog w = .ok (.value r) w' := by
  simp only [execOp, resolve, invoke, builtin, Sem.run_bind, Sem.run_pure, Result.andThen_ok, List.map_toArray, List.map_cons, List.map_nil, hx, hy, hr]
theorem and_31 (n : Int) : bits .and .i64 n 31 = n % 32 := by
  have h127 : (BitVec.ofInt 64 31).toNat = 2 ^ 5 - 1 := by decide
  have key : (BitVec.ofInt 64 n &&& BitVec.ofInt 64 31).toNat = (n % ((2 ^ 64 : Nat) : Int)).toNat % 2 ^ 5 := by
    rw [BitVec.toNat_and, BitVec.toNat_ofInt, h127, Nat.and_two_pow_sub_one_eq_mod]
  show IntKind.i64.wrap ((BitVec.ofInt 64 n &&& BitVec.ofInt 64 31).toNat : Nat) = n % 32
  rw [key, IntKind.wrap_i64]
  omega
theorem arith (j : Nat) (hj : j < 32) : IntKind.i64.wrap ((j : Int) + 1 - 1) = (j : Int) ∧ ((j : Int) + 1).tmod 26 = (((j + 1) % 26 : Nat) : Int) ∧ IntKind.i64.wrap (97 + (((j + 1) % 26 : Nat) : Int)) = ((97 + (j + 1) % 26 : Nat) : Int) ∧
    IntKind.u8.wrap ((97 + (j + 1) % 26 : Nat) : Int) = ((UInt8.ofNat (97 + (j + 1) % 26)).toNat : Int) ∧ IntKind.i64.wrap (((j : Int) + 1).tdiv 26) = (((j + 1) / 26 : Nat) : Int) ∧ IntKind.i64.wrap (48 + (((j + 1) / 26 : Nat) : Int)) = ((48 + (j + 1) / 26 : Nat) : Int) ∧
    IntKind.u8.wrap ((48 + (j + 1) / 26 : Nat) : Int) = ((UInt8.ofNat (48 + (j + 1) / 26)).toNat : Int) := by
  have h : ∀ j : Fin 32, IntKind.i64.wrap ((j.val : Int) + 1 - 1) = (j.val : Int) ∧ ((j.val : Int) + 1).tmod 26 = (((j.val + 1) % 26 : Nat) : Int) ∧ IntKind.i64.wrap (97 + (((j.val + 1) % 26 : Nat) : Int)) = ((97 + (j.val + 1) % 26 : Nat) : Int) ∧
    IntKind.u8.wrap ((97 + (j.val + 1) % 26 : Nat) : Int) = ((UInt8.ofNat (97 + (j.val + 1) % 26)).toNat : Int) ∧ IntKind.i64.wrap (((j.val : Int) + 1).tdiv 26) = (((j.val + 1) / 26 : Nat) : Int) ∧ IntKind.i64.wrap (48 + (((j.val + 1) / 26 : Nat) : Int)) = ((48 + (j.val + 1) / 26 : Nat) : Int) ∧
    IntKind.u8.wrap ((48 + (j.val + 1) / 26 : Nat) : Int) = ((UInt8.ofNat (48 + (j.val + 1) / 26)).toNat : Int) := by decide +kernel
  exact h ⟨j, hj⟩
theorem cname_cat (j : Nat) (hj : j < 31) : (cname j).extract 0 1 ++ ⟨#[UInt8.ofNat (97 + (j + 1) % 26), UInt8.ofNat (48 + (j + 1) / 26)]⟩ = cname (j + 1) ∧ ((cname j).extract 0 1).size + (⟨#[UInt8.ofNat (97 + (j + 1) % 26), UInt8.ofNat (48 + (j + 1) / 26)]⟩ : ByteArray).size ≤ 100 ∧ 1 ≤ (cname j).size := by
  have h : ∀ j : Fin 31, (cname j.val).extract 0 1 ++ ⟨#[UInt8.ofNat (97 + (j.val + 1) % 26), UInt8.ofNat (48 + (j.val + 1) / 26)]⟩ = cname (j.val + 1) ∧ ((cname j.val).extract 0 1).size + (⟨#[UInt8.ofNat (97 + (j.val + 1) % 26), UInt8.ofNat (48 + (j.val + 1) / 26)]⟩ : ByteArray).size ≤ 100 ∧ 1 ≤ (cname j.val).size := by decide +kernel
  exact h ⟨j, hj⟩
theorem chs_start (w w1 : World) (hb : Below w.heap.size w w1) : ChS w (.slice (some ⟨w1.heap.size, 0, none⟩) 1 1) [⟨cname 0, 0, 0, ⟨1, 1, ⟨#[]⟩, none, 0⟩, .nil⟩] (w1.alloc (.cells #[.string ⟨#[99]⟩, .int .i64 1, .int .i64 1, .string ⟨#[]⟩, .slice none 0 0] 46)) := by
  refine ⟨World.ownsRow_lit w1 #[.string ⟨#[99]⟩, .int .i64 1, .int .i64 1, .string ⟨#[]⟩, .slice none 0 0] 1 hb.size (by decide) rfl, ?_, ?_, hb.alloc hb.size _⟩
  · intro i c hc
    match i with
    | 0 => obtain rfl : _ = c := Option.some.inj hc; exact ⟨rfl, fun _ => ⟨rfl, rfl⟩, fun q => by omega⟩
    | i + 1 => simp at hc
  · intro c hc
    rw [List.mem_singleton.1 hc]
    exact ⟨fun q => absurd rfl q, trivial⟩
theorem chs_csv {w wr : World} {g cap j : Nat} {cs : List Cn} (h : ChS w (.slice (some ⟨g, 0, none⟩) cs.length cap) cs wr) (hl : cs.length ≤ 32) : CsV wr cs (some ⟨g, 0, none⟩) := by
  refine ⟨⟨g, 0, fun _ => rfl, cs_at cs (fun j u hu => ?_) h.exs⟩, ?_, by omega⟩
  · have hj := (List.getElem?_eq_some_iff.1 hu).1
    rw [csC_len] at hj
    rw [Nat.zero_add, h.own.cellAt j hj]; exact hu
  · intro c hc
    obtain ⟨i, hi, rfl⟩ := List.getElem_of_mem hc
    have hq := h.chn i cs[i] (List.getElem?_eq_getElem hi)
    have hk := cname_ok i (by omega)
    refine ⟨by rw [hq.nm]; omega, ?_⟩
    by_cases h0 : i = 0
    · rw [(hq.zero h0).1, (hq.zero h0).2]
      exact ⟨⟨by decide, by decide, by decide, by decide⟩, trivial⟩
    · have hk2 := cname_ok (i - 1) (by omega)
      exact (step_facts _ hk2.1 hk2.2 _ (hq.more (by omega))).2.1

set_option maxHeartbeats 2000000 in
set_option maxRecDepth 100000 in
theorem walk_evalChain (n : Int) (w : World) (_ : (Lit.int .i64 n).wf = true) : Calls Try.prog 6 #[.int .i64 n] w fun e w' => e = .returned (.bool true) ∧ Below w.heap.size w w' := by
  obtain ⟨i0, hi, hi0, hi1, hi2⟩ := info_parts Try.infoCn
  obtain ⟨k, hk, hk31⟩ : ∃ k : Nat, bits .and .i64 n 31 = (k : Int) ∧ k ≤ 31 := ⟨(n % 32).toNat, by rw [and_31]; omega, by omega⟩
  have AW := Lib.hid eawake_any
  go_enter Try.func6, Try.ntmps6
  go_wp2_with fail
  clear hk
  refine (enum_any 1 w).mono ?_
  rintro e w1 ⟨rfl, hb⟩
  have CH0 := Lib.hid (chs_start w w1 hb)
  clear hb
  go_wp2_with fail
  go_loopw [4, 5, 6, 7] (fun l wt i _ wr => ∃ (vx : Value) (j : Nat) (P : Int) (cs : List Cn), vx = l ∧ wt = .int .i64 P ∧ i = .int .i64 ((j : Int) + 1) ∧ j ≤ k ∧ 0 ≤ P ∧ P ≤ 2147483648 ∧ Hid (cs.length = j + 1 ∧ P = ((2 ^ j : Nat) : Int) ∧ ChS w vx cs wr)) (fun _ _ i _ _ => 33 - (intOf i).toNat)
  case atStart => exact ⟨_, 0, 1, _, rfl, rfl, rfl, Nat.zero_le _, by omega, by omega, rfl, rfl, CH0.out⟩
  case round =>
    obtain ⟨vx, j, P, cs, rfl, rfl, rfl, hj, hP0, hP1, HR⟩ := hrel
    obtain ⟨g, cap, hvx, -, -⟩ := HR.out.2.2.own.form (by rw [HR.out.1]; omega)
    rw [HR.out.1] at hvx
    subst hvx
    have CH : Hid (ChS w (.slice (some ⟨g, 0, none⟩) cs.length cap) cs wr) := by have := HR.out.2.2; rw [← HR.out.1] at this; exact this
    have HL := Lib.hid HR.out.1
    have HP := Lib.hid HR.out.2.1
    have CL0 : Hid (∀ i, i < cs.length → wr.cell? ⟨g, i * 5, none⟩ = some (.string (cname i))) := by
      intro i hi
      have hc : cs[i]? = some cs[i] := List.getElem?_eq_getElem hi
      rw [CH.out.own.cellAt (i * 5) (by omega), csC_name cs i _ hc, (CH.out.chn i _ hc).nm]
    clear HR
    by_cases hlt : j < k
    · have hle : (j : Int) + 1 ≤ (k : Int) := by omega
      have AR := Lib.hid (arith j (by omega))
      have hw1 := AR.out.1
      have CAT : Hid (_ ∧ _) := ⟨(cname_cat j (by omega)).1, (cname_cat j (by omega)).2.1⟩
      have NZ := Lib.hid (cname_cat j (by omega)).2.2
      have c0 := CL0.out j (by rw [HL.out]; omega)
      have hjn : (j : Int) < ((j + 1 : Nat) : Int) := by omega
      have hj0 : (0 : Int) ≤ (j : Int) := by omega
      go_wp2_with fail
      refine (eattr_any (cname j) wr).mono ?_
      rintro e w2 ⟨rfl, hb⟩
      have CH2 := Lib.hid (CH.out.next hb)
      have CEL0 : Hid (w2.cell? ⟨g, j * 5, none⟩ = some (.string (cname j))) := cell_ext c0 hb
      clear hb c0 hw1
      have CH3 : Hid (ChS w (.slice (some ⟨g, 0, none⟩) cs.length cap) cs (w2.alloc (.cells #[.int .i64 6, .int .i64 0, .string (cname j), .slice none 0 0] 26))) := CH2.out.next (Ext.alloc _ _)
      have CEL1 : Hid ((w2.alloc (.cells #[.int .i64 6, .int .i64 0, .string (cname j), .slice none 0 0] 26)).cell? ⟨g, j * 5, none⟩ = some (.string (cname j))) := cell_ext CEL0.out (Ext.alloc _ _)
      have BX0 : Hid ((w2.alloc (.cells #[.int .i64 6, .int .i64 0, .string (cname j), .slice none 0 0] 26)).cell? ⟨w2.heap.size, 0, none⟩ = some (.int .i64 6) ∧ (w2.alloc (.cells #[.int .i64 6, .int .i64 0, .string (cname j), .slice none 0 0] 26)).cell? ⟨w2.heap.size, 1, none⟩ = some (.int .i64 0) ∧ (w2.alloc (.cells #[.int .i64 6, .int .i64 0, .string (cname j), .slice none 0 0] 26)).cell? ⟨w2.heap.size, 2, none⟩ = some (.string (cname j)) ∧ (w2.alloc (.cells #[.int .i64 6, .int .i64 0, .string (cname j), .slice none 0 0] 26)).cell? ⟨w2.heap.size, 3, none⟩ = some (.slice none 0 0)) := ⟨by simp [go_sem], by simp [go_sem], by simp [go_sem], by simp [go_sem]⟩
      go_upto_region 8 with (fail)
      generalize w2.alloc (.cells #[.int .i64 6, .int .i64 0, .string (cname j), .slice none 0 0] 26) = y0 at *
      generalize w2.heap.size = yb at *
      have CEL : Hid (∀ w, Ext y0.drew w → w.cell? ⟨g, j * 5, none⟩ = some (.string (cname j))) := fun w h => cell_ext (w := y0.drew) CEL1.out h
      have BXY : Hid (∀ w, Ext y0.drew w → w.cell? ⟨yb, 0, none⟩ = some (.int .i64 6) ∧ w.cell? ⟨yb, 1, none⟩ = some (.int .i64 0) ∧ w.cell? ⟨yb, 2, none⟩ = some (.string (cname j)) ∧ w.cell? ⟨yb, 3, none⟩ = some (.slice none 0 0)) := fun w h => ⟨cell_ext (w := y0.drew) BX0.out.1 h, cell_ext (w := y0.drew) BX0.out.2.1 h, cell_ext (w := y0.drew) BX0.out.2.2.1 h, cell_ext (w := y0.drew) BX0.out.2.2.2 h⟩
      have CHW : Hid (∀ w', Ext y0.drew w' → ChS w (.slice (some ⟨g, 0, none⟩) cs.length cap) cs w') := fun w' h => CH3.out.next ((Below.refl y0.heap.size y0).drew.trans h)
      refine plan_tbl2 chT (chG (.slice (some ⟨g, 0, none⟩) (j + 1) cap) j g) 31 (chF w j cs (.slice (some ⟨g, 0, none⟩) (j + 1) cap) g) (by kernel_rfl) (by kernel_rfl) (chG_ext _ _ _) (fun i => decide (i < 31)) (by kernel_rfl) ?hst ?hpu ?hla ?hfin
      case hst =>
        intro i o ho hz
        match i, ho with
        | 0, ho => obtain rfl := Option.some.inj ho; intro a w hx hol hdep hwar; exact ⟨rfl, st_run (run_move a.eval _ _ _ _ _ w _ _ (hwar 4 32 rfl rfl)) (Ext.refl _) (rfl)⟩
        | 1, ho => obtain rfl := Option.some.inj ho; intro a w hx hol hdep hwar; exact ⟨rfl, st_run (run_move a.eval _ _ _ _ _ w _ _ (hwar 4 32 rfl rfl)) (Ext.refl _) (rfl)⟩
        | 2, ho => obtain rfl := Option.some.inj ho; intro a w hx hol hdep hwar; exact ⟨rfl, st_run (run_move a.eval _ _ _ _ _ w _ _ (hol 6 rfl)) (Ext.refl _) (rfl)⟩
        | 3, ho => obtain rfl := Option.some.inj ho; intro a w hx hol hdep hwar; exact ⟨rfl, st_run (rn_sub a.eval _ _ _ _ _ w _ _ _ (hdep 29 2 rfl rfl) rfl AR.out.1) (Ext.refl _) (rfl)⟩
        | 4, ho => obtain rfl := Option.some.inj ho; intro a w hx hol hdep hwar; exact ⟨rfl, st_run (rn_idx a.eval _ _ _ _ _ w _ _ g j (j + 1) cap (hdep 28 1 rfl rfl) (hdep 30 3 rfl rfl) (Nat.lt_succ_self _)) (Ext.refl _) (rfl)⟩
        | 5, ho => obtain rfl := Option.some.inj ho; intro a w hx hol hdep hwar; exact ⟨rfl, st_run (rn_fld a.eval _ _ _ _ _ w _ _ _ (hdep 31 4 rfl rfl)) (Ext.refl _) (rfl)⟩
        | 6, ho => obtain rfl := Option.some.inj ho; intro a w hx hol hdep hwar; exact ⟨rfl, st_run (rn_loadS a.eval _ _ _ _ _ w _ _ _ _ (hdep 32 5 rfl rfl) (CEL.out w hx)) (Ext.refl _) (rfl)⟩
        | 7, ho => obtain rfl := Option.some.inj ho; intro a w hx hol hdep hwar; exact ⟨rfl, st_run (rn_sl a.eval _ _ _ _ _ w _ _ (hdep 33 6 rfl rfl) rfl NZ.out) (Ext.refl _) (rfl)⟩
        | 8, ho => obtain rfl := Option.some.inj ho; intro a w hx hol hdep hwar; exact ⟨rfl, st_run (run_move a.eval _ _ _ _ _ w _ _ (hol 6 rfl)) (Ext.refl _) (rfl)⟩
        | 9, ho => obtain rfl := Option.some.inj ho; intro a w hx hol hdep hwar; exact ⟨rfl, st_run (rn_rem a.eval _ _ _ _ _ w _ _ _ (hdep 35 8 rfl rfl) rfl AR.out.2.1) (Ext.refl _) (rfl)⟩
        | 10, ho => obtain rfl := Option.some.inj ho; intro a w hx hol hdep hwar; exact ⟨rfl, st_run (rn_add a.eval _ _ _ _ _ w 97 _ _ _ (hdep 36 9 rfl rfl) rfl AR.out.2.2.1) (Ext.refl _) (rfl)⟩
        | 11, ho => obtain rfl := Option.some.inj ho; intro a w hx hol hdep hwar; exact ⟨rfl, st_run (rn_conv a.eval _ _ _ _ _ w _ _ _ (hdep 37 10 rfl rfl) AR.out.2.2.2.1) (Ext.refl _) (rfl)⟩
        | 12, ho => obtain rfl := Option.some.inj ho; intro a w hx hol hdep hwar; exact ⟨rfl, st_run (run_move a.eval _ _ _ _ _ w _ _ (hol 6 rfl)) (Ext.refl _) (rfl)⟩
        | 13, ho => obtain rfl := Option.some.inj ho; intro a w hx hol hdep hwar; exact ⟨rfl, st_run (rn_quo a.eval _ _ _ _ _ w _ _ _ (hdep 39 12 rfl rfl) rfl AR.out.2.2.2.2.1) (Ext.refl _) (rfl)⟩
        | 14, ho => obtain rfl := Option.some.inj ho; intro a w hx hol hdep hwar; exact ⟨rfl, st_run (rn_add a.eval _ _ _ _ _ w 48 _ _ _ (hdep 40 13 rfl rfl) rfl AR.out.2.2.2.2.2.1) (Ext.refl _) (rfl)⟩
        | 15, ho => obtain rfl := Option.some.inj ho; intro a w hx hol hdep hwar; exact ⟨rfl, st_run (rn_conv a.eval _ _ _ _ _ w _ _ _ (hdep 41 14 rfl rfl) AR.out.2.2.2.2.2.2) (Ext.refl _) (rfl)⟩
        | 16, ho => obtain rfl := Option.some.inj ho; intro a w hx hol hdep hwar; exact ⟨rfl, st_run (rn_bb a.eval _ _ _ _ _ w _ _ _ _ (hdep 38 11 rfl rfl) (hdep 42 15 rfl rfl)) (Ext.alloc _ _) (⟨_, rfl, byt_new _ _ _⟩)⟩
        | 17, ho => obtain rfl := Option.some.inj ho; intro a w hx hol hdep hwar; obtain ⟨gb, k1, k2, k3⟩ := (show We.ok (.byt (UInt8.ofNat (97 + (j + 1) % 26)) (UInt8.ofNat (48 + (j + 1) / 26))) (a.tmps.getD 43 undef) w from hdep 43 16 rfl rfl); exact ⟨rfl, st_run (rn_cvs a.eval _ _ _ _ _ w _ gb _ _ k1 k2 k3) (Ext.refl _) rfl⟩
        | 18, ho => obtain rfl := Option.some.inj ho; intro a w hx hol hdep hwar; exact ⟨rfl, st_run (rn_cat a.eval _ _ _ _ _ w _ _ _ _ (hdep 34 7 rfl rfl) (hdep 44 17 rfl rfl) CAT.out.2) (Ext.refl _) (congrArg Value.string CAT.out.1)⟩
        | 19, ho => obtain rfl := Option.some.inj ho; intro a w hx hol hdep hwar; have q := BXY.out w hx; exact ⟨rfl, st_run (run_loadE a.eval _ _ _ _ _ w _ _ _ _ _ _ (hol 7 rfl) q.1 q.2.1 q.2.2.1 q.2.2.2) (Ext.refl _) ⟨yC (cname j), rfl, rfl, ⟨fun q => absurd rfl q, trivial⟩⟩⟩
        | 20, ho => obtain rfl := Option.some.inj ho; intro a w hx hol hdep hwar; have q := BXY.out w hx; exact ⟨rfl, st_run (run_loadE a.eval _ _ _ _ _ w _ _ _ _ _ _ (hol 7 rfl) q.1 q.2.1 q.2.2.1 q.2.2.2) (Ext.refl _) ⟨yC (cname j), rfl, rfl, ⟨fun q => absurd rfl q, trivial⟩⟩⟩
        | 21, ho => obtain rfl := Option.some.inj ho; intro a w hx hol hdep hwar; obtain ⟨v, w', h1, h2, h3⟩ := build2 a.eval _ _ _ _ _ w (show valG (oneK (yC (cname j))) (a.eval (.tmp 46)) w from hdep 46 19 rfl rfl) (show valG (oneK (yC (cname j))) (a.eval (.tmp 47)) w from hdep 47 20 rfl rfl); exact ⟨rfl, st_run h1 h2 h3⟩
        | 22, ho => obtain rfl := Option.some.inj ho; intro a w hx hol hdep hwar; exact ⟨rfl, st_enter (run_call a.eval _ _ _ _ _ w _ _ _ Try.func18 (by kernel_rfl) rfl rfl (map2 _ _ _)) (node2 8 (show rowG2 (oneK (yC (cname j))) (oneK (yC (cname j))) (a.tmps.getD 48 undef) w from hdep 48 21 rfl rfl))⟩
        | 23, ho => obtain rfl := Option.some.inj ho; intro a w hx hol hdep hwar; have q := BXY.out w hx; exact ⟨rfl, st_run (run_loadE a.eval _ _ _ _ _ w _ _ _ _ _ _ (hol 7 rfl) q.1 q.2.1 q.2.2.1 q.2.2.2) (Ext.refl _) ⟨yC (cname j), rfl, rfl, ⟨fun q => absurd rfl q, trivial⟩⟩⟩
        | 24, ho => obtain rfl := Option.some.inj ho; intro a w hx hol hdep hwar; have q := BXY.out w hx; exact ⟨rfl, st_run (run_loadE a.eval _ _ _ _ _ w _ _ _ _ _ _ (hol 7 rfl) q.1 q.2.1 q.2.2.1 q.2.2.2) (Ext.refl _) ⟨yC (cname j), rfl, rfl, ⟨fun q => absurd rfl q, trivial⟩⟩⟩
        | 25, ho => obtain rfl := Option.some.inj ho; intro a w hx hol hdep hwar; obtain ⟨v, w', h1, h2, h3⟩ := build2 a.eval _ _ _ _ _ w (show valG (oneK (yC (cname j))) (a.eval (.tmp 50)) w from hdep 50 23 rfl rfl) (show valG (oneK (yC (cname j))) (a.eval (.tmp 51)) w from hdep 51 24 rfl rfl); exact ⟨rfl, st_run h1 h2 h3⟩
        | 26, ho => obtain rfl := Option.some.inj ho; intro a w hx hol hdep hwar; exact ⟨rfl, st_enter (run_call a.eval _ _ _ _ _ w _ _ _ Try.func18 (by kernel_rfl) rfl rfl (map2 _ _ _)) (node2 9 (show rowG2 (oneK (yC (cname j))) (oneK (yC (cname j))) (a.tmps.getD 52 undef) w from hdep 52 25 rfl rfl))⟩
        | 27, ho => obtain rfl := Option.some.inj ho; intro a w hx hol hdep hwar; obtain ⟨v, w', h1, h2, h3⟩ := build2 a.eval _ _ _ _ _ w (show valG (nodK2 8 (oneK (yC (cname j))) (oneK (yC (cname j)))) (a.eval (.tmp 49)) w from hdep 49 22 rfl rfl) (show valG (nodK2 9 (oneK (yC (cname j))) (oneK (yC (cname j)))) (a.eval (.tmp 53)) w from hdep 53 26 rfl rfl); exact ⟨rfl, st_run h1 h2 h3⟩
        | 28, ho => obtain rfl := Option.some.inj ho; intro a w hx hol hdep hwar; exact ⟨rfl, st_enter (run_call a.eval _ _ _ _ _ w _ _ _ Try.func18 (by kernel_rfl) rfl rfl (map2 _ _ _)) (node2 8 (show rowG2 (nodK2 8 (oneK (yC (cname j))) (oneK (yC (cname j)))) (nodK2 9 (oneK (yC (cname j))) (oneK (yC (cname j)))) (a.tmps.getD 54 undef) w from hdep 54 27 rfl rfl))⟩
        | 29, ho => obtain rfl := Option.some.inj ho; intro a w hx hol hdep hwar; obtain ⟨c, k1, k2, k3⟩ := (show valG (stepK (cname j)) (a.tmps.getD 55 undef) w from hdep 55 28 rfl rfl); exact ⟨rfl, st_run (rn_bC a.eval _ _ _ _ _ w _ _ _ _ _ _ _ (hdep 45 18 rfl rfl) k2) (Ext.refl _) ⟨c, k1, rfl, k3⟩⟩
        | 30, ho => obtain rfl := Option.some.inj ho; intro a w hx hol hdep hwar; obtain ⟨c, k1, k2, k3⟩ := (show We.ok (.cn (stepK (cname j)) (cname (j + 1))) (a.tmps.getD 56 undef) w from hdep 56 29 rfl rfl); exact ⟨rfl, st_run (rn_bsC a.eval _ _ _ _ _ w _ _ _ _ _ _ k2) (Ext.alloc _ _) ⟨_, c, k1, rfl, rowc_new _ _ _, k3.next (Ext.alloc _ _)⟩⟩
        | 31, ho => exact absurd rfl hz
        | 32, ho => obtain rfl := Option.some.inj ho; intro a w hx hol hdep hwar; exact ⟨rfl, st_run (run_assign a.eval _ _ _ _ _ w _ _ rfl) (Ext.refl _) (hdep 58 31 rfl rfl)⟩
        | n + 33, ho => cases ho
      case hpu =>
        intro i o ho hz
        match i, ho with
        | 0, ho => exact .inl rfl
        | 1, ho => exact .inl rfl
        | 2, ho => exact .inl rfl
        | 3, ho => exact .inl rfl
        | 4, ho => exact .inl rfl
        | 5, ho => exact .inl rfl
        | 6, ho => exact .inl rfl
        | 7, ho => exact .inl rfl
        | 8, ho => exact .inl rfl
        | 9, ho => exact .inl rfl
        | 10, ho => exact .inl rfl
        | 11, ho => exact .inl rfl
        | 12, ho => exact .inl rfl
        | 13, ho => exact .inl rfl
        | 14, ho => exact .inl rfl
        | 15, ho => exact .inl rfl
        | 16, ho => exact .inl rfl
        | 17, ho => exact .inl rfl
        | 18, ho => exact .inl rfl
        | 19, ho => exact .inl rfl
        | 20, ho => exact .inl rfl
        | 21, ho => exact .inl rfl
        | 22, ho => exact .inl rfl
        | 23, ho => exact .inl rfl
        | 24, ho => exact .inl rfl
        | 25, ho => exact .inl rfl
        | 26, ho => exact .inl rfl
        | 27, ho => exact .inl rfl
        | 28, ho => exact .inl rfl
        | 29, ho => exact .inl rfl
        | 30, ho => exact .inl rfl
        | 31, ho => exact absurd rfl hz
        | 32, ho =>
          obtain rfl := Option.some.inj ho
          refine .inr (.inr ?_)
          intro a w1 w hx hsz hol hdep hwar hF
          refine ⟨rfl, wp_of_run (run_assign a.eval _ _ _ _ _ w _ _ rfl) ⟨_, rfl, rfl, fun _ => hdep 58 31 rfl rfl, ?_⟩⟩
          have e58 : (a.put (some 4) (a.eval (.tmp 58))).tmps.getD 58 undef = a.tmps.getD 58 undef := by rw [put_getD, if_neg (fun q => absurd q.1 (by decide))]
          have e4 : (a.put (some 4) (a.eval (.tmp 58))).tmps.getD 4 undef = a.tmps.getD 58 undef := by rw [put_getD, if_pos ⟨rfl, by rw [hsz]; exact (show 4 < 84 by decide)⟩]; rfl
          obtain ⟨hF1, -⟩ := hF
          exact ⟨by show chF1 _ _ _ _ ((a.put (some 4) (a.eval (.tmp 58))).tmps.getD 58 undef) _ _; rw [e58]; exact hF1, .inr (by show (a.put (some 4) (a.eval (.tmp 58))).tmps.getD 4 undef = (a.put (some 4) (a.eval (.tmp 58))).tmps.getD 58 undef; rw [e4, e58])⟩
        | n + 33, ho => cases ho
      case hla =>
        intro o ho
        obtain rfl := Option.some.inj ho
        intro a w3 hx hsz hol hdep hwar
        obtain ⟨gr, c, k1, k2, k3, k4⟩ := (show We.ok (.rowC (stepK (cname j)) (cname (j + 1))) (a.tmps.getD 57 undef) w3 from hdep 57 30 rfl rfl)
        obtain ⟨v', w', hr, ho2, hg, -, -⟩ := run_append_own_at (P := Try.prog) w3 w.heap.size 22 22 46 i0 (.agg #[.string ⟨#[]⟩, .int .i64 0, .int .i64 0, .string ⟨#[]⟩, .slice none 0 0]) 5 72 Try.underlying22 hi hi0 hi1 hi2 rfl (by decide) (.slice (some ⟨g, 0, none⟩) cs.length cap) cs.length (csC cs) (CHW.out w3 hx).own ⟨gr, 0, none⟩ 1 1 [.string (cname (j + 1)), .int .i64 c.a.op, .int .i64 c.a.num, .string c.a.name, .slice c.a.ptr (len c.k) c.a.cap] rfl
          (fun q u hu => by
            have e : (⟨gr, 0, none⟩ : Addr).add q = ⟨gr, q, none⟩ := by unfold Addr.add; split <;> simp_all
            rw [e]; exact k3 q u hu) (fun u hu => by simp only [List.mem_cons, List.not_mem_nil, or_false] at hu; rcases hu with rfl | rfl | rfl | rfl | rfl <;> rfl) (by have := HL.out; unfold maxLen; omega) (by have := HL.out; omega) (CHW.out w3 hx).bel.size
        rw [HL.out] at hr
        have h27 : a.eval (.tmp 27) = .slice (some ⟨g, 0, none⟩) (j + 1) cap := hdep 27 0 rfl rfl
        obtain ⟨g9, cap9, e9, -, -⟩ := ho2.form (by omega)
        have e58 : (a.put (some 58) v').tmps.getD 58 undef = v' := by rw [put_getD, if_pos ⟨rfl, by rw [hsz]; exact (show 58 < 84 by decide)⟩]
        have e4 : (a.put (some 58) v').tmps.getD 4 undef = .slice (some ⟨g, 0, none⟩) (j + 1) cap := by rw [put_getD, if_neg (fun q => absurd q.1 (by decide))]; exact hwar 4 32 rfl rfl
        refine ⟨rfl, wp_of_run (rn_app a.eval _ _ _ _ _ w3 w' _ _ _ _ _ v' h27 k2 hr) ⟨v', rfl, fun _ => ⟨_, _, by rw [e9, HL.out]⟩, ⟨c, k1, k4, by have q := ho2; rw [← e58] at q; exact q, hg⟩, .inl e4⟩⟩
      case hfin =>
        rintro x w3 w' h1 h2 h3 -
        obtain ⟨⟨c, k1, k2, k3, k4⟩, hx4⟩ := h3 (by decide)
        have hq : x 4 = x 58 := by
          rcases hx4 with q | q
          · obtain ⟨p4, c4, e4⟩ := (show We.ok (.lgt (j + 2)) (x 4) w3 from h2 4 32 rfl)
            rw [e4] at q
            injection q with q1 q2 q3
            omega
          · exact q
        have CH4 := Lib.hid ((CHW.out w3 h1).grow HL.out k1 k2 k3 k4)
        clear k1 k2 k3 k4 hx4 h1 h2 h3
        dsimp only [frameT, chT, List.foldl]
        rw [hq]
        clear hq
        generalize x 27 = q27
        generalize x 28 = q28
        generalize x 29 = q29
        generalize x 30 = q30
        generalize x 31 = q31
        generalize x 32 = q32
        generalize x 33 = q33
        generalize x 34 = q34
        generalize x 35 = q35
        generalize x 36 = q36
        generalize x 37 = q37
        generalize x 38 = q38
        generalize x 39 = q39
        generalize x 40 = q40
        generalize x 41 = q41
        generalize x 42 = q42
        generalize x 43 = q43
        generalize x 44 = q44
        generalize x 45 = q45
        generalize x 46 = q46
        generalize x 47 = q47
        generalize x 48 = q48
        generalize x 49 = q49
        generalize x 50 = q50
        generalize x 51 = q51
        generalize x 52 = q52
        generalize x 53 = q53
        generalize x 54 = q54
        generalize x 55 = q55
        generalize x 56 = q56
        generalize x 57 = q57
        generalize x 58 = v58 at *
        have hmin : IntKind.i64.wrap (2 * P) = 2 * P := IntWalk.i64_in _ (by omega)
        have hmn : min (2 * P) 1099511627776 = 2 * P := by omega
        go_simp
        go_wp2
        go_roundw
        case rel =>
          refine ⟨_, j + 1, 2 * P, _, rfl, rfl, by go_num, by omega, by omega, ?_, by rw [List.length_append, HL.out]; rfl, ?_, CH4.out⟩
          · have : (2 ^ j : Nat) ≤ 2 ^ 30 := Nat.pow_le_pow_right (by omega) (by omega)
            rw [HP.out]; omega
          · rw [HP.out, Nat.pow_succ]; omega
        case measure => simp [intOf]; omega
    · have hle : ¬ (j : Int) + 1 ≤ (k : Int) := by omega
      obtain rfl : k = j := by omega
      have c0 := CL0.out k (by rw [HL.out]; omega)
      have hjn : (k : Int) < ((k + 1 : Nat) : Int) := by omega
      have hj0 : (0 : Int) ≤ (k : Int) := by omega
      have EV := Lib.hid (chain_eval cs CH.out.chn (by rw [HL.out]; omega) k (by rw [HL.out]; omega))
      go_wp2_with fail
      refine (eattr_any (cname k) wr).mono ?_
      rintro e w2 ⟨rfl, hb⟩
      have CH2 := Lib.hid (CH.out.next hb)
      clear hb c0
      go_wp2_with fail
      have EQ := eval_any cs (some ⟨g, 0, none⟩) cap 0 [] none 0 0 0 6 0 (cname k) none 0 .nil w2 (chs_csv (j := k) CH2.out (by rw [HL.out]; omega)) (av_nilC w2) ⟨fun q => absurd rfl q, trivial⟩ ⟨⟨by simp, by simp, by show (cname k).size ≤ _; have := (cname_ok k (by omega)).2; omega, by simp [len]⟩, trivial⟩
      rw [EV.out, HL.out] at EQ
      refine EQ.mono ?_
      clear EQ
      rintro e w3 ⟨rfl, hb⟩
      have B3 := Lib.hid (CH2.out.next hb).bel
      clear hb
      rw [← HP.out]
      have B4 : Hid (Below w.heap.size w (w3.alloc (.cells #[.int .i64 1, .int .i64 P] 31))) := B3.out.alloc B3.out.size _
      go_wp2_with fail
      refine (AW.out _).mono ?_
      rintro e w4 ⟨rfl, hb⟩
      have B5 := Lib.hid (B4.out.trans (hb.mono B4.out.size))
      clear hb
      go_wp2
      go_ret
      exact ⟨rfl, B5.out⟩

end Go.Proofs.Ytinbkhchhlkjgaa
