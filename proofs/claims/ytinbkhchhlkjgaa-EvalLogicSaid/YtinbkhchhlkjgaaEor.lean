/-
  The walk of EvalOrder. Printed by wip/mkeor.py.
-/
import Derived.Test.YtinbkhchhlkjgaaPlr
import Derived.Test.YtinbkhchhlkjgaaGl
import Derived.Test.YtinbkhchhlkjgaaEaw
import Derived.Test.YtinbkhchhlkjgaaEev
import Derived.Deep.RegionHeld3
namespace Go.Proofs.Ytinbkhchhlkjgaa
set_option linter.unusedVariables false
set_option linter.unusedSimpArgs false
open Go.ChangeShapes Go.WideShapes Go.ChangeAt Go.RowKit
open Go.Deep (BT)

theorem AvV.fore {w w' : World} {L : List Av} {p : Option Addr} (h : AvV w L p) (hb : Below w.heap.size w w') : AvV w' L p := h.keep (Keeps.of_below hb)
theorem IntsL.fore {w w' : World} {v : Value} {n s : Nat} (h : IntsL w v n s) (hb : Below w.heap.size w w') (hs : s ≤ w.heap.size) : IntsL w' v n w'.heap.size := by
  obtain ⟨p, cap, h1, h2, h3⟩ := h
  refine ⟨p, cap, h1, h2, fun i hi => ?_⟩
  obtain ⟨B, O, x, q1, q2, q3⟩ := h3 i hi
  have hB : B < w.heap.size := Nat.lt_of_lt_of_le q2 hs
  exact ⟨B, O, x, q1, Nat.lt_of_lt_of_le hB hb.size, by rw [hb.cell (p := ⟨B, O + i, none⟩) hB]; exact q3⟩
/-- What Eval answers, by what is known of it. -/
theorem eval_by {cs : List Cn} {p : Option Addr} {cap : Nat} {sc : Int} {L : List Av} {ap : Option Addr} {apc : Nat} {kind x : Int} (c : Ch) (w : World) (hcs : CsV w cs p) (hav : AvV w L ap) (hx : ExAt w c.b c.o c.a c.k) (hok : ExOk c.a c.k) (he : evR cs sc L c.a c.k = (kind, x, 0)) :
    Calls Try.prog 12 #[.slice p cs.length cap, .int .i64 sc, .slice ap L.length apc, .agg #[.int .i64 c.a.op, .int .i64 c.a.num, .string c.a.name, .slice c.a.ptr (len c.k) c.a.cap]] w
      fun e w' => e = .returned (.tuple #[.agg #[.int .i64 kind, .int .i64 x], .int .i64 0]) ∧ Below w.heap.size w w' := by
  have q := eval_any cs p cap sc L ap apc c.b c.o c.a.op c.a.num c.a.name c.a.ptr c.a.cap c.k w hcs hav hx hok
  rw [show evR cs sc L ⟨c.a.op, c.a.num, c.a.name, c.a.ptr, c.a.cap⟩ c.k = (kind, x, 0) from he] at q
  exact q
/-- A row of expressions in a new block, read through a node. -/
theorem node_at {w w' : World} (l : List Ch) (h : ∀ c ∈ l, ExAt w c.b c.o c.a c.k) (cells : Array Value) (hcells : cells = (rowC l).toArray) (e : TypeId) (hb : Below (w.alloc (.cells cells e)).heap.size (w.alloc (.cells cells e)) w') (op : Int) (n : Nat) : ExAt w' w.heap.size 0 ⟨op, 0, ⟨#[]⟩, some ⟨w.heap.size, 0, none⟩, n⟩ (rowF l) :=
  ⟨fun _ => rfl, (row_new (w := w) (B0 := 0) l (fun c hc => ⟨h c hc, foge0 _ _⟩) (Nat.zero_le _) e cells hcells).1.next hb⟩


/-- A new variable for a value. -/
def VBox (w : World) (N g : Nat) : Prop := N ≤ g ∧ w.cell? ⟨g, 0, none⟩ = some (.int .i64 0) ∧ w.cell? ⟨g, 1, none⟩ = some (.int .i64 0) ∧ w.frozen? ⟨g, 0, none⟩ = false ∧ w.frozen? ⟨g, 1, none⟩ = false
theorem vbox_new {w : World} {N : Nat} (h : N ≤ w.heap.size) : VBox (w.alloc (.cells #[.int .i64 0, .int .i64 0] 31)) N w.heap.size := ⟨h, by simp [go_sem], by simp [go_sem], by simp [go_sem], by simp [go_sem]⟩
theorem VBox.ext {w w' : World} {N g : Nat} (h : VBox w N g) (he : Ext w w') : VBox w' N g := by
  obtain ⟨h1, h2, h3, h4, h5⟩ := h
  have hl := block_lt_of_cell h2
  exact ⟨h1, by rw [Below.cell he (p := ⟨g, 0, none⟩) hl]; exact h2, by rw [Below.cell he (p := ⟨g, 1, none⟩) hl]; exact h3, by rw [Below.frozen he (p := ⟨g, 0, none⟩) hl]; exact h4, by rw [Below.frozen he (p := ⟨g, 1, none⟩) hl]; exact h5⟩
def ordT : List (Nat × Nat) := [(76, 0), (77, 1), (78, 2), (79, 3), (80, 4), (81, 5), (82, 6), (83, 7), (84, 8), (85, 9), (86, 10), (87, 11), (88, 12), (89, 13), (75, 14), (90, 15), (91, 16), (21, 17), (22, 19)]
def ordG (c0 c1 c2 : Value) (cP cQ : Ch) (m : Int) (N : Nat) (i : Nat) (v : Value) (w : World) : Prop :=
  match i with
  | 0 => v = c0 | 1 => v = c1 | 2 => v = c2
  | 3 => valG (oneK cP) v w | 4 => rowG (oneK cP) v w | 5 => valG (nodK 7 (oneK cP)) v w
  | 6 => valG (oneK cQ) v w | 7 => rowG (oneK cQ) v w | 8 => valG (nodK 7 (oneK cQ)) v w
  | 9 => rowG2 (nodK 7 (oneK cP)) (nodK 7 (oneK cQ)) v w | 10 => valG (nodK2 13 (nodK 7 (oneK cP)) (nodK 7 (oneK cQ))) v w
  | 11 => rowG (nodK2 13 (nodK 7 (oneK cP)) (nodK 7 (oneK cQ))) v w | 12 => valG (nodK 7 (nodK2 13 (nodK 7 (oneK cP)) (nodK 7 (oneK cQ)))) v w
  | 13 => v = .tuple #[.agg #[.int .i64 2, .int .i64 m], .int .i64 0] | 14 => v = .tuple #[.agg #[.int .i64 2, .int .i64 m], .int .i64 0] | 15 => v = .agg #[.int .i64 2, .int .i64 m] | 16 => v = .int .i64 0
  | 17 => ∃ g, v = .pointer (some ⟨g, 0, none⟩) ∧ VBox w N g
  | 19 => v = .int .i64 0
  | _ => True
theorem ordG_ext (c0 c1 c2 : Value) (cP cQ : Ch) (m : Int) (N : Nat) (i : Nat) (v : Value) (w w' : World) (h : ordG c0 c1 c2 cP cQ m N i v w) (he : Ext w w') : ordG c0 c1 c2 cP cQ m N i v w' := by
  unfold ordG at h ⊢
  split at h
  all_goals first | exact h | exact valG.ext h he | exact rowG.ext h he | exact rowG2.ext h he | (obtain ⟨g, h1, h2⟩ := h; exact ⟨g, h1, h2.ext he⟩)
def ordF (m : Int) (N : Nat) (x : Nat → Value) (w1 w' : World) : Prop := ∃ g, x 21 = .pointer (some ⟨g, 0, none⟩) ∧ N ≤ g ∧ w' = (w1.setCell ⟨g, 0, none⟩ (.int .i64 2)).setCell ⟨g, 1, none⟩ (.int .i64 m)
theorem wp_of_skip {P : Program} {Q : Exit → Act → World → Prop} {o : Oper} {a : Act} {w w' : World} {K : Act → World → Prop} (h : (execOp a.eval o).run P w = .ok .skip w') (hk : K (a.put o.dst undef) w') : o.wp P a w K Q := by
  unfold Oper.wp; rw [h]; exact hk
/-- Eval at an expression of a kind. -/
theorem evalG {cs : List Cn} {p : Option Addr} {cap : Nat} {sc : Int} {L : List Av} {ap : Option Addr} {apc : Nat} {kind x : Int} {S D : Nat} {X : Kd} {v : Value} {w : World} (hcs : CsV w cs p) (hav : AvV w L ap) (hk : KdOk (nmT sc (valsT sc L) (cvT cs)) sc kind S D X x) (hS : S ≤ 200) (hD : D ≤ 16)
    (hl : LookOk (lookT cs (tabN cs cs.length))) (hL : AttrsOk sc L) (h : valG X v w) : Calls Try.prog 12 #[.slice p cs.length cap, .int .i64 sc, .slice ap L.length apc, v] w fun e w'' => ∃ u, e = .returned u ∧ Ext w w'' ∧ u = .tuple #[.agg #[.int .i64 kind, .int .i64 x], .int .i64 0] := by
  obtain ⟨c, h1, rfl, h3⟩ := h
  obtain ⟨b1, b2⟩ := hk c h1
  have e9 := (bx_eval cs sc kind S D L c b1 hS hD hl hL).1
  rw [b2] at e9
  refine (eval_by c w hcs hav h3 b1.ok e9).mono ?_
  rintro e w'' ⟨rfl, hb⟩
  exact ⟨_, rfl, hb, rfl⟩

set_option maxHeartbeats 8000000 in
set_option maxRecDepth 100000 in
theorem walk_evalOrder (v0 : Value) (n0 : Nat) (v1 : Value) (n1 : Nat) (v2 : Value) (n2 : Nat) (a3 : Int) (w : World) (h0 : IntsL w v0 n0 w.heap.size) (h1 : IntsL w v1 n1 w.heap.size) (h2 : IntsL w v2 n2 w.heap.size) (_ : (Lit.int .i64 a3).wf = true) :
    Calls Try.prog 5 #[v0, v1, v2, .int .i64 a3] w fun e w' => e = .returned (.bool true) ∧ Below w.heap.size w w' := by
  have H0 := Lib.hid h0
  have H1 := Lib.hid h1
  have H2 := Lib.hid h2
  obtain ⟨p0, cap0, rfl, -, -⟩ := h0
  obtain ⟨p1, cap1, rfl, -, -⟩ := h1
  obtain ⟨p2, cap2, rfl, -, -⟩ := h2
  obtain ⟨z1, hz1⟩ : ∃ z, (bits BinOp.and IntKind.i64 a3 255).tmod 3 = z := ⟨_, rfl⟩
  have hz1b : 0 ≤ z1 ∧ z1 < 3 := by rw [← hz1]; exact tmod_in _ _ (by rw [and_255]; omega) (by omega)
  obtain ⟨sc, hsc, hscb⟩ : ∃ sc, IntKind.i64.wrap (1 + z1) = sc ∧ (sc = 1 ∨ sc = 2 ∨ sc = 3) := ⟨1 + z1, IntWalk.i64_in _ (by omega), by omega⟩
  have HS := Lib.hid hscb
  clear hscb hz1b
  have AW := Lib.hid eawake_any
  go_enter Try.func5, Try.ntmps5
  go_wp2_with fail
  clear hz1 hsc
  refine (bconsts_any w).mono ?_
  rintro e x1 ⟨cs, cp, ccap, rfl, hcs, hlk, hcc, hb⟩
  have CS1 := Lib.hid hcs
  have LK := Lib.hid hlk
  have B1 := Lib.hid hb
  clear hcs hlk hb
  go_wp2_with fail
  refine (battrs_any (.slice p2 n2 cap2) n2 sc x1 (H2.out.fore B1.out (Nat.le_refl _)) HS.out).mono ?_
  rintro e x2 ⟨L, ap, acap, rfl, hac, hav, hnm, hb⟩
  have AV2 := Lib.hid hav
  have AO := Lib.hid (attrs_ok sc L hnm)
  have CS2 := Lib.hid (CS1.out.next hb)
  have B2 := Lib.hid (B1.out.trans (hb.mono B1.out.size))
  clear hav hnm hb
  go_wp2_with fail
  refine (bExpr_any (.slice p0 n0 cap0) n0 sc 2 x2 (H0.out.fore B2.out (Nat.le_refl _)) HS.out (by decide)).mono ?_
  rintro e x3 ⟨cP, rfl, hp, hx, hb⟩
  have P1 : Hid (Bx sc 2 40 4 cP) := bx_plain hp
  have XP3 := Lib.hid hx
  have CS3 := Lib.hid (CS2.out.next hb)
  have AV3 := Lib.hid (AV2.out.fore hb)
  have B3 := Lib.hid (B2.out.trans (hb.mono B2.out.size))
  clear hp hx hb
  go_wp2_with fail
  refine (bExpr_any (.slice p1 n1 cap1) n1 sc 2 x3 (H1.out.fore B3.out (Nat.le_refl _)) HS.out (by decide)).mono ?_
  rintro e x4 ⟨cQ, rfl, hp, hx, hb⟩
  have Q1 : Hid (Bx sc 2 40 4 cQ) := bx_plain hp
  have XQ4 := Lib.hid hx
  have XP4 := Lib.hid (XP3.out.next hb)
  have CS4 := Lib.hid (CS3.out.next hb)
  have AV4 := Lib.hid (AV3.out.fore hb)
  have B4 := Lib.hid (B3.out.trans (hb.mono B3.out.size))
  clear hp hx hb

  have K0 : Hid (Below x4.heap.size x4 ((x4.alloc (.cells #[.int .i64 cP.a.op, .int .i64 cP.a.num, .string cP.a.name, .slice cP.a.ptr (len cP.k) cP.a.cap] 26)).alloc (.cells #[.int .i64 cQ.a.op, .int .i64 cQ.a.num, .string cQ.a.name, .slice cQ.a.ptr (len cQ.k) cQ.a.cap] 26))) := ((Below.refl _ _).alloc (Nat.le_refl _) _).alloc (by simp) _
  have BX : Hid (∀ wr, Below (x4.heap.size + 2) ((x4.alloc (.cells #[.int .i64 cP.a.op, .int .i64 cP.a.num, .string cP.a.name, .slice cP.a.ptr (len cP.k) cP.a.cap] 26)).alloc (.cells #[.int .i64 cQ.a.op, .int .i64 cQ.a.num, .string cQ.a.name, .slice cQ.a.ptr (len cQ.k) cQ.a.cap] 26)) wr →
      (wr.cell? ⟨x4.heap.size, 0, none⟩ = some (.int .i64 cP.a.op) ∧ wr.cell? ⟨x4.heap.size, 1, none⟩ = some (.int .i64 cP.a.num) ∧ wr.cell? ⟨x4.heap.size, 2, none⟩ = some (.string cP.a.name) ∧ wr.cell? ⟨x4.heap.size, 3, none⟩ = some (.slice cP.a.ptr (len cP.k) cP.a.cap)) ∧
      (wr.cell? ⟨x4.heap.size + 1, 0, none⟩ = some (.int .i64 cQ.a.op) ∧ wr.cell? ⟨x4.heap.size + 1, 1, none⟩ = some (.int .i64 cQ.a.num) ∧ wr.cell? ⟨x4.heap.size + 1, 2, none⟩ = some (.string cQ.a.name) ∧ wr.cell? ⟨x4.heap.size + 1, 3, none⟩ = some (.slice cQ.a.ptr (len cQ.k) cQ.a.cap))) := by
    intro wr hb
    refine ⟨⟨?_, ?_, ?_, ?_⟩, ?_, ?_, ?_, ?_⟩
    · rw [hb.cell (p := ⟨x4.heap.size, 0, none⟩) (by simp)]; simp [go_sem]
    · rw [hb.cell (p := ⟨x4.heap.size, 1, none⟩) (by simp)]; simp [go_sem]
    · rw [hb.cell (p := ⟨x4.heap.size, 2, none⟩) (by simp)]; simp [go_sem]
    · rw [hb.cell (p := ⟨x4.heap.size, 3, none⟩) (by simp)]; simp [go_sem]
    · rw [hb.cell (p := ⟨x4.heap.size + 1, 0, none⟩) (by simp)]; simp [go_sem]
    · rw [hb.cell (p := ⟨x4.heap.size + 1, 1, none⟩) (by simp)]; simp [go_sem]
    · rw [hb.cell (p := ⟨x4.heap.size + 1, 2, none⟩) (by simp)]; simp [go_sem]
    · rw [hb.cell (p := ⟨x4.heap.size + 1, 3, none⟩) (by simp)]; simp [go_sem]
  have Z0 : Hid (((x4.alloc (.cells #[.int .i64 cP.a.op, .int .i64 cP.a.num, .string cP.a.name, .slice cP.a.ptr (len cP.k) cP.a.cap] 26)).alloc (.cells #[.int .i64 cQ.a.op, .int .i64 cQ.a.num, .string cQ.a.name, .slice cQ.a.ptr (len cQ.k) cQ.a.cap] 26)).heap.size = x4.heap.size + 2) := by unfold Hid; simp
  go_wp2_with fail
  generalize hy0 : ((x4.alloc (.cells #[.int .i64 cP.a.op, .int .i64 cP.a.num, .string cP.a.name, .slice cP.a.ptr (len cP.k) cP.a.cap] 26)).alloc (.cells #[.int .i64 cQ.a.op, .int .i64 cQ.a.num, .string cQ.a.name, .slice cQ.a.ptr (len cQ.k) cQ.a.cap] 26)) = y0 at *
  clear hy0
  have ST : Hid (∀ wr, Below (x4.heap.size + 2) y0 wr → CsV wr cs cp ∧ AvV wr L ap ∧ ExAt wr cP.b cP.o cP.a cP.k ∧ ExAt wr cQ.b cQ.o cQ.a cQ.k ∧ Below w.heap.size w wr ∧ x4.heap.size + 2 ≤ wr.heap.size) := by
    intro wr hb
    have h9 : Below x4.heap.size x4 wr := K0.out.trans (hb.mono (by omega))
    exact ⟨CS4.out.next h9, AV4.out.fore h9, XP4.out.next h9, XQ4.out.next h9, B4.out.trans (h9.mono B4.out.size), by rw [← Z0.out]; exact hb.size⟩
  have Y0 : Hid (Below (x4.heap.size + 2) y0 y0) := Below.refl _ _
  obtain ⟨eP, vP⟩ := bx_eval cs sc 2 40 4 L cP P1.out (by omega) (by omega) LK.out AO.out
  obtain ⟨eQ, vQ⟩ := bx_eval cs sc 2 40 4 L cQ Q1.out (by omega) (by omega) LK.out AO.out
  have EP := Lib.hid eP
  have EQ := Lib.hid eQ
  have OP := Lib.hid (order_plain _ _ vP vQ)
  have EMIN : Hid (∀ g p c, evR cs sc L ⟨12, 0, ⟨#[]⟩, p, c⟩ (rowF [cP, cQ]) = (2, min (exv (nmT sc (valsT sc L) (cvT cs)) cP) (exv (nmT sc (valsT sc L) (cvT cs)) cQ), 0) ∧ ExOk ⟨12, 0, ⟨#[]⟩, p, c⟩ (rowF [cP, cQ]) ∧ (g : Nat) = g) := by
    intro g p c
    have hb := bx_node sc 4 [cP, cQ] [2, 2] 80 12 2 ⟨40, 40, P1.out, ⟨40, 0, Q1.out, trivial, by omega⟩, by omega⟩ (by simp) (by omega) rfl rfl (by omega) g p c
    have e9 := (bx_eval cs sc 2 _ _ L _ hb (by omega) (by omega) LK.out AO.out).1
    rw [exv_node _ _ _ (by omega)] at e9
    exact ⟨by rw [← OP.out.1]; exact e9, hb.ok, rfl⟩
  have EMAX : Hid (∀ g p c, evR cs sc L ⟨13, 0, ⟨#[]⟩, p, c⟩ (rowF [cP, cQ]) = (2, max (exv (nmT sc (valsT sc L) (cvT cs)) cP) (exv (nmT sc (valsT sc L) (cvT cs)) cQ), 0) ∧ ExOk ⟨13, 0, ⟨#[]⟩, p, c⟩ (rowF [cP, cQ]) ∧ (g : Nat) = g) := by
    intro g p c
    have hb := bx_node sc 4 [cP, cQ] [2, 2] 80 13 2 ⟨40, 40, P1.out, ⟨40, 0, Q1.out, trivial, by omega⟩, by omega⟩ (by simp) (by omega) rfl rfl (by omega) g p c
    have e9 := (bx_eval cs sc 2 _ _ L _ hb (by omega) (by omega) LK.out AO.out).1
    rw [exv_node _ _ _ (by omega)] at e9
    exact ⟨by rw [← OP.out.2.1]; exact e9, hb.ok, rfl⟩
  have KB : Hid (KdOk (nmT sc (valsT sc L) (cvT cs)) sc 2 84 7 (nodK 7 (nodK2 13 (nodK 7 (oneK cP)) (nodK 7 (oneK cQ)))) (min (exv (nmT sc (valsT sc L) (cvT cs)) cP) (exv (nmT sc (valsT sc L) (cvT cs)) cQ))) := by
    have k9 := kd_nod 7 2 (kd_nod2 13 2 (kd_nod 7 2 (kd_one (nm := nmT sc (valsT sc L) (cvT cs)) P1.out) (by omega) rfl rfl (by omega)) (kd_nod 7 2 (kd_one (nm := nmT sc (valsT sc L) (cvT cs)) Q1.out) (by omega) rfl rfl (by omega)) (by omega) rfl rfl (by omega)) (by omega) rfl rfl (by omega)
    rw [OP.out.2.2] at k9
    exact k9
  clear eP vP eQ vQ OP
  generalize exv (nmT sc (valsT sc L) (cvT cs)) cP = fP at *
  generalize exv (nmT sc (valsT sc L) (cvT cs)) cQ = fQ at *

  refine (eval_by cP y0 (ST.out y0 Y0.out).1 (ST.out y0 Y0.out).2.1 (ST.out y0 Y0.out).2.2.1 P1.out.ok EP.out).mono ?_
  rintro e t1 ⟨rfl, hb⟩
  have S1 := Lib.hid hb
  clear hb
  have c0 := True.intro; have c1 := True.intro; have c2 := True.intro; have c3 := True.intro; have d0 := True.intro; have d1 := True.intro; have d2 := True.intro; have d3 := True.intro
  have YT1 : Hid (Below (x4.heap.size + 2) y0 t1) := Y0.out.trans (S1.out.mono (ST.out y0 Y0.out).2.2.2.2.2)
  have Y1 : Hid (Below (x4.heap.size + 2) y0 (t1.alloc (.cells #[.int .i64 2, .int .i64 fP] 31))) := YT1.out.alloc (ST.out t1 YT1.out).2.2.2.2.2 _
  have v1a : (t1.alloc (.cells #[.int .i64 2, .int .i64 fP] 31)).cell? ⟨t1.heap.size, 0, none⟩ = some (.int .i64 2) := by simp [go_sem]
  have v1b : (t1.alloc (.cells #[.int .i64 2, .int .i64 fP] 31)).cell? ⟨t1.heap.size, 1, none⟩ = some (.int .i64 fP) := by simp [go_sem]
  have N1 : Hid (Below t1.heap.size t1 (t1.alloc (.cells #[.int .i64 2, .int .i64 fP] 31))) := (Below.refl _ _).alloc (Nat.le_refl _) _
  clear c0 c1 c2 c3 d0 d1 d2 d3
  have hzt1 : x4.heap.size + 1 < t1.heap.size := by have := (ST.out t1 YT1.out).2.2.2.2.2; omega
  have hzs1 : x4.heap.size < t1.heap.size := by omega
  obtain ⟨⟨c0, c1, c2, c3⟩, d0, d1, d2, d3⟩ := BX.out t1 YT1.out
  go_wp2_with fail
  have HYa : Hid ((t1.alloc (.cells #[.int .i64 2, .int .i64 fP] 31)).heap.size = t1.heap.size + 1) := by unfold Hid; simp
  generalize hy1 : t1.alloc (.cells #[.int .i64 2, .int .i64 fP] 31) = y1 at *
  have HY1 := HYa
  clear HYa hy1 c0 c1 c2 c3 d0 d1 d2 d3
  refine (eval_by cQ y1 (ST.out y1 Y1.out).1 (ST.out y1 Y1.out).2.1 (ST.out y1 Y1.out).2.2.2.1 Q1.out.ok EQ.out).mono ?_
  rintro e t2 ⟨rfl, hb⟩
  have S2 := Lib.hid hb
  clear hb
  have c0 := True.intro; have c1 := True.intro; have c2 := True.intro; have c3 := True.intro; have d0 := True.intro; have d1 := True.intro; have d2 := True.intro; have d3 := True.intro
  have YT2 : Hid (Below (x4.heap.size + 2) y0 t2) := Y1.out.trans (S2.out.mono (ST.out y1 Y1.out).2.2.2.2.2)
  have Y2 : Hid (Below (x4.heap.size + 2) y0 (t2.alloc (.cells #[.int .i64 2, .int .i64 fQ] 31))) := YT2.out.alloc (ST.out t2 YT2.out).2.2.2.2.2 _
  have v2a : (t2.alloc (.cells #[.int .i64 2, .int .i64 fQ] 31)).cell? ⟨t2.heap.size, 0, none⟩ = some (.int .i64 2) := by simp [go_sem]
  have v2b : (t2.alloc (.cells #[.int .i64 2, .int .i64 fQ] 31)).cell? ⟨t2.heap.size, 1, none⟩ = some (.int .i64 fQ) := by simp [go_sem]
  have N2 : Hid (Below t2.heap.size t2 (t2.alloc (.cells #[.int .i64 2, .int .i64 fQ] 31))) := (Below.refl _ _).alloc (Nat.le_refl _) _
  have w1a : (t2.alloc (.cells #[.int .i64 2, .int .i64 fQ] 31)).cell? ⟨t1.heap.size, 0, none⟩ = some (.int .i64 2) := by rw [(S2.out.trans (N2.out.mono S2.out.size)).cell (block_lt_of_cell v1a)]; exact v1a
  have w1b : (t2.alloc (.cells #[.int .i64 2, .int .i64 fQ] 31)).cell? ⟨t1.heap.size, 1, none⟩ = some (.int .i64 fP) := by rw [(S2.out.trans (N2.out.mono S2.out.size)).cell (block_lt_of_cell v1b)]; exact v1b
  clear v1a v1b
  have v1a := w1a
  have v1b := w1b
  clear w1a w1b
  clear c0 c1 c2 c3 d0 d1 d2 d3
  have hzt2 : x4.heap.size + 1 < t2.heap.size := by have := (ST.out t2 YT2.out).2.2.2.2.2; omega
  have hzs2 : x4.heap.size < t2.heap.size := by omega
  obtain ⟨⟨c0, c1, c2, c3⟩, d0, d1, d2, d3⟩ := BX.out t2 YT2.out
  go_wp2_with fail
  have HYa : Hid ((t2.alloc (.cells #[.int .i64 2, .int .i64 fQ] 31)).heap.size = t2.heap.size + 1) := by unfold Hid; simp
  generalize hy2 : t2.alloc (.cells #[.int .i64 2, .int .i64 fQ] 31) = y2 at *
  have HY2 := HYa
  clear HYa hy2 c0 c1 c2 c3 d0 d1 d2 d3
  have HZ3 : Hid (y2.heap.size = t2.heap.size + 1) := HY2
  refine (enode_any 12 _ 2 2 _).mono ?_
  rintro e u3 ⟨rfl, hb⟩
  have XN3 : Hid (ExAt u3 y2.heap.size 0 ⟨12, 0, ⟨#[]⟩, some ⟨y2.heap.size, 0, none⟩, 2⟩ (rowF [cP, cQ])) := node_at [cP, cQ] (by intro c hc; simp only [List.mem_cons, List.not_mem_nil, or_false] at hc; rcases hc with rfl | rfl; exact (ST.out y2 Y2.out).2.2.1; exact (ST.out y2 Y2.out).2.2.2.1) #[.int .i64 cP.a.op, .int .i64 cP.a.num, .string cP.a.name, .slice cP.a.ptr (len cP.k) cP.a.cap, .int .i64 cQ.a.op, .int .i64 cQ.a.num, .string cQ.a.name, .slice cQ.a.ptr (len cQ.k) cQ.a.cap] rfl 26 hb 12 2
  have SU3 : Hid (Below y2.heap.size y2 u3) := ((Below.refl _ _).alloc (Nat.le_refl _) _).trans (hb.mono (by simp))
  clear hb
  rw [HZ3.out] at XN3
  have YU3 : Hid (Below (x4.heap.size + 2) y0 u3) := Y2.out.trans (SU3.out.mono (ST.out y2 Y2.out).2.2.2.2.2)
  go_wp2_with fail
  have EN3 := EMIN.out (t2.heap.size + 1) (some ⟨t2.heap.size + 1, 0, none⟩) 2
  refine (eval_by ⟨t2.heap.size + 1, 0, ⟨12, 0, ⟨#[]⟩, some ⟨t2.heap.size + 1, 0, none⟩, 2⟩, rowF [cP, cQ]⟩ u3 (ST.out u3 YU3.out).1 (ST.out u3 YU3.out).2.1 XN3.out EN3.2.1 EN3.1).mono ?_
  rintro e t3 ⟨rfl, hb⟩
  have S3 : Hid (Below y2.heap.size y2 t3) := SU3.out.trans (hb.mono SU3.out.size)
  clear hb EN3
  have c0 := True.intro; have c1 := True.intro; have c2 := True.intro; have c3 := True.intro; have d0 := True.intro; have d1 := True.intro; have d2 := True.intro; have d3 := True.intro
  have YT3 : Hid (Below (x4.heap.size + 2) y0 t3) := Y2.out.trans (S3.out.mono (ST.out y2 Y2.out).2.2.2.2.2)
  have Y3 : Hid (Below (x4.heap.size + 2) y0 (t3.alloc (.cells #[.int .i64 2, .int .i64 (min fP fQ)] 31))) := YT3.out.alloc (ST.out t3 YT3.out).2.2.2.2.2 _
  have v3a : (t3.alloc (.cells #[.int .i64 2, .int .i64 (min fP fQ)] 31)).cell? ⟨t3.heap.size, 0, none⟩ = some (.int .i64 2) := by simp [go_sem]
  have v3b : (t3.alloc (.cells #[.int .i64 2, .int .i64 (min fP fQ)] 31)).cell? ⟨t3.heap.size, 1, none⟩ = some (.int .i64 (min fP fQ)) := by simp [go_sem]
  have N3 : Hid (Below t3.heap.size t3 (t3.alloc (.cells #[.int .i64 2, .int .i64 (min fP fQ)] 31))) := (Below.refl _ _).alloc (Nat.le_refl _) _
  have w1a : (t3.alloc (.cells #[.int .i64 2, .int .i64 (min fP fQ)] 31)).cell? ⟨t1.heap.size, 0, none⟩ = some (.int .i64 2) := by rw [(S3.out.trans (N3.out.mono S3.out.size)).cell (block_lt_of_cell v1a)]; exact v1a
  have w1b : (t3.alloc (.cells #[.int .i64 2, .int .i64 (min fP fQ)] 31)).cell? ⟨t1.heap.size, 1, none⟩ = some (.int .i64 fP) := by rw [(S3.out.trans (N3.out.mono S3.out.size)).cell (block_lt_of_cell v1b)]; exact v1b
  clear v1a v1b
  have v1a := w1a
  have v1b := w1b
  clear w1a w1b
  have w2a : (t3.alloc (.cells #[.int .i64 2, .int .i64 (min fP fQ)] 31)).cell? ⟨t2.heap.size, 0, none⟩ = some (.int .i64 2) := by rw [(S3.out.trans (N3.out.mono S3.out.size)).cell (block_lt_of_cell v2a)]; exact v2a
  have w2b : (t3.alloc (.cells #[.int .i64 2, .int .i64 (min fP fQ)] 31)).cell? ⟨t2.heap.size, 1, none⟩ = some (.int .i64 fQ) := by rw [(S3.out.trans (N3.out.mono S3.out.size)).cell (block_lt_of_cell v2b)]; exact v2b
  clear v2a v2b
  have v2a := w2a
  have v2b := w2b
  clear w2a w2b
  clear c0 c1 c2 c3 d0 d1 d2 d3
  have hzt3 : x4.heap.size + 1 < t3.heap.size := by have := (ST.out t3 YT3.out).2.2.2.2.2; omega
  have hzs3 : x4.heap.size < t3.heap.size := by omega
  obtain ⟨⟨c0, c1, c2, c3⟩, d0, d1, d2, d3⟩ := BX.out t3 YT3.out
  go_wp2_with fail
  have HYa : Hid ((t3.alloc (.cells #[.int .i64 2, .int .i64 (min fP fQ)] 31)).heap.size = t3.heap.size + 1) := by unfold Hid; simp
  generalize hy3 : t3.alloc (.cells #[.int .i64 2, .int .i64 (min fP fQ)] 31) = y3 at *
  have HY3 := HYa
  clear HYa hy3 c0 c1 c2 c3 d0 d1 d2 d3
  have HZ4 : Hid (y3.heap.size = t3.heap.size + 1) := HY3
  refine (enode_any 13 _ 2 2 _).mono ?_
  rintro e u4 ⟨rfl, hb⟩
  have XN4 : Hid (ExAt u4 y3.heap.size 0 ⟨13, 0, ⟨#[]⟩, some ⟨y3.heap.size, 0, none⟩, 2⟩ (rowF [cP, cQ])) := node_at [cP, cQ] (by intro c hc; simp only [List.mem_cons, List.not_mem_nil, or_false] at hc; rcases hc with rfl | rfl; exact (ST.out y3 Y3.out).2.2.1; exact (ST.out y3 Y3.out).2.2.2.1) #[.int .i64 cP.a.op, .int .i64 cP.a.num, .string cP.a.name, .slice cP.a.ptr (len cP.k) cP.a.cap, .int .i64 cQ.a.op, .int .i64 cQ.a.num, .string cQ.a.name, .slice cQ.a.ptr (len cQ.k) cQ.a.cap] rfl 26 hb 13 2
  have SU4 : Hid (Below y3.heap.size y3 u4) := ((Below.refl _ _).alloc (Nat.le_refl _) _).trans (hb.mono (by simp))
  clear hb
  rw [HZ4.out] at XN4
  have YU4 : Hid (Below (x4.heap.size + 2) y0 u4) := Y3.out.trans (SU4.out.mono (ST.out y3 Y3.out).2.2.2.2.2)
  go_wp2_with fail
  have EN4 := EMAX.out (t3.heap.size + 1) (some ⟨t3.heap.size + 1, 0, none⟩) 2
  refine (eval_by ⟨t3.heap.size + 1, 0, ⟨13, 0, ⟨#[]⟩, some ⟨t3.heap.size + 1, 0, none⟩, 2⟩, rowF [cP, cQ]⟩ u4 (ST.out u4 YU4.out).1 (ST.out u4 YU4.out).2.1 XN4.out EN4.2.1 EN4.1).mono ?_
  rintro e t4 ⟨rfl, hb⟩
  have S4 : Hid (Below y3.heap.size y3 t4) := SU4.out.trans (hb.mono SU4.out.size)
  clear hb EN4
  have c0 := True.intro; have c1 := True.intro; have c2 := True.intro; have c3 := True.intro; have d0 := True.intro; have d1 := True.intro; have d2 := True.intro; have d3 := True.intro
  have YT4 : Hid (Below (x4.heap.size + 2) y0 t4) := Y3.out.trans (S4.out.mono (ST.out y3 Y3.out).2.2.2.2.2)
  have Y4 : Hid (Below (x4.heap.size + 2) y0 (t4.alloc (.cells #[.int .i64 2, .int .i64 (max fP fQ)] 31))) := YT4.out.alloc (ST.out t4 YT4.out).2.2.2.2.2 _
  have v4a : (t4.alloc (.cells #[.int .i64 2, .int .i64 (max fP fQ)] 31)).cell? ⟨t4.heap.size, 0, none⟩ = some (.int .i64 2) := by simp [go_sem]
  have v4b : (t4.alloc (.cells #[.int .i64 2, .int .i64 (max fP fQ)] 31)).cell? ⟨t4.heap.size, 1, none⟩ = some (.int .i64 (max fP fQ)) := by simp [go_sem]
  have N4 : Hid (Below t4.heap.size t4 (t4.alloc (.cells #[.int .i64 2, .int .i64 (max fP fQ)] 31))) := (Below.refl _ _).alloc (Nat.le_refl _) _
  have w1a : (t4.alloc (.cells #[.int .i64 2, .int .i64 (max fP fQ)] 31)).cell? ⟨t1.heap.size, 0, none⟩ = some (.int .i64 2) := by rw [(S4.out.trans (N4.out.mono S4.out.size)).cell (block_lt_of_cell v1a)]; exact v1a
  have w1b : (t4.alloc (.cells #[.int .i64 2, .int .i64 (max fP fQ)] 31)).cell? ⟨t1.heap.size, 1, none⟩ = some (.int .i64 fP) := by rw [(S4.out.trans (N4.out.mono S4.out.size)).cell (block_lt_of_cell v1b)]; exact v1b
  clear v1a v1b
  have v1a := w1a
  have v1b := w1b
  clear w1a w1b
  have w2a : (t4.alloc (.cells #[.int .i64 2, .int .i64 (max fP fQ)] 31)).cell? ⟨t2.heap.size, 0, none⟩ = some (.int .i64 2) := by rw [(S4.out.trans (N4.out.mono S4.out.size)).cell (block_lt_of_cell v2a)]; exact v2a
  have w2b : (t4.alloc (.cells #[.int .i64 2, .int .i64 (max fP fQ)] 31)).cell? ⟨t2.heap.size, 1, none⟩ = some (.int .i64 fQ) := by rw [(S4.out.trans (N4.out.mono S4.out.size)).cell (block_lt_of_cell v2b)]; exact v2b
  clear v2a v2b
  have v2a := w2a
  have v2b := w2b
  clear w2a w2b
  have w3a : (t4.alloc (.cells #[.int .i64 2, .int .i64 (max fP fQ)] 31)).cell? ⟨t3.heap.size, 0, none⟩ = some (.int .i64 2) := by rw [(S4.out.trans (N4.out.mono S4.out.size)).cell (block_lt_of_cell v3a)]; exact v3a
  have w3b : (t4.alloc (.cells #[.int .i64 2, .int .i64 (max fP fQ)] 31)).cell? ⟨t3.heap.size, 1, none⟩ = some (.int .i64 (min fP fQ)) := by rw [(S4.out.trans (N4.out.mono S4.out.size)).cell (block_lt_of_cell v3b)]; exact v3b
  clear v3a v3b
  have v3a := w3a
  have v3b := w3b
  clear w3a w3b
  clear c0 c1 c2 c3 d0 d1 d2 d3
  have hzt4 : x4.heap.size + 1 < t4.heap.size := by have := (ST.out t4 YT4.out).2.2.2.2.2; omega
  have hzs4 : x4.heap.size < t4.heap.size := by omega
  obtain ⟨⟨c0, c1, c2, c3⟩, d0, d1, d2, d3⟩ := BX.out t4 YT4.out
  go_wp2_with fail
  have HYa : Hid ((t4.alloc (.cells #[.int .i64 2, .int .i64 (max fP fQ)] 31)).heap.size = t4.heap.size + 1) := by unfold Hid; simp
  generalize hy4 : t4.alloc (.cells #[.int .i64 2, .int .i64 (max fP fQ)] 31) = y4 at *
  have HY4 := HYa
  clear HYa hy4 c0 c1 c2 c3 d0 d1 d2 d3
  have YW : Hid (∀ w, Ext y4.drew w → Below (x4.heap.size + 2) y0 w) := fun w h => Y4.out.drew.trans (Below.mono h (ST.out y4 Y4.out).2.2.2.2.2)
  have KP : Hid (KdOk (nmT sc (valsT sc L) (cvT cs)) sc 2 84 7 (nodK 7 (nodK2 13 (nodK 7 (oneK cP)) (nodK 7 (oneK cQ)))) (min fP fQ)) := KB.out
  refine plan_tbl ordT (ordG (.slice cp cs.length ccap) (.int .i64 sc) (.slice ap L.length acap) cP cQ (min fP fQ) y4.heap.size) 18 (ordF (min fP fQ) y4.heap.size) (by kernel_rfl) (by kernel_rfl) (ordG_ext _ _ _ _ _ _ _) ?hF ?hst ?hpu ?hla ?hfin
  case hF =>
    rintro x x' w1 w' hx ⟨g, h1, h2, h3⟩
    exact ⟨g, by rw [← hx 21 (.inr ⟨17, rfl, .inr rfl⟩)]; exact h1, h2, h3⟩
  case hst =>
    intro i o ho hz
    match i, ho with
    | 0, ho => obtain rfl := Option.some.inj ho; intro a w hx hol hdep hwar; exact ⟨rfl, st_run (run_move a.eval _ _ _ _ _ w _ _ (hol 9 rfl)) (Ext.refl _) rfl⟩
    | 1, ho => obtain rfl := Option.some.inj ho; intro a w hx hol hdep hwar; exact ⟨rfl, st_run (run_move a.eval _ _ _ _ _ w _ _ (hol 3 rfl)) (Ext.refl _) rfl⟩
    | 2, ho => obtain rfl := Option.some.inj ho; intro a w hx hol hdep hwar; exact ⟨rfl, st_run (run_move a.eval _ _ _ _ _ w _ _ (hol 10 rfl)) (Ext.refl _) rfl⟩
    | 3, ho => obtain rfl := Option.some.inj ho; intro a w hx hol hdep hwar; have q := (BX.out w (YW.out w hx)).1; exact ⟨rfl, st_run (run_loadE a.eval _ _ _ _ _ w _ x4.heap.size _ _ _ _ (hol 11 rfl) q.1 q.2.1 q.2.2.1 q.2.2.2) (Ext.refl _) ⟨cP, rfl, rfl, (ST.out w (YW.out w hx)).2.2.1⟩⟩
    | 4, ho => obtain rfl := Option.some.inj ho; intro a w hx hol hdep hwar; obtain ⟨v, w', h1, h2, h3⟩ := build1 a.eval _ _ _ _ _ w (show valG (oneK cP) (a.eval (.tmp 79)) w from hdep 79 3 rfl rfl); exact ⟨rfl, st_run h1 h2 h3⟩
    | 5, ho => obtain rfl := Option.some.inj ho; intro a w hx hol hdep hwar; exact ⟨rfl, st_enter (run_call a.eval _ _ _ _ _ w _ _ _ Try.func18 (by kernel_rfl) rfl rfl (map2 _ _ _)) (node1 7 (show rowG (oneK cP) (a.tmps.getD 80 undef) w from hdep 80 4 rfl rfl))⟩
    | 6, ho => obtain rfl := Option.some.inj ho; intro a w hx hol hdep hwar; have q := (BX.out w (YW.out w hx)).2; exact ⟨rfl, st_run (run_loadE a.eval _ _ _ _ _ w _ (x4.heap.size + 1) _ _ _ _ (hol 12 rfl) q.1 q.2.1 q.2.2.1 q.2.2.2) (Ext.refl _) ⟨cQ, rfl, rfl, (ST.out w (YW.out w hx)).2.2.2.1⟩⟩
    | 7, ho => obtain rfl := Option.some.inj ho; intro a w hx hol hdep hwar; obtain ⟨v, w', h1, h2, h3⟩ := build1 a.eval _ _ _ _ _ w (show valG (oneK cQ) (a.eval (.tmp 82)) w from hdep 82 6 rfl rfl); exact ⟨rfl, st_run h1 h2 h3⟩
    | 8, ho => obtain rfl := Option.some.inj ho; intro a w hx hol hdep hwar; exact ⟨rfl, st_enter (run_call a.eval _ _ _ _ _ w _ _ _ Try.func18 (by kernel_rfl) rfl rfl (map2 _ _ _)) (node1 7 (show rowG (oneK cQ) (a.tmps.getD 83 undef) w from hdep 83 7 rfl rfl))⟩
    | 9, ho => obtain rfl := Option.some.inj ho; intro a w hx hol hdep hwar; obtain ⟨v, w', h1, h2, h3⟩ := build2 a.eval _ _ _ _ _ w (show valG (nodK 7 (oneK cP)) (a.eval (.tmp 81)) w from hdep 81 5 rfl rfl) (show valG (nodK 7 (oneK cQ)) (a.eval (.tmp 84)) w from hdep 84 8 rfl rfl); exact ⟨rfl, st_run h1 h2 h3⟩
    | 10, ho => obtain rfl := Option.some.inj ho; intro a w hx hol hdep hwar; exact ⟨rfl, st_enter (run_call a.eval _ _ _ _ _ w _ _ _ Try.func18 (by kernel_rfl) rfl rfl (map2 _ _ _)) (node2 13 (show rowG2 (nodK 7 (oneK cP)) (nodK 7 (oneK cQ)) (a.tmps.getD 85 undef) w from hdep 85 9 rfl rfl))⟩
    | 11, ho => obtain rfl := Option.some.inj ho; intro a w hx hol hdep hwar; obtain ⟨v, w', h1, h2, h3⟩ := build1 a.eval _ _ _ _ _ w (show valG (nodK2 13 (nodK 7 (oneK cP)) (nodK 7 (oneK cQ))) (a.eval (.tmp 86)) w from hdep 86 10 rfl rfl); exact ⟨rfl, st_run h1 h2 h3⟩
    | 12, ho => obtain rfl := Option.some.inj ho; intro a w hx hol hdep hwar; exact ⟨rfl, st_enter (run_call a.eval _ _ _ _ _ w _ _ _ Try.func18 (by kernel_rfl) rfl rfl (map2 _ _ _)) (node1 7 (show rowG (nodK2 13 (nodK 7 (oneK cP)) (nodK 7 (oneK cQ))) (a.tmps.getD 87 undef) w from hdep 87 11 rfl rfl))⟩
    | 13, ho =>
      obtain rfl := Option.some.inj ho
      intro a w hx hol hdep hwar
      have h76 : a.tmps.getD 76 undef = .slice cp cs.length ccap := hdep 76 0 rfl rfl
      have h77 : a.tmps.getD 77 undef = .int .i64 sc := hdep 77 1 rfl rfl
      have h78 : a.tmps.getD 78 undef = .slice ap L.length acap := hdep 78 2 rfl rfl
      exact ⟨rfl, st_enter (run_call a.eval _ _ _ _ _ w _ #[.slice cp cs.length ccap, .int .i64 sc, .slice ap L.length acap, a.tmps.getD 88 undef] _ Try.func12 (by kernel_rfl) rfl rfl (by rw [map4]; show #[a.tmps.getD 76 undef, a.tmps.getD 77 undef, a.tmps.getD 78 undef, a.tmps.getD 88 undef] = _; rw [h76, h77, h78])) (evalG (ST.out w (YW.out w hx)).1 (ST.out w (YW.out w hx)).2.1 KP.out (by omega) (by omega) LK.out AO.out (show valG (nodK 7 (nodK2 13 (nodK 7 (oneK cP)) (nodK 7 (oneK cQ)))) (a.tmps.getD 88 undef) w from hdep 88 12 rfl rfl))⟩
    | 14, ho => obtain rfl := Option.some.inj ho; intro a w hx hol hdep hwar; exact ⟨rfl, st_run (run_move a.eval _ _ _ _ _ w _ _ (hdep 89 13 rfl rfl)) (Ext.refl _) rfl⟩
    | 15, ho => obtain rfl := Option.some.inj ho; intro a w hx hol hdep hwar; exact ⟨rfl, st_run (run_extract a.eval _ _ _ _ _ w _ _ _ _ (hdep 75 14 rfl rfl) rfl) (Ext.refl _) rfl⟩
    | 16, ho => obtain rfl := Option.some.inj ho; intro a w hx hol hdep hwar; exact ⟨rfl, st_run (run_extract a.eval _ _ _ _ _ w _ _ _ _ (hdep 75 14 rfl rfl) rfl) (Ext.refl _) rfl⟩
    | 17, ho => obtain rfl := Option.some.inj ho; intro a w hx hol hdep hwar; exact ⟨rfl, st_run (run_allocV a.eval _ _ _ _ _ w) (Ext.alloc _ _) ⟨_, rfl, vbox_new (by have := hx.size; exact this)⟩⟩
    | 18, ho => exact absurd rfl hz
    | 19, ho => obtain rfl := Option.some.inj ho; intro a w hx hol hdep hwar; exact ⟨rfl, st_run (run_assign a.eval _ _ _ _ _ w _ _ (hdep 91 16 rfl rfl)) (Ext.refl _) rfl⟩
    | n + 20, ho => cases ho
  case hpu =>
    intro i o ho hz
    match i, ho with
    | 0, ho => exact .inl rfl
    | 1, ho => exact .inl rfl
    | 2, ho => exact .inl rfl
    | 3, ho => exact .inl rfl
    | 4, ho => exact .inl rfl
    | 5, ho => exact .inl rfl
    | 6, ho => exact .inl rfl
    | 7, ho => exact .inl rfl
    | 8, ho => exact .inl rfl
    | 9, ho => exact .inl rfl
    | 10, ho => exact .inl rfl
    | 11, ho => exact .inl rfl
    | 12, ho => exact .inl rfl
    | 13, ho => exact .inl rfl
    | 14, ho => exact .inl rfl
    | 15, ho => exact .inl rfl
    | 17, ho => exact .inl rfl
    | 16, ho => obtain rfl := Option.some.inj ho; refine .inr (.inr ?_); intro a w1 w hx hol hdep hwar; exact ⟨rfl, st_pure (run_extract a.eval _ _ _ _ _ w _ _ _ _ (hdep 75 14 rfl rfl) rfl) rfl⟩
    | 18, ho => exact absurd rfl hz
    | 19, ho => obtain rfl := Option.some.inj ho; refine .inr (.inr ?_); intro a w1 w hx hol hdep hwar; exact ⟨rfl, st_pure (run_assign a.eval _ _ _ _ _ w _ _ (hdep 91 16 rfl rfl)) rfl⟩
    | n + 20, ho => cases ho
  case hla =>
    intro o ho
    obtain rfl := Option.some.inj ho
    intro a w hx hol hdep hwar
    obtain ⟨g, h21, hN, k0, k1, f0, f1⟩ := hdep 21 17 rfl rfl
    refine ⟨rfl, wp_of_skip (run_storeV a.eval _ _ _ _ _ w _ _ g _ _ _ _ h21 (hdep 90 15 rfl rfl) k0 k1 f0 f1) ⟨undef, rfl, fun h => absurd h (by decide), g, h21, hN, rfl⟩⟩
  case hfin =>
    rintro x w1 w' h1 h2 h3 -
    obtain ⟨g, hx21, hgN, rfl⟩ := h3 (by decide)
    have hx22 : x 22 = .int .i64 0 := h2 22 19 rfl
    obtain ⟨g', hg', -, k0, k1, f0, f1⟩ := h2 21 17 rfl
    obtain rfl : g = g' := by rw [hx21] at hg'; injection hg' with q; injection q with q; injection q

    have l1 : t1.heap.size < g := Nat.lt_of_lt_of_le (block_lt_of_cell v1a) hgN
    have k1a : w1.cell? ⟨t1.heap.size, 0, none⟩ = some (.int .i64 2) := (Below.cell h1 (p := ⟨t1.heap.size, 0, none⟩) (block_lt_of_cell v1a)).trans v1a
    have k1b : w1.cell? ⟨t1.heap.size, 1, none⟩ = some (.int .i64 fP) := (Below.cell h1 (p := ⟨t1.heap.size, 1, none⟩) (block_lt_of_cell v1b)).trans v1b
    have l2 : t2.heap.size < g := Nat.lt_of_lt_of_le (block_lt_of_cell v2a) hgN
    have k2a : w1.cell? ⟨t2.heap.size, 0, none⟩ = some (.int .i64 2) := (Below.cell h1 (p := ⟨t2.heap.size, 0, none⟩) (block_lt_of_cell v2a)).trans v2a
    have k2b : w1.cell? ⟨t2.heap.size, 1, none⟩ = some (.int .i64 fQ) := (Below.cell h1 (p := ⟨t2.heap.size, 1, none⟩) (block_lt_of_cell v2b)).trans v2b
    have l3 : t3.heap.size < g := Nat.lt_of_lt_of_le (block_lt_of_cell v3a) hgN
    have k3a : w1.cell? ⟨t3.heap.size, 0, none⟩ = some (.int .i64 2) := (Below.cell h1 (p := ⟨t3.heap.size, 0, none⟩) (block_lt_of_cell v3a)).trans v3a
    have k3b : w1.cell? ⟨t3.heap.size, 1, none⟩ = some (.int .i64 (min fP fQ)) := (Below.cell h1 (p := ⟨t3.heap.size, 1, none⟩) (block_lt_of_cell v3b)).trans v3b
    have l4 : t4.heap.size < g := Nat.lt_of_lt_of_le (block_lt_of_cell v4a) hgN
    have k4a : w1.cell? ⟨t4.heap.size, 0, none⟩ = some (.int .i64 2) := (Below.cell h1 (p := ⟨t4.heap.size, 0, none⟩) (block_lt_of_cell v4a)).trans v4a
    have k4b : w1.cell? ⟨t4.heap.size, 1, none⟩ = some (.int .i64 (max fP fQ)) := (Below.cell h1 (p := ⟨t4.heap.size, 1, none⟩) (block_lt_of_cell v4b)).trans v4b
    have BW : Hid (Below w.heap.size w ((w1.setCell ⟨g, 0, none⟩ (.int .i64 2)).setCell ⟨g, 1, none⟩ (.int .i64 (min fP fQ)))) := by
      have q := (ST.out w1 (YW.out w1 h1)).2.2.2.2.1
      have hw : w.heap.size ≤ g := Nat.le_trans (ST.out y4 Y4.out).2.2.2.2.1.size hgN
      exact (q.setCell (p := ⟨g, 0, none⟩) hw _).setCell (p := ⟨g, 1, none⟩) hw _
    clear h2 h3 hg' v1a v1b v2a v2b v3a v3b v4a v4b h1 hgN
    dsimp only [frameT, ordT, List.foldl]
    rw [hx21, hx22]
    clear hx21 hx22
    generalize x 76 = q76
    generalize x 77 = q77
    generalize x 78 = q78
    generalize x 79 = q79
    generalize x 80 = q80
    generalize x 81 = q81
    generalize x 82 = q82
    generalize x 83 = q83
    generalize x 84 = q84
    generalize x 85 = q85
    generalize x 86 = q86
    generalize x 87 = q87
    generalize x 88 = q88
    generalize x 89 = q89
    generalize x 75 = q75
    generalize x 90 = q90
    generalize x 91 = q91
    go_simp
    go_wp2_with fail
    all_goals (
      refine (AW.out _).mono ?_
      rintro e w9 ⟨rfl, hb⟩
      have B9 := Lib.hid (BW.out.trans (hb.mono BW.out.size))
      clear hb
      go_wp2
      go_ret
      exact ⟨rfl, B9.out⟩)


end Go.Proofs.Ytinbkhchhlkjgaa
