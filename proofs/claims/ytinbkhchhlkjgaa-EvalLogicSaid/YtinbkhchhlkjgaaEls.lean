/-
  The contracts of pairinglaw14's not and same. Printed by wip/mkelo.py.
-/
import Derived.Test.YtinbkhchhlkjgaaEor
namespace Go.Proofs.Ytinbkhchhlkjgaa
set_option linter.unusedVariables false
set_option linter.unusedSimpArgs false
open Go.ChangeShapes Go.WideShapes Go.ChangeAt Go.RowKit
open Go.Deep (BT)

/-- The built constants, wherever they lie. -/
theorem bcs_val (g : Nat) : cvT (bcs g) = cvT (bcs 0) := by
  funext s
  unfold cvT
  have h : firstIx s (bcs g) = firstIx s (bcs 0) := rfl
  rw [h]
  cases firstIx s (bcs 0) with
  | none => rfl
  | some i =>
    match i with
    | 0 => rfl
    | 1 => rfl
    | i + 2 =>
      have z : ∀ g, cval (bcs g) (i + 2) = 0 := by
        intro g
        unfold cval
        rw [cvN, show (bcs g)[i + 2]? = none from rfl, List.getD_eq_getElem?_getD, List.getElem?_append_right (by rw [cvN_len]; omega), cvN_len]
        simp
      show cval (bcs g) (i + 2) = cval (bcs 0) (i + 2)
      rw [z g, z 0]
def nmB (sc : Int) (L : List Av) : ByteArray → Int := nmT sc (valsT sc L) (cvT (bcs 0))
def CBost (w : World) (e : Ending) (w' : World) : Prop := ∃ (g : Nat) (p : Option Addr) (cap : Nat), e = .returned (.slice p (bcs g).length cap) ∧ CsV w' (bcs g) p ∧ Below w.heap.size w w'
set_option maxHeartbeats 4000000 in
set_option maxRecDepth 100000 in
theorem bconsts2 (w : World) : Calls Try.prog 19 #[] w (CBost w) := by
  go_enter Try.func19, Try.ntmps19
  go_wp2
  go_ret
  refine ⟨w.heap.size, some ⟨w.heap.size + 1, 0, none⟩, 2, rfl, ⟨⟨w.heap.size + 1, 0, fun _ => rfl, ?_⟩, bcs_ok _, Nat.le_trans (show (bcs w.heap.size).length ≤ 2 from Nat.le_refl 2) (by decide)⟩, ((Below.refl _ _).alloc (Nat.le_refl _) _).alloc (by simp) _⟩
  refine ⟨⟨by simp [go_sem]; rfl, by simp [go_sem], by simp [go_sem], by simp [go_sem], by simp [go_sem, len]⟩, ⟨fun q => absurd rfl q, trivial⟩, ⟨by simp [go_sem]; rfl, by simp [go_sem], by simp [go_sem], by simp [go_sem], by simp [go_sem, len]⟩, ⟨fun _ => rfl, ⟨by simp [go_sem], by simp [go_sem], by simp [go_sem]; rfl, by simp [go_sem, len]⟩, fun q => absurd rfl q, trivial, ⟨by simp [go_sem], by simp [go_sem], by simp [go_sem], by simp [go_sem, len]⟩, fun q => absurd rfl q, trivial, trivial⟩, trivial⟩

set_option maxHeartbeats 2000000 in
set_option maxRecDepth 100000 in
theorem enot_any (c : Ch) (w : World) (hx : ExAt w c.b c.o c.a c.k) : Calls Try.prog 17 #[chV c] w fun e w'' => ∃ u, e = .returned u ∧ Ext w w'' ∧ valG (nodK 19 (oneK c)) u w'' := by
  have HX := Lib.hid hx
  clear hx
  unfold chV
  have B0 : Hid (Below w.heap.size w ((w.alloc (.cells #[.int .i64 c.a.op, .int .i64 c.a.num, .string c.a.name, .slice c.a.ptr (len c.k) c.a.cap] 26)).alloc (.cells #[.int .i64 0, .int .i64 0, .string ⟨#[]⟩, .slice none 0 0] 26))) := ((Below.refl _ _).alloc (Nat.le_refl _) _).alloc (by simp) _
  go_enter Try.func17, Try.ntmps17
  go_wp2_with fail
  refine (enode_any 19 _ 1 1 _).mono ?_
  rintro e w3 ⟨rfl, hb⟩
  have hc : ∀ b i, b < w.heap.size + 3 → w3.cell? ⟨b, i, none⟩ = _ := fun b i h => hb.cell (p := ⟨b, i, none⟩) (by simp; omega)
  have hf : ∀ b i, b < w.heap.size + 3 → w3.frozen? ⟨b, i, none⟩ = _ := fun b i h => hb.frozen (p := ⟨b, i, none⟩) (by simp; omega)
  have g0 : w3.cell? ⟨w.heap.size + 1 + 1, 0, none⟩ = some (.int .i64 c.a.op) := by rw [hc _ _ (by omega)]; simp [go_sem]
  have g1 : w3.cell? ⟨w.heap.size + 1 + 1, 1, none⟩ = some (.int .i64 c.a.num) := by rw [hc _ _ (by omega)]; simp [go_sem]
  have g2 : w3.cell? ⟨w.heap.size + 1 + 1, 2, none⟩ = some (.string c.a.name) := by rw [hc _ _ (by omega)]; simp [go_sem]
  have g3 : w3.cell? ⟨w.heap.size + 1 + 1, 3, none⟩ = some (.slice c.a.ptr (len c.k) c.a.cap) := by rw [hc _ _ (by omega)]; simp [go_sem]
  have r0 : w3.cell? ⟨w.heap.size + 1, 0, none⟩ = some (.int .i64 0) := by rw [hc _ _ (by omega)]; simp [go_sem]
  have r1 : w3.cell? ⟨w.heap.size + 1, 1, none⟩ = some (.int .i64 0) := by rw [hc _ _ (by omega)]; simp [go_sem]
  have r2 : w3.cell? ⟨w.heap.size + 1, 2, none⟩ = some (.string ⟨#[]⟩) := by rw [hc _ _ (by omega)]; simp [go_sem]
  have r3 : w3.cell? ⟨w.heap.size + 1, 3, none⟩ = some (.slice none 0 0) := by rw [hc _ _ (by omega)]; simp [go_sem]
  have f0 : w3.frozen? ⟨w.heap.size + 1, 0, none⟩ = false := by rw [hf _ _ (by omega)]; simp [go_sem]
  have f1 : w3.frozen? ⟨w.heap.size + 1, 1, none⟩ = false := by rw [hf _ _ (by omega)]; simp [go_sem]
  have f2 : w3.frozen? ⟨w.heap.size + 1, 2, none⟩ = false := by rw [hf _ _ (by omega)]; simp [go_sem]
  have f3 : w3.frozen? ⟨w.heap.size + 1, 3, none⟩ = false := by rw [hf _ _ (by omega)]; simp [go_sem]
  have B3 : Hid (Below w.heap.size w w3) := (B0.out.alloc (by simp; omega) _).trans (hb.mono (by simp; omega))
  clear hc hf hb
  have BW : Hid (Below w.heap.size w ((((w3.setCell ⟨w.heap.size + 1, 0, none⟩ (.int .i64 19)).setCell ⟨w.heap.size + 1, 1, none⟩ (.int .i64 0)).setCell ⟨w.heap.size + 1, 2, none⟩ (.string ⟨#[]⟩)).setCell ⟨w.heap.size + 1, 3, none⟩ (.slice (some ⟨w.heap.size + 1 + 1, 0, none⟩) 1 1))) := (((B3.out.setCell (p := ⟨w.heap.size + 1, 0, none⟩) (Nat.le_succ _) _).setCell (p := ⟨w.heap.size + 1, 1, none⟩) (Nat.le_succ _) _).setCell (p := ⟨w.heap.size + 1, 2, none⟩) (Nat.le_succ _) _).setCell (p := ⟨w.heap.size + 1, 3, none⟩) (Nat.le_succ _) _
  have q0 : ((((w3.setCell ⟨w.heap.size + 1, 0, none⟩ (.int .i64 19)).setCell ⟨w.heap.size + 1, 1, none⟩ (.int .i64 0)).setCell ⟨w.heap.size + 1, 2, none⟩ (.string ⟨#[]⟩)).setCell ⟨w.heap.size + 1, 3, none⟩ (.slice (some ⟨w.heap.size + 1 + 1, 0, none⟩) 1 1)).cell? ⟨w.heap.size + 1 + 1, 0, none⟩ = some (.int .i64 c.a.op) := by simp [go_sem, g0]
  have q1 : ((((w3.setCell ⟨w.heap.size + 1, 0, none⟩ (.int .i64 19)).setCell ⟨w.heap.size + 1, 1, none⟩ (.int .i64 0)).setCell ⟨w.heap.size + 1, 2, none⟩ (.string ⟨#[]⟩)).setCell ⟨w.heap.size + 1, 3, none⟩ (.slice (some ⟨w.heap.size + 1 + 1, 0, none⟩) 1 1)).cell? ⟨w.heap.size + 1 + 1, 1, none⟩ = some (.int .i64 c.a.num) := by simp [go_sem, g1]
  have q2 : ((((w3.setCell ⟨w.heap.size + 1, 0, none⟩ (.int .i64 19)).setCell ⟨w.heap.size + 1, 1, none⟩ (.int .i64 0)).setCell ⟨w.heap.size + 1, 2, none⟩ (.string ⟨#[]⟩)).setCell ⟨w.heap.size + 1, 3, none⟩ (.slice (some ⟨w.heap.size + 1 + 1, 0, none⟩) 1 1)).cell? ⟨w.heap.size + 1 + 1, 2, none⟩ = some (.string c.a.name) := by simp [go_sem, g2]
  have q3 : ((((w3.setCell ⟨w.heap.size + 1, 0, none⟩ (.int .i64 19)).setCell ⟨w.heap.size + 1, 1, none⟩ (.int .i64 0)).setCell ⟨w.heap.size + 1, 2, none⟩ (.string ⟨#[]⟩)).setCell ⟨w.heap.size + 1, 3, none⟩ (.slice (some ⟨w.heap.size + 1 + 1, 0, none⟩) 1 1)).cell? ⟨w.heap.size + 1 + 1, 3, none⟩ = some (.slice c.a.ptr (len c.k) c.a.cap) := by simp [go_sem, g3]
  have QQ := Lib.hid (And.intro q0 (And.intro q1 (And.intro q2 q3)))
  clear q0 q1 q2 q3
  go_wp2
  refine bodyPost_ret (v := .agg #[.int .i64 19, .int .i64 0, .string ⟨#[]⟩, .slice (some ⟨w.heap.size + 1 + 1, 0, none⟩) 1 1]) ?_ rfl ⟨_, rfl, BW.out, nd 19 (w.heap.size + 1 + 1) [c], ⟨_, c, rfl, rfl⟩, rfl, fun _ => rfl, QQ.out, (HX.out.next BW.out).1, (HX.out.next BW.out).2, trivial⟩
  rw [results_cell1 rfl]
  go_simp
theorem notG {X : Kd} {v : Value} {w : World} (h : valG X v w) : Calls Try.prog 17 #[v] w fun e w'' => ∃ u, e = .returned u ∧ Ext w w'' ∧ valG (nodK 19 X) u w'' := by
  obtain ⟨c, h1, rfl, h3⟩ := h
  refine (enot_any c w h3).mono ?_
  rintro e w'' ⟨u, he, hx, c', ⟨g, d, rfl, rfl⟩, h5, h6⟩
  exact ⟨u, he, hx, _, ⟨g, d, h1, rfl⟩, h5, h6⟩

def samG (c0 c1 : Value) (cX : Ch) (kind x : Int) (N : Nat) (i : Nat) (v : Value) (w : World) : Prop :=
  match i with
  | 0 => ∃ (g : Nat) (p : Option Addr) (cap : Nat), v = .slice p (bcs g).length cap ∧ CsV w (bcs g) p
  | 1 => v = c0 | 2 => v = c1
  | 3 => valG (oneK cX) v w
  | 4 => v = .tuple #[.agg #[.int .i64 kind, .int .i64 x], .int .i64 0] | 5 => v = .tuple #[.agg #[.int .i64 kind, .int .i64 x], .int .i64 0] | 6 => v = .agg #[.int .i64 kind, .int .i64 x] | 7 => v = .int .i64 0
  | 8 => ∃ g, v = .pointer (some ⟨g, 0, none⟩) ∧ VBox w N g
  | 10 => v = .int .i64 0
  | _ => True
theorem samG_ext (c0 c1 : Value) (cX : Ch) (kind x : Int) (N : Nat) (i : Nat) (v : Value) (w w' : World) (h : samG c0 c1 cX kind x N i v w) (he : Ext w w') : samG c0 c1 cX kind x N i v w' := by
  unfold samG at h ⊢
  split at h
  all_goals first | exact h | exact valG.ext h he | (obtain ⟨g, p, cap, h1, h2⟩ := h; exact ⟨g, p, cap, h1, h2.next he⟩) | (obtain ⟨g, h1, h2⟩ := h; exact ⟨g, h1, h2.ext he⟩)
def samF (t : Nat) (kind m : Int) (N : Nat) (x : Nat → Value) (w1 w' : World) : Prop := ∃ g, x t = .pointer (some ⟨g, 0, none⟩) ∧ N ≤ g ∧ w' = (w1.setCell ⟨g, 0, none⟩ (.int .i64 kind)).setCell ⟨g, 1, none⟩ (.int .i64 m)
def samT1 : List (Nat × Nat) := [(14, 0), (15, 1), (16, 2), (17, 3), (18, 4), (13, 5), (19, 6), (20, 7), (9, 8), (10, 10)]
def samT2 : List (Nat × Nat) := [(22, 0), (23, 1), (24, 2), (25, 3), (26, 4), (21, 5), (27, 6), (28, 7), (11, 8), (12, 10)]
/-- Eval with the built constants. -/
theorem evalB {g : Nat} {p : Option Addr} {cap : Nat} {sc : Int} {L : List Av} {ap : Option Addr} {apc : Nat} {kind x : Int} {S D : Nat} {c : Ch} {w : World} (hcs : CsV w (bcs g) p) (hav : AvV w L ap) (hb : Bx sc kind S D c) (hx : exv (nmB sc L) c = x) (hS : S ≤ 200) (hD : D ≤ 16) (hL : AttrsOk sc L) {v : Value} (h : valG (oneK c) v w) :
    Calls Try.prog 12 #[.slice p (bcs g).length cap, .int .i64 sc, .slice ap L.length apc, v] w fun e w'' => ∃ u, e = .returned u ∧ Ext w w'' ∧ u = .tuple #[.agg #[.int .i64 kind, .int .i64 x], .int .i64 0] := by
  have k := kd_one (nm := nmT sc (valsT sc L) (cvT (bcs g))) hb
  have e : exv (nmT sc (valsT sc L) (cvT (bcs g))) c = x := by rw [bcs_val g]; exact hx
  rw [e] at k
  exact evalG hcs hav k hS hD (bcs_look g) hL h

theorem map0 {α β : Type} (f : α → β) : (#[] : Array α).map f = #[] := by simp
set_option maxHeartbeats 4000000 in
set_option maxRecDepth 100000 in
theorem same_any (sc : Int) (L : List Av) (ap : Option Addr) (acap : Nat) (cX cY : Ch) (kind x : Int) (S D : Nat) (w0 : World) (hav : AvV w0 L ap) (hX : ExAt w0 cX.b cX.o cX.a cX.k) (hY : ExAt w0 cY.b cY.o cY.a cY.k) (bX : Bx sc kind S D cX) (bY : Bx sc kind S D cY) (eX : exv (nmB sc L) cX = x) (eY : exv (nmB sc L) cY = x) (hS : S ≤ 200) (hD : D ≤ 16) (hA : AttrsOk sc L) :
    Calls Try.prog 16 #[.int .i64 sc, .slice ap L.length acap, .agg #[.int .i64 cX.a.op, .int .i64 cX.a.num, .string cX.a.name, .slice cX.a.ptr (len cX.k) cX.a.cap], .agg #[.int .i64 cY.a.op, .int .i64 cY.a.num, .string cY.a.name, .slice cY.a.ptr (len cY.k) cY.a.cap]] w0 fun e w' => e = .returned (.bool true) ∧ Below w0.heap.size w0 w' := by
  have HAV := Lib.hid hav
  have HX := Lib.hid hX
  have HY := Lib.hid hY
  have BXX := Lib.hid bX
  have BYY := Lib.hid bY
  have EX := Lib.hid eX
  have EY := Lib.hid eY
  have HA := Lib.hid hA
  clear hav hX hY bX bY eX eY hA
  have K0 : Hid (Below w0.heap.size w0 ((w0.alloc (.cells #[.int .i64 cX.a.op, .int .i64 cX.a.num, .string cX.a.name, .slice cX.a.ptr (len cX.k) cX.a.cap] 26)).alloc (.cells #[.int .i64 cY.a.op, .int .i64 cY.a.num, .string cY.a.name, .slice cY.a.ptr (len cY.k) cY.a.cap] 26))) := ((Below.refl _ _).alloc (Nat.le_refl _) _).alloc (by simp) _
  have BX : Hid (∀ wr, Below (w0.heap.size + 2) ((w0.alloc (.cells #[.int .i64 cX.a.op, .int .i64 cX.a.num, .string cX.a.name, .slice cX.a.ptr (len cX.k) cX.a.cap] 26)).alloc (.cells #[.int .i64 cY.a.op, .int .i64 cY.a.num, .string cY.a.name, .slice cY.a.ptr (len cY.k) cY.a.cap] 26)) wr →
      (wr.cell? ⟨w0.heap.size, 0, none⟩ = some (.int .i64 cX.a.op) ∧ wr.cell? ⟨w0.heap.size, 1, none⟩ = some (.int .i64 cX.a.num) ∧ wr.cell? ⟨w0.heap.size, 2, none⟩ = some (.string cX.a.name) ∧ wr.cell? ⟨w0.heap.size, 3, none⟩ = some (.slice cX.a.ptr (len cX.k) cX.a.cap)) ∧
      (wr.cell? ⟨w0.heap.size + 1, 0, none⟩ = some (.int .i64 cY.a.op) ∧ wr.cell? ⟨w0.heap.size + 1, 1, none⟩ = some (.int .i64 cY.a.num) ∧ wr.cell? ⟨w0.heap.size + 1, 2, none⟩ = some (.string cY.a.name) ∧ wr.cell? ⟨w0.heap.size + 1, 3, none⟩ = some (.slice cY.a.ptr (len cY.k) cY.a.cap))) := by
    intro wr hb
    refine ⟨⟨?_, ?_, ?_, ?_⟩, ?_, ?_, ?_, ?_⟩
    · rw [hb.cell (p := ⟨w0.heap.size, 0, none⟩) (by simp)]; simp [go_sem]
    · rw [hb.cell (p := ⟨w0.heap.size, 1, none⟩) (by simp)]; simp [go_sem]
    · rw [hb.cell (p := ⟨w0.heap.size, 2, none⟩) (by simp)]; simp [go_sem]
    · rw [hb.cell (p := ⟨w0.heap.size, 3, none⟩) (by simp)]; simp [go_sem]
    · rw [hb.cell (p := ⟨w0.heap.size + 1, 0, none⟩) (by simp)]; simp [go_sem]
    · rw [hb.cell (p := ⟨w0.heap.size + 1, 1, none⟩) (by simp)]; simp [go_sem]
    · rw [hb.cell (p := ⟨w0.heap.size + 1, 2, none⟩) (by simp)]; simp [go_sem]
    · rw [hb.cell (p := ⟨w0.heap.size + 1, 3, none⟩) (by simp)]; simp [go_sem]
  have Z0 : Hid (((w0.alloc (.cells #[.int .i64 cX.a.op, .int .i64 cX.a.num, .string cX.a.name, .slice cX.a.ptr (len cX.k) cX.a.cap] 26)).alloc (.cells #[.int .i64 cY.a.op, .int .i64 cY.a.num, .string cY.a.name, .slice cY.a.ptr (len cY.k) cY.a.cap] 26)).heap.size = w0.heap.size + 2) := by unfold Hid; simp
  go_enter Try.func16, Try.ntmps16
  go_upto_region 1 with (fail)
  generalize hy0 : ((w0.alloc (.cells #[.int .i64 cX.a.op, .int .i64 cX.a.num, .string cX.a.name, .slice cX.a.ptr (len cX.k) cX.a.cap] 26)).alloc (.cells #[.int .i64 cY.a.op, .int .i64 cY.a.num, .string cY.a.name, .slice cY.a.ptr (len cY.k) cY.a.cap] 26)) = y0 at *
  clear hy0
  have ST : Hid (∀ wr, Below (w0.heap.size + 2) y0 wr → AvV wr L ap ∧ ExAt wr cX.b cX.o cX.a cX.k ∧ ExAt wr cY.b cY.o cY.a cY.k ∧ Below w0.heap.size w0 wr ∧ w0.heap.size + 2 ≤ wr.heap.size) := by
    intro wr hb
    have h9 : Below w0.heap.size w0 wr := K0.out.trans (hb.mono (by omega))
    exact ⟨HAV.out.fore h9, HX.out.next h9, HY.out.next h9, h9, by rw [← Z0.out]; exact hb.size⟩
  have Y0 : Hid (Below (w0.heap.size + 2) y0 y0) := Below.refl _ _
  have YW1 : Hid (∀ w, Ext y0.drew w → Below (w0.heap.size + 2) y0 w) := fun w h => Y0.out.drew.trans (Below.mono h (ST.out y0 Y0.out).2.2.2.2)
  refine plan_tbl samT1 (samG (.int .i64 sc) (.slice ap L.length acap) cX kind x y0.heap.size) 9 (samF 9 kind x y0.heap.size) (by kernel_rfl) (by kernel_rfl) (samG_ext _ _ _ _ _ _) ?hF ?hst ?hpu ?hla ?hfin
  case hF =>
    rintro x x' w1 w' hx ⟨g, h1, h2, h3⟩
    exact ⟨g, by rw [← hx 9 (.inr ⟨8, rfl, .inr rfl⟩)]; exact h1, h2, h3⟩
  case hst =>
    intro i o ho hz
    match i, ho with
    | 0, ho =>
      obtain rfl := Option.some.inj ho
      intro a w hx hol hdep hwar
      refine ⟨rfl, st_enter (run_call a.eval _ _ _ _ _ w _ _ _ Try.func19 (by kernel_rfl) rfl rfl (map0 _)) ((bconsts2 w).mono ?_)⟩
      rintro e w' ⟨g, p, cap, rfl, h1, h2⟩
      exact ⟨_, rfl, h2, g, p, cap, rfl, h1⟩
    | 1, ho => obtain rfl := Option.some.inj ho; intro a w hx hol hdep hwar; exact ⟨rfl, st_run (run_move a.eval _ _ _ _ _ w _ _ (hol 0 rfl)) (Ext.refl _) rfl⟩
    | 2, ho => obtain rfl := Option.some.inj ho; intro a w hx hol hdep hwar; exact ⟨rfl, st_run (run_move a.eval _ _ _ _ _ w _ _ (hol 1 rfl)) (Ext.refl _) rfl⟩
    | 3, ho => obtain rfl := Option.some.inj ho; intro a w hx hol hdep hwar; have q := (BX.out w (YW1.out w hx)).1; exact ⟨rfl, st_run (run_loadE a.eval _ _ _ _ _ w _ w0.heap.size _ _ _ _ (hol 6 rfl) q.1 q.2.1 q.2.2.1 q.2.2.2) (Ext.refl _) ⟨cX, rfl, rfl, (ST.out w (YW1.out w hx)).2.1⟩⟩
    | 4, ho =>
      obtain rfl := Option.some.inj ho
      intro a w hx hol hdep hwar
      obtain ⟨g, p, cap, h14, hcs⟩ : ∃ (g : Nat) (p : Option Addr) (cap : Nat), a.tmps.getD 14 undef = .slice p (bcs g).length cap ∧ CsV w (bcs g) p := hdep 14 0 rfl rfl
      have h15 : a.tmps.getD 15 undef = .int .i64 sc := hdep 15 1 rfl rfl
      have h16 : a.tmps.getD 16 undef = .slice ap L.length acap := hdep 16 2 rfl rfl
      exact ⟨rfl, st_enter (run_call a.eval _ _ _ _ _ w _ #[.slice p (bcs g).length cap, .int .i64 sc, .slice ap L.length acap, a.tmps.getD 17 undef] _ Try.func12 (by kernel_rfl) rfl rfl (by rw [map4]; show #[a.tmps.getD 14 undef, a.tmps.getD 15 undef, a.tmps.getD 16 undef, a.tmps.getD 17 undef] = _; rw [h14, h15, h16])) (evalB hcs (ST.out w (YW1.out w hx)).1 BXX.out EX.out hS hD HA.out (show valG (oneK cX) (a.tmps.getD 17 undef) w from hdep 17 3 rfl rfl))⟩
    | 5, ho => obtain rfl := Option.some.inj ho; intro a w hx hol hdep hwar; exact ⟨rfl, st_run (run_move a.eval _ _ _ _ _ w _ _ (hdep 18 4 rfl rfl)) (Ext.refl _) rfl⟩
    | 6, ho => obtain rfl := Option.some.inj ho; intro a w hx hol hdep hwar; exact ⟨rfl, st_run (run_extract a.eval _ _ _ _ _ w _ _ _ _ (hdep 13 5 rfl rfl) rfl) (Ext.refl _) rfl⟩
    | 7, ho => obtain rfl := Option.some.inj ho; intro a w hx hol hdep hwar; exact ⟨rfl, st_run (run_extract a.eval _ _ _ _ _ w _ _ _ _ (hdep 13 5 rfl rfl) rfl) (Ext.refl _) rfl⟩
    | 8, ho => obtain rfl := Option.some.inj ho; intro a w hx hol hdep hwar; exact ⟨rfl, st_run (run_allocV a.eval _ _ _ _ _ w) (Ext.alloc _ _) ⟨_, rfl, vbox_new (by have := hx.size; exact this)⟩⟩
    | 9, ho => exact absurd rfl hz
    | 10, ho => obtain rfl := Option.some.inj ho; intro a w hx hol hdep hwar; exact ⟨rfl, st_run (run_assign a.eval _ _ _ _ _ w _ _ (hdep 20 7 rfl rfl)) (Ext.refl _) rfl⟩
    | n + 11, ho => cases ho
  case hpu =>
    intro i o ho hz
    match i, ho with
    | 0, ho => exact .inl rfl
    | 1, ho => exact .inl rfl
    | 2, ho => exact .inl rfl
    | 3, ho => exact .inl rfl
    | 4, ho => exact .inl rfl
    | 5, ho => exact .inl rfl
    | 6, ho => exact .inl rfl
    | 8, ho => exact .inl rfl
    | 7, ho => obtain rfl := Option.some.inj ho; refine .inr (.inr ?_); intro a w1 w hx hol hdep hwar; exact ⟨rfl, st_pure (run_extract a.eval _ _ _ _ _ w _ _ _ _ (hdep 13 5 rfl rfl) rfl) rfl⟩
    | 9, ho => exact absurd rfl hz
    | 10, ho => obtain rfl := Option.some.inj ho; refine .inr (.inr ?_); intro a w1 w hx hol hdep hwar; exact ⟨rfl, st_pure (run_assign a.eval _ _ _ _ _ w _ _ (hdep 20 7 rfl rfl)) rfl⟩
    | n + 11, ho => cases ho
  case hla =>
    intro o ho
    obtain rfl := Option.some.inj ho
    intro a w hx hol hdep hwar
    obtain ⟨g, h21, hN, k0, k1, f0, f1⟩ := hdep 9 8 rfl rfl
    refine ⟨rfl, wp_of_skip (run_storeV a.eval _ _ _ _ _ w _ _ g _ _ _ _ h21 (hdep 19 6 rfl rfl) k0 k1 f0 f1) ⟨undef, rfl, fun h => absurd h (by decide), g, h21, hN, rfl⟩⟩
  case hfin =>
    rintro q w1 w' h1 h2 h3 -
    obtain ⟨g, hx9, hgN, rfl⟩ := h3 (by decide)
    have hx10 : q 10 = .int .i64 0 := h2 10 10 rfl
    obtain ⟨g', hg', -, k0, k1, f0, f1⟩ := h2 9 8 rfl
    obtain rfl : g = g' := by rw [hx9] at hg'; injection hg' with q; injection q with q; injection q
    have hg0 : w0.heap.size + 2 ≤ g := Nat.le_trans (ST.out y0 Y0.out).2.2.2.2 hgN
    have Y1 : Hid (Below (w0.heap.size + 2) y0 ((w1.setCell ⟨g, 0, none⟩ (.int .i64 kind)).setCell ⟨g, 1, none⟩ (.int .i64 x))) := ((YW1.out w1 h1).setCell (p := ⟨g, 0, none⟩) hg0 _).setCell (p := ⟨g, 1, none⟩) hg0 _
    have d0 : ((w1.setCell ⟨g, 0, none⟩ (.int .i64 kind)).setCell ⟨g, 1, none⟩ (.int .i64 x)).cell? ⟨g, 0, none⟩ = some (.int .i64 kind) := by simp [go_sem, k0, k1]
    have d1 : ((w1.setCell ⟨g, 0, none⟩ (.int .i64 kind)).setCell ⟨g, 1, none⟩ (.int .i64 x)).cell? ⟨g, 1, none⟩ = some (.int .i64 x) := by simp [go_sem, k0, k1]
    clear h2 h3 hg' h1 k0 k1 f0 f1
    generalize (w1.setCell ⟨g, 0, none⟩ (.int .i64 kind)).setCell ⟨g, 1, none⟩ (.int .i64 x) = y1 at *
    dsimp only [frameT, samT1, List.foldl]
    rw [hx9, hx10]
    clear hx9 hx10
    generalize q 14 = q14
    generalize q 15 = q15
    generalize q 16 = q16
    generalize q 17 = q17
    generalize q 18 = q18
    generalize q 13 = q13
    generalize q 19 = q19
    generalize q 20 = q20
    go_simp
    go_upto_region 2 with (fail)
    have YW2 : Hid (∀ w, Ext y1.drew w → Below (w0.heap.size + 2) y0 w) := fun w h => Y1.out.drew.trans (Below.mono h (ST.out y1 Y1.out).2.2.2.2)
    refine plan_tbl samT2 (samG (.int .i64 sc) (.slice ap L.length acap) cY kind x y1.heap.size) 9 (samF 11 kind x y1.heap.size) (by kernel_rfl) (by kernel_rfl) (samG_ext _ _ _ _ _ _) ?hF ?hst ?hpu ?hla ?hfin
    case hF =>
      rintro x x' w1 w' hx ⟨g, h1, h2, h3⟩
      exact ⟨g, by rw [← hx 11 (.inr ⟨8, rfl, .inr rfl⟩)]; exact h1, h2, h3⟩
    case hst =>
      intro i o ho hz
      match i, ho with
      | 0, ho =>
        obtain rfl := Option.some.inj ho
        intro a w hx hol hdep hwar
        refine ⟨rfl, st_enter (run_call a.eval _ _ _ _ _ w _ _ _ Try.func19 (by kernel_rfl) rfl rfl (map0 _)) ((bconsts2 w).mono ?_)⟩
        rintro e w' ⟨g, p, cap, rfl, h1, h2⟩
        exact ⟨_, rfl, h2, g, p, cap, rfl, h1⟩
      | 1, ho => obtain rfl := Option.some.inj ho; intro a w hx hol hdep hwar; exact ⟨rfl, st_run (run_move a.eval _ _ _ _ _ w _ _ (hol 0 rfl)) (Ext.refl _) rfl⟩
      | 2, ho => obtain rfl := Option.some.inj ho; intro a w hx hol hdep hwar; exact ⟨rfl, st_run (run_move a.eval _ _ _ _ _ w _ _ (hol 1 rfl)) (Ext.refl _) rfl⟩
      | 3, ho => obtain rfl := Option.some.inj ho; intro a w hx hol hdep hwar; have q := (BX.out w (YW2.out w hx)).2; exact ⟨rfl, st_run (run_loadE a.eval _ _ _ _ _ w _ (w0.heap.size + 1) _ _ _ _ (hol 7 rfl) q.1 q.2.1 q.2.2.1 q.2.2.2) (Ext.refl _) ⟨cY, rfl, rfl, (ST.out w (YW2.out w hx)).2.2.1⟩⟩
      | 4, ho =>
        obtain rfl := Option.some.inj ho
        intro a w hx hol hdep hwar
        obtain ⟨g, p, cap, h14, hcs⟩ : ∃ (g : Nat) (p : Option Addr) (cap : Nat), a.tmps.getD 22 undef = .slice p (bcs g).length cap ∧ CsV w (bcs g) p := hdep 22 0 rfl rfl
        have h15 : a.tmps.getD 23 undef = .int .i64 sc := hdep 23 1 rfl rfl
        have h16 : a.tmps.getD 24 undef = .slice ap L.length acap := hdep 24 2 rfl rfl
        exact ⟨rfl, st_enter (run_call a.eval _ _ _ _ _ w _ #[.slice p (bcs g).length cap, .int .i64 sc, .slice ap L.length acap, a.tmps.getD 25 undef] _ Try.func12 (by kernel_rfl) rfl rfl (by rw [map4]; show #[a.tmps.getD 22 undef, a.tmps.getD 23 undef, a.tmps.getD 24 undef, a.tmps.getD 25 undef] = _; rw [h14, h15, h16])) (evalB hcs (ST.out w (YW2.out w hx)).1 BYY.out EY.out hS hD HA.out (show valG (oneK cY) (a.tmps.getD 25 undef) w from hdep 25 3 rfl rfl))⟩
      | 5, ho => obtain rfl := Option.some.inj ho; intro a w hx hol hdep hwar; exact ⟨rfl, st_run (run_move a.eval _ _ _ _ _ w _ _ (hdep 26 4 rfl rfl)) (Ext.refl _) rfl⟩
      | 6, ho => obtain rfl := Option.some.inj ho; intro a w hx hol hdep hwar; exact ⟨rfl, st_run (run_extract a.eval _ _ _ _ _ w _ _ _ _ (hdep 21 5 rfl rfl) rfl) (Ext.refl _) rfl⟩
      | 7, ho => obtain rfl := Option.some.inj ho; intro a w hx hol hdep hwar; exact ⟨rfl, st_run (run_extract a.eval _ _ _ _ _ w _ _ _ _ (hdep 21 5 rfl rfl) rfl) (Ext.refl _) rfl⟩
      | 8, ho => obtain rfl := Option.some.inj ho; intro a w hx hol hdep hwar; exact ⟨rfl, st_run (run_allocV a.eval _ _ _ _ _ w) (Ext.alloc _ _) ⟨_, rfl, vbox_new (by have := hx.size; exact this)⟩⟩
      | 9, ho => exact absurd rfl hz
      | 10, ho => obtain rfl := Option.some.inj ho; intro a w hx hol hdep hwar; exact ⟨rfl, st_run (run_assign a.eval _ _ _ _ _ w _ _ (hdep 28 7 rfl rfl)) (Ext.refl _) rfl⟩
      | n + 11, ho => cases ho
    case hpu =>
      intro i o ho hz
      match i, ho with
      | 0, ho => exact .inl rfl
      | 1, ho => exact .inl rfl
      | 2, ho => exact .inl rfl
      | 3, ho => exact .inl rfl
      | 4, ho => exact .inl rfl
      | 5, ho => exact .inl rfl
      | 6, ho => exact .inl rfl
      | 8, ho => exact .inl rfl
      | 7, ho => obtain rfl := Option.some.inj ho; refine .inr (.inr ?_); intro a w1 w hx hol hdep hwar; exact ⟨rfl, st_pure (run_extract a.eval _ _ _ _ _ w _ _ _ _ (hdep 21 5 rfl rfl) rfl) rfl⟩
      | 9, ho => exact absurd rfl hz
      | 10, ho => obtain rfl := Option.some.inj ho; refine .inr (.inr ?_); intro a w1 w hx hol hdep hwar; exact ⟨rfl, st_pure (run_assign a.eval _ _ _ _ _ w _ _ (hdep 28 7 rfl rfl)) rfl⟩
      | n + 11, ho => cases ho
    case hla =>
      intro o ho
      obtain rfl := Option.some.inj ho
      intro a w hx hol hdep hwar
      obtain ⟨g, h21, hN, k0, k1, f0, f1⟩ := hdep 11 8 rfl rfl
      refine ⟨rfl, wp_of_skip (run_storeV a.eval _ _ _ _ _ w _ _ g _ _ _ _ h21 (hdep 27 6 rfl rfl) k0 k1 f0 f1) ⟨undef, rfl, fun h => absurd h (by decide), g, h21, hN, rfl⟩⟩
    case hfin =>
      rintro q w2 w' h1 h2 h3 -
      obtain ⟨g2, hx9, hgN2, rfl⟩ := h3 (by decide)
      have hx10 : q 12 = .int .i64 0 := h2 12 10 rfl
      obtain ⟨g', hg', -, k0, k1, f0, f1⟩ := h2 11 8 rfl
      obtain rfl : g2 = g' := by rw [hx9] at hg'; injection hg' with q; injection q with q; injection q
      have hg0 : w0.heap.size ≤ g2 := Nat.le_trans (ST.out y1 Y1.out).2.2.2.1.size hgN2
      have hlt : g < g2 := Nat.lt_of_lt_of_le (block_lt_of_cell d0) hgN2
      have e0 : w2.cell? ⟨g, 0, none⟩ = some (.int .i64 kind) := (Below.cell h1 (p := ⟨g, 0, none⟩) (block_lt_of_cell d0)).trans d0
      have e1 : w2.cell? ⟨g, 1, none⟩ = some (.int .i64 x) := (Below.cell h1 (p := ⟨g, 1, none⟩) (block_lt_of_cell d1)).trans d1
      have BW : Hid (Below w0.heap.size w0 ((w2.setCell ⟨g2, 0, none⟩ (.int .i64 kind)).setCell ⟨g2, 1, none⟩ (.int .i64 x))) := ((ST.out w2 (YW2.out w2 h1)).2.2.2.1.setCell (p := ⟨g2, 0, none⟩) hg0 _).setCell (p := ⟨g2, 1, none⟩) hg0 _
      clear h2 h3 hg' h1
      dsimp only [frameT, samT2, List.foldl]
      rw [hx9, hx10]
      clear hx9 hx10
      generalize q 22 = q22
      generalize q 23 = q23
      generalize q 24 = q24
      generalize q 25 = q25
      generalize q 26 = q26
      generalize q 21 = q21
      generalize q 27 = q27
      generalize q 28 = q28
      go_simp
      go_wp2
      go_ret
      exact ⟨rfl, BW.out⟩
theorem sameG {sc : Int} {L : List Av} {ap : Option Addr} {acap : Nat} {X Y : Kd} {kind x y : Int} {S D : Nat} {u v : Value} {w : World} (hav : AvV w L ap) (kX : KdOk (nmB sc L) sc kind S D X x) (kY : KdOk (nmB sc L) sc kind S D Y y) (hxy : x = y) (hS : S ≤ 200) (hD : D ≤ 16) (hA : AttrsOk sc L) (hu : valG X u w) (hv : valG Y v w) :
    Calls Try.prog 16 #[.int .i64 sc, .slice ap L.length acap, u, v] w fun e w'' => ∃ z, e = .returned z ∧ Ext w w'' ∧ z = .bool true := by
  obtain ⟨c, h1, rfl, h3⟩ := hu
  obtain ⟨d, k1, rfl, k3⟩ := hv
  subst hxy
  refine (same_any sc L ap acap c d kind x S D w hav h3 k3 (kX c h1).1 (kY d k1).1 (kX c h1).2 (kY d k1).2 hS hD hA).mono ?_
  rintro e w'' ⟨rfl, hb⟩
  exact ⟨_, rfl, hb, rfl⟩
section
variable {P : Program} (ρ : Operand → Value) (d : Option Tmp) (ty : TypeId) (pos : String) (af : Array Edge) (gd : Option (Nat × Bool)) (w : World)
theorem run_pick (x y z : Operand) (hx : ρ x = .bool true) (hy : ρ y = .bool true) : (execOp ρ ⟨d, .pick x y z, ty, pos, af, gd⟩).run P w = .ok (.value (.bool true)) w := by
  simp [execOp, hx, hy, go_sem]
end
theorem want_of {ops : Array Oper} {o og : Oper} {g t : Nat} {a : Act} (hg : o.guard = some (g, true)) (ho : ops[g]? = some og) (hd : og.dst = some t) (h : a.tmps.getD t undef = .bool true) : Region.wanted o (yielded ops a.tmps) = true := by
  unfold Region.wanted
  rw [hg]
  dsimp only
  unfold yielded
  rw [ho]
  simp only [Option.bind_some, hd]
  rw [Array.getD_eq_getD_getElem?] at h
  cases q : a.tmps[t]? with
  | none => rw [q] at h; cases h
  | some u => rw [q] at h; simp at h; subst h; rfl

end Go.Proofs.Ytinbkhchhlkjgaa
