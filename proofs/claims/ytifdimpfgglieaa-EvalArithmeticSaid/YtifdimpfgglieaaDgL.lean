/-
  The contract of pairingref1's DivMod.
-/
import Derived.Test.YtifdimpfgglieaaDgK
namespace Go.Proofs.Ytifdimpfgglieaa
set_option linter.unusedVariables false
set_option linter.unusedSimpArgs false
open Go.ChangeShapes Go.WideShapes Go.ChangeAt Go.RowKit

theorem div_iv (A B : Option Addr) (c d x y n m : Nat) (w : World) (ha : DgA w A c (dgs x)) (hb : DgA w B d (dgs y)) (hn : (dgs x).length = n) (hm : (dgs y).length = m) (hs : n ≤ 20) (hs2 : m ≤ 20) (hy : y ≠ 0) :
    Calls Try.prog 15 #[.slice A n c, .slice B m d] w (DvP w (x / y) (x % y)) := div_any A B c d x y n m w ha hb hn hm hs hs2 hy
/-- What DivMod answers: the quotient is z. -/
def DmP (w : World) (z : Int) (e : Ending) (w' : World) : Prop := ∃ A c t A' n' c', e = .returned (.tuple #[.agg #[.bool (decide (z < 0)), .slice A (dgs z.natAbs).length c], .agg #[.bool t, .slice A' n' c'], .int .i64 0]) ∧ DgA w' A c (dgs z.natAbs) ∧ Below w.heap.size w w'
def DmZ (w : World) (e : Ending) (w' : World) : Prop := e = .returned (.tuple #[.agg #[.bool false, .slice none 0 0], .agg #[.bool false, .slice none 0 0], .int .i64 11]) ∧ Below w.heap.size w w'
def DmQ (w : World) (z y : Int) (e : Ending) (w' : World) : Prop := if y = 0 then DmZ w e w' else DmP w (z.fdiv y) e w'
/-- The boxes of DivMod behind its first statement. -/
structure Dm1 (w wx : World) (ng : Bool) (n : Nat) (z : Int) (mg : Bool) (m : Nat) (y : Int) (A : Option Addr) (c : Nat) (B : Option Addr) (d : Nat) : Prop where
  a : RBox wx w.heap.size ng (.slice A n c)
  b : RBox wx (w.heap.size + 1) mg (.slice B m d)
  r : RBox wx (w.heap.size + 1 + 1) false (.slice none 0 0)
  s : RBox wx (w.heap.size + 1 + 1 + 1) false (.slice none 0 0)
  da : IvA wx A c z
  db : IvA wx B d y
  bel : Below w.heap.size w wx
theorem Dm1.next {w wx w' : World} {ng : Bool} {n : Nat} {z : Int} {mg : Bool} {m : Nat} {y : Int} {A : Option Addr} {c : Nat} {B : Option Addr} {d : Nat} (h : Dm1 w wx ng n z mg m y A c B d) (hb : Below wx.heap.size wx w') : Dm1 w w' ng n z mg m y A c B d :=
  ⟨h.a.next hb, h.b.next hb, h.r.next hb, h.s.next hb, h.da.next hb, h.db.next hb, h.bel.trans (hb.mono h.bel.size)⟩
theorem Dm1.drew {w wx : World} {ng : Bool} {n : Nat} {z : Int} {mg : Bool} {m : Nat} {y : Int} {A : Option Addr} {c : Nat} {B : Option Addr} {d : Nat} (h : Dm1 w wx ng n z mg m y A c B d) : Dm1 w wx.drew ng n z mg m y A c B d :=
  ⟨h.a.drew, h.b.drew, h.r.drew, h.s.drew, h.da.drew, h.db.drew, h.bel.drew⟩
theorem dm1_put {w w0 : World} {n m c d : Nat} {ng mg t s : Bool} {v v' : Value} {A B : Option Addr} {z y : Int} (RA : RBox w0 w.heap.size t v) (RB : RBox w0 (w.heap.size + 1) s v') (RC : RBox w0 (w.heap.size + 1 + 1) false (.slice none 0 0)) (RD : RBox w0 (w.heap.size + 1 + 1 + 1) false (.slice none 0 0)) (ha : IvA w0 A c z) (hb : IvA w0 B d y) (hw : Below w.heap.size w w0) :
    Dm1 w ((((w0.setCell ⟨w.heap.size, 0, none⟩ (.bool ng)).setCell ⟨w.heap.size, 1, none⟩ (.slice A n c)).setCell ⟨w.heap.size + 1, 0, none⟩ (.bool mg)).setCell ⟨w.heap.size + 1, 1, none⟩ (.slice B m d)) ng n z mg m y A c B d :=
  ⟨(RA.put _ _).other (by omega) _ _, ((RB.other (by omega) _ _).put _ _), (RC.other (by omega) _ _).other (by omega) _ _, (RD.other (by omega) _ _).other (by omega) _ _, ((ha.put2 RA _ _).put2 (RB.other (by omega) _ _) _ _), ((hb.put2 RA _ _).put2 (RB.other (by omega) _ _) _ _), (((hw.setCell (Nat.le_refl _) _).setCell (Nat.le_refl _) _).setCell (by show w.heap.size ≤ w.heap.size + 1; omega) _).setCell (by show w.heap.size ≤ w.heap.size + 1; omega) _⟩
theorem bcellD {W w1 : World} (hb : Below W.heap.size W w1) : (∀ b o, b < W.heap.size → w1.cell? ⟨b, o, none⟩ = W.cell? ⟨b, o, none⟩) ∧ (∀ b o, b < W.heap.size → w1.frozen? ⟨b, o, none⟩ = W.frozen? ⟨b, o, none⟩) :=
  ⟨fun b o h => hb.cell (p := ⟨b, o, none⟩) h, fun b o h => hb.frozen (p := ⟨b, o, none⟩) h⟩
def Dm2 (w wx : World) (b9 b10 : Nat) (ng : Bool) (n : Nat) (z : Int) (mg : Bool) (m : Nat) (y : Int) (A1 : Option Addr) (c1 : Nat) (B1 : Option Addr) (d1 : Nat) (Q0 R0 : Int) (A9 : Option Addr) (c9 : Nat) (A10 : Option Addr) (c10 : Nat) : Prop :=
  Dm1 w wx ng n z mg m y A1 c1 B1 d1 ∧ RBox wx b9 (decide (Q0 < 0)) (.slice A9 (dgs Q0.natAbs).length c9) ∧ RBox wx b10 (decide (R0 < 0)) (.slice A10 (dgs R0.natAbs).length c10) ∧ DgA wx A9 c9 (dgs Q0.natAbs) ∧ DgA wx A10 c10 (dgs R0.natAbs) ∧ b9 ≠ b10 ∧ w.heap.size + 1 + 1 + 1 < b9 ∧ w.heap.size + 1 + 1 + 1 < b10
theorem Dm1.put {w wx : World} {ng : Bool} {n : Nat} {z : Int} {mg : Bool} {m : Nat} {y : Int} {A : Option Addr} {c : Nat} {B : Option Addr} {d : Nat} (h : Dm1 w wx ng n z mg m y A c B d) {b : Nat} {t : Bool} {v : Value} (hx : RBox wx b t v) (hb : w.heap.size + 1 + 1 + 1 < b) (u u' : Value) : Dm1 w ((wx.setCell ⟨b, 0, none⟩ u).setCell ⟨b, 1, none⟩ u') ng n z mg m y A c B d :=
  ⟨h.a.other (by omega) _ _, h.b.other (by omega) _ _, h.r.other (by omega) _ _, h.s.other (by omega) _ _, h.da.put2 hx _ _, h.db.put2 hx _ _, (h.bel.setCell (by show w.heap.size ≤ b; omega) _).setCell (by show w.heap.size ≤ b; omega) _⟩
theorem dm2_fin {w W : World} {b9 b10 : Nat} {ng : Bool} {n : Nat} {z : Int} {mg : Bool} {m : Nat} {y : Int} {A1 : Option Addr} {c1 : Nat} {B1 : Option Addr} {d1 : Nat} {Q0 R0 : Int} {A9 : Option Addr} {c9 : Nat} {A10 : Option Addr} {c10 : Nat} {t t' : Bool} {v v' : Value}
    (h : Dm1 w W ng n z mg m y A1 c1 B1 d1) (h9 : RBox W b9 t v) (h10 : RBox W b10 t' v') (d9 : DgA W A9 c9 (dgs Q0.natAbs)) (d10 : DgA W A10 c10 (dgs R0.natAbs)) (hne : b9 ≠ b10) (k9 : w.heap.size + 1 + 1 + 1 < b9) (k10 : w.heap.size + 1 + 1 + 1 < b10) :
    Dm2 w ((((W.setCell ⟨b9, 0, none⟩ (.bool (decide (Q0 < 0)))).setCell ⟨b9, 1, none⟩ (.slice A9 (dgs Q0.natAbs).length c9)).setCell ⟨b10, 0, none⟩ (.bool (decide (R0 < 0)))).setCell ⟨b10, 1, none⟩ (.slice A10 (dgs R0.natAbs).length c10)) b9 b10 ng n z mg m y A1 c1 B1 d1 Q0 R0 A9 c9 A10 c10 :=
  ⟨(h.put h9 k9 _ _).put (h10.other hne.symm _ _) k10 _ _, (h9.put _ _).other hne _ _, (h10.other hne.symm _ _).put _ _, (d9.put2 h9.c0 _ _).put2 (h10.other hne.symm _ _).c0 _ _, (d10.put2 h9.c0 _ _).put2 (h10.other hne.symm _ _).c0 _ _, hne, k9, k10⟩
theorem DgA.drew {w : World} {A : Option Addr} {c : Nat} {l : List Nat} (h : DgA w A c l) : DgA w.drew A c l := ⟨h.dg, h.len, h.nil, h.at_⟩
theorem dm1_alloc {w wx : World} {ng : Bool} {n : Nat} {z : Int} {mg : Bool} {m : Nat} {y : Int} {A : Option Addr} {c : Nat} {B : Option Addr} {d : Nat} (h : Dm1 w wx ng n z mg m y A c B d) (o : Obj) : Dm1 w (wx.alloc o) ng n z mg m y A c B d := h.next ((Below.refl _ _).alloc (Nat.le_refl _) o)
theorem dga_alloc {w : World} {A : Option Addr} {c : Nat} {l : List Nat} (h : DgA w A c l) (o : Obj) : DgA (w.alloc o) A c l := h.next ((Below.refl _ _).alloc (Nat.le_refl _) o)
theorem box_alloc {w : World} {b : Nat} {t : Bool} {v : Value} (h : RBox w b t v) (o : Obj) : RBox (w.alloc o) b t v := h.next ((Below.refl _ _).alloc (Nat.le_refl _) o)
theorem box_new (w : World) (t : Bool) (v : Value) (T : TypeId) : RBox (w.alloc (.cells #[.bool t, v] T)) w.heap.size t v := ⟨by simp [go_sem], by simp [go_sem], by simp [go_sem], by simp [go_sem]⟩
theorem dm1_big {w wx : World} {ng : Bool} {n : Nat} {z : Int} {mg : Bool} {m : Nat} {y : Int} {A : Option Addr} {c : Nat} {B : Option Addr} {d : Nat} (h : Dm1 w wx ng n z mg m y A c B d) : w.heap.size + 1 + 1 + 1 < wx.heap.size := block_lt_of_cell h.s.c0
structure DmF (w wx : World) (b9 b10 : Nat) (QF : Int) (A : Option Addr) (c : Nat) (t : Bool) (v : Value) : Prop where
  r : RBox wx (w.heap.size + 1 + 1) false (.slice none 0 0)
  s : RBox wx (w.heap.size + 1 + 1 + 1) false (.slice none 0 0)
  b9 : RBox wx b9 (decide (QF < 0)) (.slice A (dgs QF.natAbs).length c)
  b10 : RBox wx b10 t v
  d : DgA wx A c (dgs QF.natAbs)
  bel : Below w.heap.size w wx
theorem dmf_fin {w W : World} {b9 b10 : Nat} {ng : Bool} {n : Nat} {z : Int} {mg : Bool} {m : Nat} {y : Int} {A1 : Option Addr} {c1 : Nat} {B1 : Option Addr} {d1 : Nat} {QF : Int} {A9 : Option Addr} {c9 : Nat} {t t' t2 : Bool} {v v' v2 : Value}
    (h : Dm1 w W ng n z mg m y A1 c1 B1 d1) (h9 : RBox W b9 t v) (h10 : RBox W b10 t' v') (d9 : DgA W A9 c9 (dgs QF.natAbs)) (hne : ¬ b9 = b10) (k9 : w.heap.size + 1 + 1 + 1 < b9) (k10 : w.heap.size + 1 + 1 + 1 < b10) :
    DmF w ((((W.setCell ⟨b9, 0, none⟩ (.bool (decide (QF < 0)))).setCell ⟨b9, 1, none⟩ (.slice A9 (dgs QF.natAbs).length c9)).setCell ⟨b10, 0, none⟩ (.bool t2)).setCell ⟨b10, 1, none⟩ v2) b9 b10 QF A9 c9 t2 v2 := by
  have g1 := (h.put h9 k9 (.bool (decide (QF < 0))) (.slice A9 (dgs QF.natAbs).length c9)).put (h10.other (fun q => hne q.symm) _ _) k10 (.bool t2) v2
  exact ⟨g1.r, g1.s, (h9.put _ _).other hne _ _, (h10.other (fun q => hne q.symm) _ _).put _ _, (d9.put2 h9.c0 _ _).put2 (h10.other (fun q => hne q.symm) _ _).c0 _ _, g1.bel⟩
section
variable {w W : World} {b9 b10 : Nat} {ng : Bool} {n : Nat} {z : Int} {mg : Bool} {m : Nat} {y : Int} {A1 : Option Addr} {c1 : Nat} {B1 : Option Addr} {d1 : Nat} {Q0 R0 : Int} {A9 : Option Addr} {c9 : Nat} {A10 : Option Addr} {c10 : Nat} {t : Bool} {v : Value}
theorem dm2_a (h : Dm1 w W ng n z mg m y A1 c1 B1 d1) (d9 : DgA W A9 c9 (dgs Q0.natAbs)) (d10 : DgA W A10 c10 (dgs R0.natAbs)) (T T' : TypeId) : Dm2 w ((W.alloc (.cells #[.bool (decide (Q0 < 0)), .slice A9 (dgs Q0.natAbs).length c9] T)).alloc (.cells #[.bool (decide (R0 < 0)), .slice A10 (dgs R0.natAbs).length c10] T')) W.heap.size (W.heap.size + 1) ng n z mg m y A1 c1 B1 d1 Q0 R0 A9 c9 A10 c10 :=
  ⟨dm1_alloc (dm1_alloc h _) _, box_alloc (box_new _ _ _ _) _, by have := box_new (W.alloc (.cells #[.bool (decide (Q0 < 0)), .slice A9 (dgs Q0.natAbs).length c9] T)) (decide (R0 < 0)) (.slice A10 (dgs R0.natAbs).length c10) T'; simpa using this, dga_alloc (dga_alloc d9 _) _, dga_alloc (dga_alloc d10 _) _, by omega, dm1_big h, by have := dm1_big h; omega⟩
theorem dm2_b (h : Dm1 w W ng n z mg m y A1 c1 B1 d1) (d9 : DgA W A9 c9 (dgs Q0.natAbs)) (d10 : DgA W A10 c10 (dgs R0.natAbs)) (T T' : TypeId) : Dm2 w ((W.alloc (.cells #[.bool (decide (R0 < 0)), .slice A10 (dgs R0.natAbs).length c10] T)).alloc (.cells #[.bool (decide (Q0 < 0)), .slice A9 (dgs Q0.natAbs).length c9] T')) (W.heap.size + 1) W.heap.size ng n z mg m y A1 c1 B1 d1 Q0 R0 A9 c9 A10 c10 :=
  ⟨dm1_alloc (dm1_alloc h _) _, by have := box_new (W.alloc (.cells #[.bool (decide (R0 < 0)), .slice A10 (dgs R0.natAbs).length c10] T)) (decide (Q0 < 0)) (.slice A9 (dgs Q0.natAbs).length c9) T'; simpa using this, box_alloc (box_new _ _ _ _) _, dga_alloc (dga_alloc d9 _) _, dga_alloc (dga_alloc d10 _) _, by omega, by have := dm1_big h; omega, dm1_big h⟩
theorem dm2_c (h : Dm1 w W ng n z mg m y A1 c1 B1 d1) (h9 : RBox W b9 t v) (d9 : DgA W A9 c9 (dgs Q0.natAbs)) (d10 : DgA W A10 c10 (dgs R0.natAbs)) (k9 : w.heap.size + 1 + 1 + 1 < b9) (T : TypeId) : Dm2 w (((W.setCell ⟨b9, 0, none⟩ (.bool (decide (Q0 < 0)))).setCell ⟨b9, 1, none⟩ (.slice A9 (dgs Q0.natAbs).length c9)).alloc (.cells #[.bool (decide (R0 < 0)), .slice A10 (dgs R0.natAbs).length c10] T)) b9 W.heap.size ng n z mg m y A1 c1 B1 d1 Q0 R0 A9 c9 A10 c10 :=
  ⟨dm1_alloc (h.put h9 k9 _ _) _, box_alloc (h9.put _ _) _, by have := box_new ((W.setCell ⟨b9, 0, none⟩ (.bool (decide (Q0 < 0)))).setCell ⟨b9, 1, none⟩ (.slice A9 (dgs Q0.natAbs).length c9)) (decide (R0 < 0)) (.slice A10 (dgs R0.natAbs).length c10) T; simpa using this, dga_alloc (d9.put2 h9.c0 _ _) _, dga_alloc (d10.put2 h9.c0 _ _) _, by have := block_lt_of_cell h9.c0; show b9 ≠ W.heap.size; exact Nat.ne_of_lt this, k9, dm1_big h⟩
theorem dm2_d (h : Dm1 w W ng n z mg m y A1 c1 B1 d1) (h10 : RBox W b10 t v) (d9 : DgA W A9 c9 (dgs Q0.natAbs)) (d10 : DgA W A10 c10 (dgs R0.natAbs)) (k10 : w.heap.size + 1 + 1 + 1 < b10) (T : TypeId) : Dm2 w (((W.setCell ⟨b10, 0, none⟩ (.bool (decide (R0 < 0)))).setCell ⟨b10, 1, none⟩ (.slice A10 (dgs R0.natAbs).length c10)).alloc (.cells #[.bool (decide (Q0 < 0)), .slice A9 (dgs Q0.natAbs).length c9] T)) W.heap.size b10 ng n z mg m y A1 c1 B1 d1 Q0 R0 A9 c9 A10 c10 :=
  ⟨dm1_alloc (h.put h10 k10 _ _) _, by have := box_new ((W.setCell ⟨b10, 0, none⟩ (.bool (decide (R0 < 0)))).setCell ⟨b10, 1, none⟩ (.slice A10 (dgs R0.natAbs).length c10)) (decide (Q0 < 0)) (.slice A9 (dgs Q0.natAbs).length c9) T; simpa using this, box_alloc (h10.put _ _) _, dga_alloc (d9.put2 h10.c0 _ _) _, dga_alloc (d10.put2 h10.c0 _ _) _, by have := block_lt_of_cell h10.c0; show W.heap.size ≠ b10; exact Nat.ne_of_gt this, dm1_big h, k10⟩
end


set_option maxHeartbeats 60000000 in
set_option maxRecDepth 100000 in
theorem divmod_any (A : Option Addr) (c : Nat) (z : Int) (ng : Bool) (n : Nat) (B : Option Addr) (d : Nat) (y : Int) (mg : Bool) (m : Nat) (w : World) (h : IvA w A c z) (hg : decide (z < 0) = ng) (hn : (dgs z.natAbs).length = n) (h2 : IvA w B d y) (hg2 : decide (y < 0) = mg) (hn2 : (dgs y.natAbs).length = m) (hz : (dgs z.natAbs).length ≤ 20) (hy : (dgs y.natAbs).length ≤ 20) :
    Calls Try.prog 5 #[.agg #[.bool ng, .slice A n c], .agg #[.bool mg, .slice B m d]] w (DmQ w z y) := by
  have KA0 := fun w' hb => canon_q A c z ng n w' (h.next hb) hg hn
  have KB0 := fun w' hb => canon_q B d y mg m w' (h2.next hb) hg2 hn2
  have hs1 : n ≤ 20 := by rw [← hn]; exact hz
  have hs2 : m ≤ 20 := by rw [← hn2]; exact hy
  have KA := Lib.hid KA0
  have KB := Lib.hid KB0
  have HG := Lib.hid hg
  have HG2 := Lib.hid hg2
  have HN := Lib.hid hn
  have HN2 := Lib.hid hn2
  clear h hg hn h2 hg2 hn2 KA0 KB0 hz hy
  go_enter Try.func5, Try.ntmps5
  go_upto_region 1 with (fail)
  have b00 : ((((w.alloc (.cells #[.bool ng, .slice A n c] 24)).alloc (.cells #[.bool mg, .slice B m d] 24)).alloc (.cells #[.bool false, .slice none 0 0] 24)).alloc (.cells #[.bool false, .slice none 0 0] 24)).cell? ⟨w.heap.size, 0, none⟩ = some (.bool ng) := by simp [go_sem]
  have g00 : ((((w.alloc (.cells #[.bool ng, .slice A n c] 24)).alloc (.cells #[.bool mg, .slice B m d] 24)).alloc (.cells #[.bool false, .slice none 0 0] 24)).alloc (.cells #[.bool false, .slice none 0 0] 24)).frozen? ⟨w.heap.size, 0, none⟩ = false := by simp [go_sem]
  have b01 : ((((w.alloc (.cells #[.bool ng, .slice A n c] 24)).alloc (.cells #[.bool mg, .slice B m d] 24)).alloc (.cells #[.bool false, .slice none 0 0] 24)).alloc (.cells #[.bool false, .slice none 0 0] 24)).cell? ⟨w.heap.size, 1, none⟩ = some (.slice A n c) := by simp [go_sem]
  have g01 : ((((w.alloc (.cells #[.bool ng, .slice A n c] 24)).alloc (.cells #[.bool mg, .slice B m d] 24)).alloc (.cells #[.bool false, .slice none 0 0] 24)).alloc (.cells #[.bool false, .slice none 0 0] 24)).frozen? ⟨w.heap.size, 1, none⟩ = false := by simp [go_sem]
  have b10 : ((((w.alloc (.cells #[.bool ng, .slice A n c] 24)).alloc (.cells #[.bool mg, .slice B m d] 24)).alloc (.cells #[.bool false, .slice none 0 0] 24)).alloc (.cells #[.bool false, .slice none 0 0] 24)).cell? ⟨w.heap.size + 1, 0, none⟩ = some (.bool mg) := by simp [go_sem]
  have g10 : ((((w.alloc (.cells #[.bool ng, .slice A n c] 24)).alloc (.cells #[.bool mg, .slice B m d] 24)).alloc (.cells #[.bool false, .slice none 0 0] 24)).alloc (.cells #[.bool false, .slice none 0 0] 24)).frozen? ⟨w.heap.size + 1, 0, none⟩ = false := by simp [go_sem]
  have b11 : ((((w.alloc (.cells #[.bool ng, .slice A n c] 24)).alloc (.cells #[.bool mg, .slice B m d] 24)).alloc (.cells #[.bool false, .slice none 0 0] 24)).alloc (.cells #[.bool false, .slice none 0 0] 24)).cell? ⟨w.heap.size + 1, 1, none⟩ = some (.slice B m d) := by simp [go_sem]
  have g11 : ((((w.alloc (.cells #[.bool ng, .slice A n c] 24)).alloc (.cells #[.bool mg, .slice B m d] 24)).alloc (.cells #[.bool false, .slice none 0 0] 24)).alloc (.cells #[.bool false, .slice none 0 0] 24)).frozen? ⟨w.heap.size + 1, 1, none⟩ = false := by simp [go_sem]
  have b20 : ((((w.alloc (.cells #[.bool ng, .slice A n c] 24)).alloc (.cells #[.bool mg, .slice B m d] 24)).alloc (.cells #[.bool false, .slice none 0 0] 24)).alloc (.cells #[.bool false, .slice none 0 0] 24)).cell? ⟨w.heap.size + 1 + 1, 0, none⟩ = some (.bool false) := by simp [go_sem]
  have g20 : ((((w.alloc (.cells #[.bool ng, .slice A n c] 24)).alloc (.cells #[.bool mg, .slice B m d] 24)).alloc (.cells #[.bool false, .slice none 0 0] 24)).alloc (.cells #[.bool false, .slice none 0 0] 24)).frozen? ⟨w.heap.size + 1 + 1, 0, none⟩ = false := by simp [go_sem]
  have b21 : ((((w.alloc (.cells #[.bool ng, .slice A n c] 24)).alloc (.cells #[.bool mg, .slice B m d] 24)).alloc (.cells #[.bool false, .slice none 0 0] 24)).alloc (.cells #[.bool false, .slice none 0 0] 24)).cell? ⟨w.heap.size + 1 + 1, 1, none⟩ = some (.slice none 0 0) := by simp [go_sem]
  have g21 : ((((w.alloc (.cells #[.bool ng, .slice A n c] 24)).alloc (.cells #[.bool mg, .slice B m d] 24)).alloc (.cells #[.bool false, .slice none 0 0] 24)).alloc (.cells #[.bool false, .slice none 0 0] 24)).frozen? ⟨w.heap.size + 1 + 1, 1, none⟩ = false := by simp [go_sem]
  have b30 : ((((w.alloc (.cells #[.bool ng, .slice A n c] 24)).alloc (.cells #[.bool mg, .slice B m d] 24)).alloc (.cells #[.bool false, .slice none 0 0] 24)).alloc (.cells #[.bool false, .slice none 0 0] 24)).cell? ⟨w.heap.size + 1 + 1 + 1, 0, none⟩ = some (.bool false) := by simp [go_sem]
  have g30 : ((((w.alloc (.cells #[.bool ng, .slice A n c] 24)).alloc (.cells #[.bool mg, .slice B m d] 24)).alloc (.cells #[.bool false, .slice none 0 0] 24)).alloc (.cells #[.bool false, .slice none 0 0] 24)).frozen? ⟨w.heap.size + 1 + 1 + 1, 0, none⟩ = false := by simp [go_sem]
  have b31 : ((((w.alloc (.cells #[.bool ng, .slice A n c] 24)).alloc (.cells #[.bool mg, .slice B m d] 24)).alloc (.cells #[.bool false, .slice none 0 0] 24)).alloc (.cells #[.bool false, .slice none 0 0] 24)).cell? ⟨w.heap.size + 1 + 1 + 1, 1, none⟩ = some (.slice none 0 0) := by simp [go_sem]
  have g31 : ((((w.alloc (.cells #[.bool ng, .slice A n c] 24)).alloc (.cells #[.bool mg, .slice B m d] 24)).alloc (.cells #[.bool false, .slice none 0 0] 24)).alloc (.cells #[.bool false, .slice none 0 0] 24)).frozen? ⟨w.heap.size + 1 + 1 + 1, 1, none⟩ = false := by simp [go_sem]
  have BW : Hid (Below w.heap.size w ((((w.alloc (.cells #[.bool ng, .slice A n c] 24)).alloc (.cells #[.bool mg, .slice B m d] 24)).alloc (.cells #[.bool false, .slice none 0 0] 24)).alloc (.cells #[.bool false, .slice none 0 0] 24))) := (((((Below.refl _ _).alloc (by first | (simp; done) | (simp; omega)) _).alloc (by first | (simp; done) | (simp; omega)) _).alloc (by first | (simp; done) | (simp; omega)) _).alloc (by first | (simp; done) | (simp; omega)) _)
  generalize ((((w.alloc (.cells #[.bool ng, .slice A n c] 24)).alloc (.cells #[.bool mg, .slice B m d] 24)).alloc (.cells #[.bool false, .slice none 0 0] 24)).alloc (.cells #[.bool false, .slice none 0 0] 24)) = w0 at *
  have ne01 : ¬ w.heap.size = w.heap.size + 1 := by omega
  have ne02 : ¬ w.heap.size = w.heap.size + 1 + 1 := by omega
  have ne03 : ¬ w.heap.size = w.heap.size + 1 + 1 + 1 := by omega
  have ne10 : ¬ w.heap.size + 1 = w.heap.size := by omega
  have ne12 : ¬ w.heap.size + 1 = w.heap.size + 1 + 1 := by omega
  have ne13 : ¬ w.heap.size + 1 = w.heap.size + 1 + 1 + 1 := by omega
  have ne20 : ¬ w.heap.size + 1 + 1 = w.heap.size := by omega
  have ne21 : ¬ w.heap.size + 1 + 1 = w.heap.size + 1 := by omega
  have ne23 : ¬ w.heap.size + 1 + 1 = w.heap.size + 1 + 1 + 1 := by omega
  have ne30 : ¬ w.heap.size + 1 + 1 + 1 = w.heap.size := by omega
  have ne31 : ¬ w.heap.size + 1 + 1 + 1 = w.heap.size + 1 := by omega
  have ne32 : ¬ w.heap.size + 1 + 1 + 1 = w.heap.size + 1 + 1 := by omega
  have RA : Hid (RBox w0 w.heap.size ng (.slice A n c)) := ⟨b00, b01, g00, g01⟩
  have RB : Hid (RBox w0 (w.heap.size + 1) mg (.slice B m d)) := ⟨b10, b11, g10, g11⟩
  have RC : Hid (RBox w0 (w.heap.size + 1 + 1) false (.slice none 0 0)) := ⟨b20, b21, g20, g21⟩
  have RD : Hid (RBox w0 (w.heap.size + 1 + 1 + 1) false (.slice none 0 0)) := ⟨b30, b31, g30, g31⟩
  clear b20 b21 b30 b31 g20 g21 g30 g31
  go_cut [] (fun wx => Hid (∃ A' c' B' d', Dm1 w wx ng n z mg m y A' c' B' d'))
  case first =>
    go_region_with (first
      | (go_at_call 14; refine (KA.out _ (by first | exact BX.out | exact BW.out.drew)).mono ?_; rintro e w5 ⟨A1, c1, rfl, hd, hb⟩; have BX : Hid (Below w.heap.size w w5) := (by first | exact BX.out.trans (hb.mono BX.out.size) | exact BW.out.drew.trans (hb.mono BW.out.size) | exact BW.out.trans (hb.mono BW.out.size)); have DA := Lib.hid hd; have RA : Hid (RBox w5 _ _ _) := (by first | exact RA.out.next hb | exact RA.out.drew.next hb); have q00 := RA.out.c0; have q01 := RA.out.c1; have q02 := RA.out.f0; have q03 := RA.out.f1; have RB : Hid (RBox w5 _ _ _) := (by first | exact RB.out.next hb | exact RB.out.drew.next hb); have q10 := RB.out.c0; have q11 := RB.out.c1; have q12 := RB.out.f0; have q13 := RB.out.f1; have RC : Hid (RBox w5 _ _ _) := (by first | exact RC.out.next hb | exact RC.out.drew.next hb); have q20 := RC.out.c0; have q21 := RC.out.c1; have q22 := RC.out.f0; have q23 := RC.out.f1; have RD : Hid (RBox w5 _ _ _) := (by first | exact RD.out.next hb | exact RD.out.drew.next hb); have q30 := RD.out.c0; have q31 := RD.out.c1; have q32 := RD.out.f0; have q33 := RD.out.f1; first | have DB := Lib.hid (DB.out.next hb) | skip; clear hb hd)
      | (go_at_call 14; refine (KB.out _ (by first | exact BX.out | exact BW.out.drew)).mono ?_; rintro e w6 ⟨B1, d1, rfl, hd, hb⟩; have BX : Hid (Below w.heap.size w w6) := (by first | exact BX.out.trans (hb.mono BX.out.size) | exact BW.out.drew.trans (hb.mono BW.out.size) | exact BW.out.trans (hb.mono BW.out.size)); have DB := Lib.hid hd; have RA : Hid (RBox w6 _ _ _) := (by first | exact RA.out.next hb | exact RA.out.drew.next hb); have q00 := RA.out.c0; have q01 := RA.out.c1; have q02 := RA.out.f0; have q03 := RA.out.f1; have RB : Hid (RBox w6 _ _ _) := (by first | exact RB.out.next hb | exact RB.out.drew.next hb); have q10 := RB.out.c0; have q11 := RB.out.c1; have q12 := RB.out.f0; have q13 := RB.out.f1; have RC : Hid (RBox w6 _ _ _) := (by first | exact RC.out.next hb | exact RC.out.drew.next hb); have q20 := RC.out.c0; have q21 := RC.out.c1; have q22 := RC.out.f0; have q23 := RC.out.f1; have RD : Hid (RBox w6 _ _ _) := (by first | exact RD.out.next hb | exact RD.out.drew.next hb); have q30 := RD.out.c0; have q31 := RD.out.c1; have q32 := RD.out.f0; have q33 := RD.out.f1; first | have DA := Lib.hid (DA.out.next hb) | skip; clear hb hd))
    all_goals (go_wp2_with fail; go_meet; exact ⟨_, _, _, _, dm1_put RA.out RB.out RC.out RD.out DA.out DB.out BX.out⟩)
  case rest =>
    obtain ⟨A1, c1, B1, d1, D1⟩ := Hid.out hcut
    clear hcut RA RB RC RD b00 b01 b10 b11 g00 g01 g10 g11
    have M1 := Lib.hid D1
    have x00 := D1.a.c0
    have x01 := D1.a.c1
    have x10 := D1.b.c0
    have x11 := D1.b.c1
    clear D1 KA KB
    by_cases hy0 : y = 0
    · have hm0 : m = 0 := by rw [← HN2.out, hy0]; exact congrArg List.length dgs_zero
      have P : Hid (∀ e w', DmZ w e w' → DmQ w z y e w') := fun e w' q => by unfold DmQ; rw [if_pos hy0]; exact q
      have r0 := M1.out.r.c0
      have r1 := M1.out.r.c1
      have r2 := M1.out.r.f0
      have r3 := M1.out.r.f1
      have s0 := M1.out.s.c0
      have s1 := M1.out.s.c1
      have s2 := M1.out.s.f0
      have s3 := M1.out.s.f1
      subst hm0
      clear hy0
      go_wp2
      refine bodyPost_ret (v := .tuple #[.agg #[.bool false, .slice none 0 0], .agg #[.bool false, .slice none 0 0], .int .i64 11]) ?_ rfl ?_
      · rw [results_cct rfl]; go_simp
      · exact P.out _ _ ⟨rfl, (((M1.out.bel.setCell (by show w.heap.size ≤ w.heap.size + 1 + 1; omega) _).setCell (by show w.heap.size ≤ w.heap.size + 1 + 1; omega) _).setCell (by show w.heap.size ≤ w.heap.size + 1 + 1 + 1; omega) _).setCell (by show w.heap.size ≤ w.heap.size + 1 + 1 + 1; omega) _⟩
    · have hyn : y.natAbs ≠ 0 := by omega
      have hm0 : ((m : Int) == 0) = false := by
        rw [beq_eq_false_iff_ne]
        have h1 := HN2.out
        rw [dgs_pos (by omega)] at h1
        simp at h1
        omega
      have hm1 : ¬ m = 0 := by
        intro q; subst q; simp at hm0
      have EQ0 := fdiv_of z y hy0
      rw [HG.out, HG2.out] at EQ0
      have KV0 := div_iv A1 B1 c1 d1 z.natAbs y.natAbs n m wc M1.out.da.d M1.out.db.d HN.out HN2.out hs1 hs2 hyn
      have LQ : Hid ((dgs (z.natAbs / y.natAbs)).length ≤ 20) := Nat.le_trans (dgs_len_le _ _ (Nat.div_le_self _ _)) (by rw [HN.out]; exact hs1)
      have LR : Hid ((dgs (z.natAbs % y.natAbs)).length ≤ 20) := Nat.le_trans (dgs_len_le _ _ (Nat.mod_le _ _)) (by rw [HN.out]; exact hs1)
      obtain ⟨qq, hqq⟩ : ∃ q, z.natAbs / y.natAbs = q := ⟨_, rfl⟩
      obtain ⟨rr, hrr⟩ : ∃ q, z.natAbs % y.natAbs = q := ⟨_, rfl⟩
      rw [hqq] at EQ0 KV0 LQ
      rw [hrr] at EQ0 KV0 LR
      obtain ⟨sg, hsg⟩ : ∃ sg, (ng != mg) = sg := ⟨_, rfl⟩
      have hsg2 : (!ng == mg) = sg := by rw [← hsg]; cases ng <;> cases mg <;> rfl
      rw [hsg] at EQ0
      have P : Hid (∀ e w', DmP w (if sg = true ∧ rr ≠ 0 then sgnI sg qq - 1 else sgnI sg qq) e w' → DmQ w z y e w') := fun e w' q => by unfold DmQ; rw [if_neg hy0, EQ0]; exact q
      have KV := Lib.hid KV0
      have HYN := Lib.hid hyn
      clear hy0 EQ0 KV0 hqq hrr hyn
      go_upto_region 5 with (go_at_call 15; (with_reducible refine KV.out.mono ?_); rintro e w5 ⟨Aq, cq, Ar, cr, rfl, hdq, hdr, hb⟩; have M5 := Lib.hid (M1.out.next hb); have DQ := Lib.hid hdq; have DR := Lib.hid hdr; clear hdq hdr hb)
      have x00 := M5.out.a.c0
      have x10 := M5.out.b.c0
      have MX := M5
      have hbxw5 : w.heap.size + 1 + 1 + 1 < w5.heap.size := block_lt_of_cell MX.out.s.c0
      have n0w5 : ¬ w.heap.size = w5.heap.size := by omega
      have n1w5 : ¬ w.heap.size + 1 = w5.heap.size := by omega
      have n2w5 : ¬ w.heap.size = w5.heap.size + 1 := by omega
      have m0w5 : ¬ w5.heap.size = w.heap.size := by omega
      have m1w5 : ¬ w5.heap.size = w.heap.size + 1 := by omega
      have m2w5 : ¬ w5.heap.size + 1 = w.heap.size := by omega
      clear MX
      have MQ0 := fun (w' : World) (hb : Below w5.heap.size w5 w') => make_dg sg Aq cq qq w' (DQ.out.next hb) (by have := LQ.out; omega)
      have MR0 := fun (w' : World) (hb : Below w5.heap.size w5 w') => make_dg ng Ar cr rr w' (DR.out.next hb) (by have := LR.out; omega)
      obtain ⟨Q0, hQ0⟩ : ∃ Q, sgnI sg qq = Q := ⟨_, rfl⟩
      obtain ⟨R0, hR0⟩ : ∃ R, sgnI ng rr = R := ⟨_, rfl⟩
      have HQ0 := Lib.hid hQ0
      have HR0 := Lib.hid hR0
      rw [hQ0] at MQ0
      rw [hR0] at MR0
      have MQ := Lib.hid MQ0
      have MR := Lib.hid MR0
      clear MQ0 MR0 hQ0 hR0
      go_cut [9, 10] (fun v9 v10 wx => ∃ b9 b10 A9 c9 A10 c10, v9 = .pointer (some ⟨b9, 0, none⟩) ∧ v10 = .pointer (some ⟨b10, 0, none⟩) ∧ Hid (Dm2 w wx b9 b10 ng n z mg m y A1 c1 B1 d1 Q0 R0 A9 c9 A10 c10))
      case first =>
        go_region_held3 (fun w' => w'.cell? ⟨w.heap.size, 0, none⟩ = some (.bool ng) ∧ w'.cell? ⟨w.heap.size + 1, 0, none⟩ = some (.bool mg)) (first | exact ⟨q00, q10⟩ | go_keep)
          (first
            | (go_at_call 13; (with_reducible refine (MQ.out _ (by first | exact BY.out | exact BY.out.alloc BY.out.size _ | exact (BY.out.alloc BY.out.size _).alloc (by have := BY.out.size; simp; omega) _ | exact (Below.refl _ _).drew | exact ((Below.refl _ _).alloc (Nat.le_refl _) _).drew | exact (((Below.refl _ _).alloc (Nat.le_refl _) _).alloc (by simp) _).drew)).mono ?_); rintro e w6 ⟨A6, c6, rfl, hd, hb⟩; have BY : Hid (Below w5.heap.size w5 w6) := (by first | exact BY.out.trans (hb.mono (by first | exact BY.out.size | (simp; done) | (simp; omega) | (have := BY.out.size; simp; omega))) | exact (BY.out.alloc BY.out.size _).trans (hb.mono (by first | exact BY.out.size | (simp; done) | (simp; omega) | (have := BY.out.size; simp; omega))) | exact ((BY.out.alloc BY.out.size _).alloc (by have := BY.out.size; simp; omega) _).trans (hb.mono (by first | exact BY.out.size | (simp; done) | (simp; omega) | (have := BY.out.size; simp; omega))) | exact (Below.refl _ _).drew.trans (hb.mono (by first | exact BY.out.size | (simp; done) | (simp; omega) | (have := BY.out.size; simp; omega))) | exact ((Below.refl _ _).alloc (Nat.le_refl _) _).drew.trans (hb.mono (by first | exact BY.out.size | (simp; done) | (simp; omega) | (have := BY.out.size; simp; omega))) | exact (((Below.refl _ _).alloc (Nat.le_refl _) _).alloc (by simp) _).drew.trans (hb.mono (by first | exact BY.out.size | (simp; done) | (simp; omega) | (have := BY.out.size; simp; omega)))); have D6 := Lib.hid hd; (first | (have B67 : Hid (Below w7.heap.size w7 w6) := (by first | exact (Below.refl w7.heap.size w7).trans (hb.mono (by first | exact Nat.le_refl _ | (simp; done) | (simp; omega))) | exact ((Below.refl w7.heap.size w7).alloc (Nat.le_refl _) _).trans (hb.mono (by first | exact Nat.le_refl _ | (simp; done) | (simp; omega))) | exact (((Below.refl w7.heap.size w7).alloc (Nat.le_refl _) _).alloc (by simp) _).trans (hb.mono (by first | exact Nat.le_refl _ | (simp; done) | (simp; omega))))) | skip); have hcw6 := (bcellD hb).1; have hfw6 := (bcellD hb).2; have hzw6 := hb.size; (try simp at hzw6); (first | (have hyw6 : w5.heap.size < w6.heap.size := (by have := hb.size; (try simp at this); omega)) | skip); (first | (have hxw6 : w5.heap.size + 1 < w6.heap.size := (by have := hb.size; (try simp at this); omega)) | skip); (first | (have hvw6 : w7.heap.size < w6.heap.size := (by have := hb.size; (try simp at this); omega)) | skip); (first | (have huw6 : w7.heap.size + 1 < w6.heap.size := (by have := hb.size; (try simp at this); omega)) | skip); have MX := Lib.hid (M5.out.next BY.out); have hbxw6 : w.heap.size + 1 + 1 + 1 < w6.heap.size := block_lt_of_cell MX.out.s.c0; have n0w6 : ¬ w.heap.size = w6.heap.size := (by omega); have n1w6 : ¬ w.heap.size + 1 = w6.heap.size := (by omega); have n2w6 : ¬ w.heap.size = w6.heap.size + 1 := (by omega); have m0w6 : ¬ w6.heap.size = w.heap.size := (by omega); have m1w6 : ¬ w6.heap.size = w.heap.size + 1 := (by omega); have m2w6 : ¬ w6.heap.size + 1 = w.heap.size := (by omega); have q00 := MX.out.a.c0; have q10 := MX.out.b.c0; clear hd hb)
            | (go_at_call 13; (with_reducible refine (MR.out _ (by first | exact BY.out | exact BY.out.alloc BY.out.size _ | exact (BY.out.alloc BY.out.size _).alloc (by have := BY.out.size; simp; omega) _ | exact (Below.refl _ _).drew | exact ((Below.refl _ _).alloc (Nat.le_refl _) _).drew | exact (((Below.refl _ _).alloc (Nat.le_refl _) _).alloc (by simp) _).drew)).mono ?_); rintro e w7 ⟨A7, c7, rfl, hd, hb⟩; have BY : Hid (Below w5.heap.size w5 w7) := (by first | exact BY.out.trans (hb.mono (by first | exact BY.out.size | (simp; done) | (simp; omega) | (have := BY.out.size; simp; omega))) | exact (BY.out.alloc BY.out.size _).trans (hb.mono (by first | exact BY.out.size | (simp; done) | (simp; omega) | (have := BY.out.size; simp; omega))) | exact ((BY.out.alloc BY.out.size _).alloc (by have := BY.out.size; simp; omega) _).trans (hb.mono (by first | exact BY.out.size | (simp; done) | (simp; omega) | (have := BY.out.size; simp; omega))) | exact (Below.refl _ _).drew.trans (hb.mono (by first | exact BY.out.size | (simp; done) | (simp; omega) | (have := BY.out.size; simp; omega))) | exact ((Below.refl _ _).alloc (Nat.le_refl _) _).drew.trans (hb.mono (by first | exact BY.out.size | (simp; done) | (simp; omega) | (have := BY.out.size; simp; omega))) | exact (((Below.refl _ _).alloc (Nat.le_refl _) _).alloc (by simp) _).drew.trans (hb.mono (by first | exact BY.out.size | (simp; done) | (simp; omega) | (have := BY.out.size; simp; omega)))); have D7 := Lib.hid hd; (first | (have B67 : Hid (Below w6.heap.size w6 w7) := (by first | exact (Below.refl w6.heap.size w6).trans (hb.mono (by first | exact Nat.le_refl _ | (simp; done) | (simp; omega))) | exact ((Below.refl w6.heap.size w6).alloc (Nat.le_refl _) _).trans (hb.mono (by first | exact Nat.le_refl _ | (simp; done) | (simp; omega))) | exact (((Below.refl w6.heap.size w6).alloc (Nat.le_refl _) _).alloc (by simp) _).trans (hb.mono (by first | exact Nat.le_refl _ | (simp; done) | (simp; omega))))) | skip); have hcw7 := (bcellD hb).1; have hfw7 := (bcellD hb).2; have hzw7 := hb.size; (try simp at hzw7); (first | (have hyw7 : w5.heap.size < w7.heap.size := (by have := hb.size; (try simp at this); omega)) | skip); (first | (have hxw7 : w5.heap.size + 1 < w7.heap.size := (by have := hb.size; (try simp at this); omega)) | skip); (first | (have hvw7 : w6.heap.size < w7.heap.size := (by have := hb.size; (try simp at this); omega)) | skip); (first | (have huw7 : w6.heap.size + 1 < w7.heap.size := (by have := hb.size; (try simp at this); omega)) | skip); (first | (have D6 := Lib.hid (D6.out.next B67.out)) | skip); have MX := Lib.hid (M5.out.next BY.out); have hbxw7 : w.heap.size + 1 + 1 + 1 < w7.heap.size := block_lt_of_cell MX.out.s.c0; have n0w7 : ¬ w.heap.size = w7.heap.size := (by omega); have n1w7 : ¬ w.heap.size + 1 = w7.heap.size := (by omega); have n2w7 : ¬ w.heap.size = w7.heap.size + 1 := (by omega); have m0w7 : ¬ w7.heap.size = w.heap.size := (by omega); have m1w7 : ¬ w7.heap.size = w.heap.size + 1 := (by omega); have m2w7 : ¬ w7.heap.size + 1 = w.heap.size := (by omega); have q00 := MX.out.a.c0; have q10 := MX.out.b.c0; clear hd hb))
        all_goals go_wp2_with fail
        all_goals go_meet
        all_goals
          first
            | exact ⟨_, _, A6, c6, A7, c7, rfl, rfl, dm2_a MX.out D6.out D7.out _ _⟩
            | exact ⟨_, _, A6, c6, A7, c7, rfl, rfl, dm2_b MX.out D6.out D7.out _ _⟩
            | exact ⟨_, _, A6, c6, A7, c7, rfl, rfl, dm2_c (t := false) (v := .slice none 0 0) MX.out ⟨(by go_simp), (by go_simp), (by go_simp), (by go_simp)⟩ D6.out D7.out (by omega) _⟩
            | exact ⟨_, _, A6, c6, A7, c7, rfl, rfl, dm2_d (t := false) (v := .slice none 0 0) MX.out ⟨(by go_simp), (by go_simp), (by go_simp), (by go_simp)⟩ D6.out D7.out (by omega) _⟩
            | exact ⟨_, _, A6, c6, A7, c7, rfl, rfl, dm2_fin (t := false) (v := .slice none 0 0) (t' := false) (v' := .slice none 0 0) MX.out ⟨(by go_simp), (by go_simp), (by go_simp), (by go_simp)⟩ ⟨(by go_simp), (by go_simp), (by go_simp), (by go_simp)⟩ D6.out D7.out (by omega) (by omega) (by omega)⟩
            | (trace_state; sorry)
      case rest =>
        obtain ⟨b9, b10, A9, c9, A10, c10, rfl, rfl, M2⟩ := hcut
        have y90 := M2.out.2.1.c0
        have y91 := M2.out.2.1.c1
        have y100 := M2.out.2.2.1.c0
        have y101 := M2.out.2.2.1.c1
        have z00 := M2.out.1.a.c0
        have z10 := M2.out.1.b.c0
        have k9 : w.heap.size + 1 + 1 + 1 < b9 := M2.out.2.2.2.2.2.2.1
        have k10 : w.heap.size + 1 + 1 + 1 < b10 := M2.out.2.2.2.2.2.2.2
        have kn : ¬ b9 = b10 := M2.out.2.2.2.2.2.1
        have kn2 : ¬ b10 = b9 := fun q => kn q.symm
        have HRL : Hid (rr = 0 ↔ (dgs R0.natAbs).length = 0) := by
          rw [← HR0.out, sgn_abs]
          constructor
          · rintro rfl; rw [dgs_zero]; rfl
          · intro q
            rcases Nat.eq_zero_or_pos rr with h | h
            · exact h
            · rw [dgs_pos h] at q; simp at q
        have I9 : Hid (IvA wc A9 c9 Q0) := ⟨M2.out.2.2.2.1, by rw [← HQ0.out, sgn_abs]; have := LQ.out; omega⟩
        have I10 : Hid (IvA wc A10 c10 R0) := ⟨M2.out.2.2.2.2.1, by rw [← HR0.out, sgn_abs]; have := LR.out; omega⟩
        by_cases hc : sg = true ∧ rr ≠ 0
        · obtain ⟨hs, hr⟩ := hc
          subst hs
          have PF : Hid (∀ e w', DmP w (Q0 - 1) e w' → DmQ w z y e w') := by have := P.out; rw [if_pos ⟨rfl, hr⟩, HQ0.out] at this; exact this
          have hl10 : 0 < (dgs R0.natAbs).length := by have := HRL.out; omega
          have hl10b : (0 : Int) < (((dgs R0.natAbs).length : Nat) : Int) := by omega
          clear hr
          obtain ⟨n1, hn1⟩ : ∃ k, (dgs ((1 : Int)).natAbs).length = k := ⟨_, rfl⟩
          have KF : Hid (∀ w', Calls Try.prog 4 #[.int .i64 1] w' (IvQ w' 1 false n1)) := fun w' => (from_any 1 w' (by unfold i64B; decide)).mono fun e w'' ⟨A', c', he, hd, hb⟩ => ⟨A', c', by rw [he, hn1]; rfl, iv_small hd (by decide), hb⟩
          have KS : Hid (∀ (w' : World) (A' : Option Addr) (c' : Nat), Below wc.heap.size wc w' → IvA w' A' c' 1 → Calls Try.prog 16 #[.agg #[.bool (decide (Q0 < 0)), .slice A9 (dgs Q0.natAbs).length c9], .agg #[.bool false, .slice A' n1 c']] w' (IvP w' (Q0 - 1))) := fun w' A' c' hb h' => isub_any A9 c9 Q0 _ _ A' c' 1 false n1 w' (I9.out.next hb) rfl rfl h' rfl hn1
          have KA : Hid (∀ w', Below wc.heap.size wc w' → Calls Try.prog 8 #[.agg #[.bool (decide (R0 < 0)), .slice A10 (dgs R0.natAbs).length c10], .agg #[.bool mg, .slice B1 m d1]] w' (IvP w' (R0 + y))) := fun w' hb => iadd_any A10 c10 R0 _ _ B1 d1 y mg m w' (I10.out.next hb) rfl rfl (M2.out.1.db.next hb) HG2.out HN2.out
          have Z9 := Lib.hid M2.out.2.1
          have Z10 := Lib.hid M2.out.2.2.1
          have ZB := Lib.hid M2.out.1.b
          have KR := Lib.hid M2.out.1
          have z11 := M2.out.1.b.c1
          clear hn1
          have j1 : ¬ w.heap.size + 1 = b9 := by omega
          have j2 : ¬ b9 = w.heap.size + 1 := by omega
          have j3 : ¬ w.heap.size + 1 = b10 := by omega
          have j4 : ¬ b10 = w.heap.size + 1 := by omega
          go_upto_region 7 with (fail)
          try clear M2
          try clear I9
          try clear I10
          try clear HRL
          try clear P
          try clear M1
          try clear M5
          try clear KV
          try clear HYN
          try clear HG
          try clear HN
          try clear HG2
          try clear HN2
          try clear DQ
          try clear DR
          try clear LQ
          try clear LR
          try clear HQ0
          try clear HR0
          try clear MQ
          try clear MR
          try clear hsg2
          try clear hl10
          try clear hl10b
          try clear x00
          try clear x01
          try clear x10
          try clear x11
          try clear z00
          try clear hbxw5
          try clear n0w5
          try clear n1w5
          try clear n2w5
          try clear m0w5
          try clear m1w5
          try clear m2w5
          try clear BW
          try clear hm0
          try clear hm1
          try clear hs1
          try clear hs2
          try clear ne01
          try clear ne02
          try clear ne03
          try clear ne10
          try clear ne12
          try clear ne13
          try clear ne20
          try clear ne21
          try clear ne23
          try clear ne30
          try clear ne31
          try clear ne32
          go_cut [] (fun wx => Hid (∃ A c t A' n' c', DmF w wx b9 b10 (Q0 - 1) A c t (.slice A' n' c')))
          case first =>
            first | (go_region_with
              (first
                | (go_at_call 4; (with_reducible refine (KF.out _).mono ?_); rintro e w11 ⟨A11, c11, rfl, hd, hb⟩; have BZ : Hid (Below wc.heap.size wc w11) := (by first | exact BZ.out.trans (hb.mono BZ.out.size) | exact ((Below.refl _ _).drew).trans (hb.mono (by first | exact Nat.le_refl _ | (simp; done)))); have D11 := Lib.hid hd; have Z9 : Hid (RBox w11 _ _ _) := (by first | exact Z9.out.next hb | exact Z9.out.drew.next hb); have t00 := Z9.out.c0; have t01 := Z9.out.c1; have t02 := Z9.out.f0; have t03 := Z9.out.f1; have Z10 : Hid (RBox w11 _ _ _) := (by first | exact Z10.out.next hb | exact Z10.out.drew.next hb); have t10 := Z10.out.c0; have t11 := Z10.out.c1; have t12 := Z10.out.f0; have t13 := Z10.out.f1; have ZB : Hid (RBox w11 _ _ _) := (by first | exact ZB.out.next hb | exact ZB.out.drew.next hb); have t20 := ZB.out.c0; have t21 := ZB.out.c1; have t22 := ZB.out.f0; have t23 := ZB.out.f1; (first | (have KR := Lib.hid (KR.out.next hb)) | (have KR := Lib.hid (KR.out.drew.next hb))); (first | (have D12 := Lib.hid (D12.out.next hb)) | skip); (first | (have D13 := Lib.hid (D13.out.next hb)) | skip); clear hb hd)
                | (go_at_call 16; (with_reducible refine (KS.out _ A11 c11 (by first | exact BZ.out | exact (Below.refl _ _).drew) D11.out).mono ?_); rintro e w12 ⟨A12, c12, rfl, hd, hb⟩; have BZ : Hid (Below wc.heap.size wc w12) := (by first | exact BZ.out.trans (hb.mono BZ.out.size) | exact ((Below.refl _ _).drew).trans (hb.mono (by first | exact Nat.le_refl _ | (simp; done)))); have D12 := Lib.hid hd; have Z9 : Hid (RBox w12 _ _ _) := (by first | exact Z9.out.next hb | exact Z9.out.drew.next hb); have t00 := Z9.out.c0; have t01 := Z9.out.c1; have t02 := Z9.out.f0; have t03 := Z9.out.f1; have Z10 : Hid (RBox w12 _ _ _) := (by first | exact Z10.out.next hb | exact Z10.out.drew.next hb); have t10 := Z10.out.c0; have t11 := Z10.out.c1; have t12 := Z10.out.f0; have t13 := Z10.out.f1; have ZB : Hid (RBox w12 _ _ _) := (by first | exact ZB.out.next hb | exact ZB.out.drew.next hb); have t20 := ZB.out.c0; have t21 := ZB.out.c1; have t22 := ZB.out.f0; have t23 := ZB.out.f1; (first | (have KR := Lib.hid (KR.out.next hb)) | (have KR := Lib.hid (KR.out.drew.next hb))); (first | (have D11 := Lib.hid (D11.out.next hb)) | skip); (first | (have D13 := Lib.hid (D13.out.next hb)) | skip); clear hb hd)
                | (go_at_call 8; (with_reducible refine (KA.out _ (by first | exact BZ.out | exact (Below.refl _ _).drew)).mono ?_); rintro e w13 ⟨A13, c13, rfl, hd, hb⟩; have BZ : Hid (Below wc.heap.size wc w13) := (by first | exact BZ.out.trans (hb.mono BZ.out.size) | exact ((Below.refl _ _).drew).trans (hb.mono (by first | exact Nat.le_refl _ | (simp; done)))); have D13 := Lib.hid hd; have Z9 : Hid (RBox w13 _ _ _) := (by first | exact Z9.out.next hb | exact Z9.out.drew.next hb); have t00 := Z9.out.c0; have t01 := Z9.out.c1; have t02 := Z9.out.f0; have t03 := Z9.out.f1; have Z10 : Hid (RBox w13 _ _ _) := (by first | exact Z10.out.next hb | exact Z10.out.drew.next hb); have t10 := Z10.out.c0; have t11 := Z10.out.c1; have t12 := Z10.out.f0; have t13 := Z10.out.f1; have ZB : Hid (RBox w13 _ _ _) := (by first | exact ZB.out.next hb | exact ZB.out.drew.next hb); have t20 := ZB.out.c0; have t21 := ZB.out.c1; have t22 := ZB.out.f0; have t23 := ZB.out.f1; (first | (have KR := Lib.hid (KR.out.next hb)) | (have KR := Lib.hid (KR.out.drew.next hb))); (first | (have D11 := Lib.hid (D11.out.next hb)) | skip); (first | (have D12 := Lib.hid (D12.out.next hb)) | skip); clear hb hd))) | fail
            all_goals go_wp2_with fail
            all_goals go_meet
            all_goals exact ⟨_, _, _, _, _, _, dmf_fin KR.out Z9.out Z10.out D12.out kn k9 k10⟩
          case rest =>
            obtain ⟨AX, cX, tX, AY, nY, cY, DX⟩ := Hid.out hcut
            clear hcut
            have y90 := DX.b9.c0
            have y91 := DX.b9.c1
            have y100 := DX.b10.c0
            have y101 := DX.b10.c1
            have DX := Lib.hid DX
            go_upto_region 8 with (fail)
            have r0 := DX.out.r.c0
            have r1 := DX.out.r.c1
            have r2 := DX.out.r.f0
            have r3 := DX.out.r.f1
            have s0 := DX.out.s.c0
            have s1 := DX.out.s.c1
            have s2 := DX.out.s.f0
            have s3 := DX.out.s.f1
            go_region
            all_goals go_wp2
            all_goals
              refine bodyPost_ret (v := .tuple #[.agg #[.bool (decide (Q0 - 1 < 0)), .slice AX (dgs (Q0 - 1).natAbs).length cX], .agg #[.bool tX, .slice AY nY cY], .int .i64 0]) ?_ rfl ?_
              · rw [results_cct rfl]; go_simp
              · exact PF.out _ _ ⟨AX, cX, _, _, _, _, rfl, ((DX.out.d.put2 DX.out.r.c0 _ _).put2 (DX.out.s.other (by omega) _ _).c0 _ _).drew, ((((DX.out.bel.setCell (by show w.heap.size ≤ w.heap.size + 1 + 1; omega) _).setCell (by show w.heap.size ≤ w.heap.size + 1 + 1; omega) _).setCell (by show w.heap.size ≤ w.heap.size + 1 + 1 + 1; omega) _).setCell (by show w.heap.size ≤ w.heap.size + 1 + 1 + 1; omega) _).drew⟩
        · have PF : Hid (∀ e w', DmP w Q0 e w' → DmQ w z y e w') := by have := P.out; rw [if_neg hc, HQ0.out] at this; exact this
          by_cases hr : rr = 0
          · have hl10 : (dgs R0.natAbs).length = 0 := HRL.out.1 hr
            have hl10b : ¬ (0 : Int) < (((dgs R0.natAbs).length : Nat) : Int) := by omega
            have hl10c : ¬ 0 < (dgs R0.natAbs).length := by omega
            have HL0 := Lib.hid hl10
            clear hl10
            clear hc hr
            go_wp2
            have r0 := M2.out.1.r.c0
            have r1 := M2.out.1.r.c1
            have r2 := M2.out.1.r.f0
            have r3 := M2.out.1.r.f1
            have s0 := M2.out.1.s.c0
            have s1 := M2.out.1.s.c1
            have s2 := M2.out.1.s.f0
            have s3 := M2.out.1.s.f1
            go_region
            all_goals go_wp2
            all_goals
              refine bodyPost_ret (v := .tuple #[.agg #[.bool (decide (Q0 < 0)), .slice A9 (dgs (Q0).natAbs).length c9], .agg #[.bool (decide (R0 < 0)), .slice A10 (dgs R0.natAbs).length c10], .int .i64 0]) ?_ rfl ?_
              · rw [results_cct rfl]; go_simp
              · exact PF.out _ _ ⟨A9, c9, _, _, _, _, rfl, ((M2.out.2.2.2.1.put2 M2.out.1.r.c0 _ _).put2 (M2.out.1.s.other (by omega) _ _).c0 _ _).drew, ((((M2.out.1.bel.setCell (by show w.heap.size ≤ w.heap.size + 1 + 1; omega) _).setCell (by show w.heap.size ≤ w.heap.size + 1 + 1; omega) _).setCell (by show w.heap.size ≤ w.heap.size + 1 + 1 + 1; omega) _).setCell (by show w.heap.size ≤ w.heap.size + 1 + 1 + 1; omega) _).drew⟩
          · have hs : sg = false := by cases sg with | false => rfl | true => exact absurd ⟨rfl, hr⟩ hc
            subst hs
            have hl10 : 0 < (dgs R0.natAbs).length := by have := HRL.out; omega
            have hl10b : (0 : Int) < (((dgs R0.natAbs).length : Nat) : Int) := by omega
            clear hc hr
            go_wp2
            have r0 := M2.out.1.r.c0
            have r1 := M2.out.1.r.c1
            have r2 := M2.out.1.r.f0
            have r3 := M2.out.1.r.f1
            have s0 := M2.out.1.s.c0
            have s1 := M2.out.1.s.c1
            have s2 := M2.out.1.s.f0
            have s3 := M2.out.1.s.f1
            go_region
            all_goals go_wp2
            all_goals
              refine bodyPost_ret (v := .tuple #[.agg #[.bool (decide (Q0 < 0)), .slice A9 (dgs (Q0).natAbs).length c9], .agg #[.bool (decide (R0 < 0)), .slice A10 (dgs R0.natAbs).length c10], .int .i64 0]) ?_ rfl ?_
              · rw [results_cct rfl]; go_simp
              · exact PF.out _ _ ⟨A9, c9, _, _, _, _, rfl, ((M2.out.2.2.2.1.put2 M2.out.1.r.c0 _ _).put2 (M2.out.1.s.other (by omega) _ _).c0 _ _).drew, ((((M2.out.1.bel.setCell (by show w.heap.size ≤ w.heap.size + 1 + 1; omega) _).setCell (by show w.heap.size ≤ w.heap.size + 1 + 1; omega) _).setCell (by show w.heap.size ≤ w.heap.size + 1 + 1 + 1; omega) _).setCell (by show w.heap.size ≤ w.heap.size + 1 + 1 + 1; omega) _).drew⟩

end Go.Proofs.Ytifdimpfgglieaa
