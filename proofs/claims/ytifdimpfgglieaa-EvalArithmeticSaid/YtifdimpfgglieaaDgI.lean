/-
  The contracts of the integers' functions of pairingref1: Canon, Negate, Compare, Add, Sub, Mul.
-/
import Derived.Test.YtifdimpfgglieaaDgZ
import Derived.Deep.RegionHeld3
import Derived.Lib.QuietBelow
import Derived.Deep.CutBlock
import Derived.Deep.DeepCutAuto
namespace Go.Proofs.Ytifdimpfgglieaa
set_option linter.unusedVariables false
set_option linter.unusedSimpArgs false
open Go.ChangeShapes Go.WideShapes Go.ChangeAt Go.RowKit

/-- An Int's box of the call's own. -/
structure RBox (w : World) (b : Nat) (t : Bool) (v : Value) : Prop where
  c0 : w.cell? ⟨b, 0, none⟩ = some (.bool t)
  c1 : w.cell? ⟨b, 1, none⟩ = some v
  f0 : w.frozen? ⟨b, 0, none⟩ = false
  f1 : w.frozen? ⟨b, 1, none⟩ = false
theorem RBox.next {w w' : World} {b : Nat} {t : Bool} {v : Value} (h : RBox w b t v) (hb : Below w.heap.size w w') : RBox w' b t v :=
  ⟨bk_cell hb h.c0, bk_cell hb h.c1, bk_free hb h.c0 h.f0, bk_free hb h.c1 h.f1⟩
theorem RBox.drew {w : World} {b : Nat} {t : Bool} {v : Value} (h : RBox w b t v) : RBox w.drew b t v := ⟨h.c0, h.c1, h.f0, h.f1⟩
theorem box_other {w : World} {b b2 o o2 : Nat} (u : Value) (hne : b ≠ b2) : (w.setCell ⟨b2, o2, none⟩ u).cell? ⟨b, o, none⟩ = w.cell? ⟨b, o, none⟩ ∧ (w.setCell ⟨b2, o2, none⟩ u).frozen? ⟨b, o, none⟩ = w.frozen? ⟨b, o, none⟩ := by
  refine ⟨World.cell?_setCell_other _ _ _ _ (fun e => hne (by have := congrArg Addr.block e; first | exact this | exact this.symm)), ?_⟩
  have h := Below.heap_setCell w ⟨b2, o2, none⟩ u b (by first | exact hne | exact hne.symm)
  simp only [World.frozen?, h]
theorem RBox.other {w : World} {b b2 : Nat} {t : Bool} {v : Value} (h : RBox w b t v) (hne : b ≠ b2) (u v' : Value) : RBox ((w.setCell ⟨b2, 0, none⟩ u).setCell ⟨b2, 1, none⟩ v') b t v := by
  refine ⟨?_, ?_, ?_, ?_⟩
  · rw [(box_other _ hne).1, (box_other _ hne).1]; exact h.c0
  · rw [(box_other _ hne).1, (box_other _ hne).1]; exact h.c1
  · rw [(box_other _ hne).2, (box_other _ hne).2]; exact h.f0
  · rw [(box_other _ hne).2, (box_other _ hne).2]; exact h.f1
theorem RBox.put {w : World} {b : Nat} {t : Bool} {v : Value} (h : RBox w b t v) (t' : Bool) (v' : Value) : RBox ((w.setCell ⟨b, 0, none⟩ (.bool t')).setCell ⟨b, 1, none⟩ v') b t' v' := by
  obtain ⟨h0, h1, h2, h3⟩ := h
  refine ⟨?_, ?_, ?_, ?_⟩ <;> simp [go_sem, h0, h1, h2, h3]
theorem IvA.put2 {w : World} {A : Option Addr} {c b : Nat} {z : Int} {t : Bool} {v : Value} (h : IvA w A c z) (hb : RBox w b t v) (u v' : Value) : IvA ((w.setCell ⟨b, 0, none⟩ u).setCell ⟨b, 1, none⟩ v') A c z := ⟨h.d.put2 hb.c0 _ _, h.s⟩
theorem IvA.drew {w : World} {A : Option Addr} {c : Nat} {z : Int} (h : IvA w A c z) : IvA w.drew A c z := ⟨⟨h.d.dg, h.d.len, h.d.nil, h.d.at_⟩, h.s⟩
/-- Both boxes are written anew. -/
def TwoB (w0 w : World) (p q : Nat) (ng : Bool) (n : Nat) (z : Int) (mg : Bool) (m : Nat) (y : Int) : Prop :=
  ∃ A c B d, RBox w p ng (.slice A n c) ∧ RBox w q mg (.slice B m d) ∧ IvA w A c z ∧ IvA w B d y ∧ Below w0.heap.size w0 w
theorem two_put {w0 w : World} {p q n m c d : Nat} {t s ng mg : Bool} {v v' : Value} {A B : Option Addr} {z y : Int} (RA : RBox w p t v) (RB : RBox w q s v') (hne : p ≠ q) (ha : IvA w A c z) (hb : IvA w B d y) (hw : Below w0.heap.size w0 w) (hp : w0.heap.size ≤ p) (hq : w0.heap.size ≤ q) :
    TwoB w0 ((((w.setCell ⟨p, 0, none⟩ (.bool ng)).setCell ⟨p, 1, none⟩ (.slice A n c)).setCell ⟨q, 0, none⟩ (.bool mg)).setCell ⟨q, 1, none⟩ (.slice B m d)) p q ng n z mg m y :=
  ⟨A, c, B, d, (RA.put _ _).other hne _ _, ((RB.other hne.symm _ _).put _ _), ((ha.put2 RA _ _).put2 (RB.other hne.symm _ _) _ _), ((hb.put2 RA _ _).put2 (RB.other hne.symm _ _) _ _), (((hw.setCell hp _).setCell hp _).setCell hq _).setCell hq _⟩

set_option maxHeartbeats 2000000 in
set_option maxRecDepth 100000 in
theorem canon_any (A : Option Addr) (c : Nat) (z : Int) (ng : Bool) (n : Nat) (w : World) (h : IvA w A c z) (hg : decide (z < 0) = ng) (hn : (dgs z.natAbs).length = n) :
    Calls Try.prog 14 #[.agg #[.bool ng, .slice A n c]] w (IvP w (z)) := by
  have KM := Lib.hid (fun w' hb => make_iv A c z ng n w' (h.next hb) hg hn)
  clear h hg hn
  go_enter Try.func14, Try.ntmps14
  go_upto_region 1 with (fail)
  have b00 : ((w.alloc (.cells #[.bool ng, .slice A n c] 24)).alloc (.cells #[.bool false, .slice none 0 0] 24)).cell? ⟨w.heap.size, 0, none⟩ = some (.bool ng) := by simp [go_sem]
  have g00 : ((w.alloc (.cells #[.bool ng, .slice A n c] 24)).alloc (.cells #[.bool false, .slice none 0 0] 24)).frozen? ⟨w.heap.size, 0, none⟩ = false := by simp [go_sem]
  have b01 : ((w.alloc (.cells #[.bool ng, .slice A n c] 24)).alloc (.cells #[.bool false, .slice none 0 0] 24)).cell? ⟨w.heap.size, 1, none⟩ = some (.slice A n c) := by simp [go_sem]
  have g01 : ((w.alloc (.cells #[.bool ng, .slice A n c] 24)).alloc (.cells #[.bool false, .slice none 0 0] 24)).frozen? ⟨w.heap.size, 1, none⟩ = false := by simp [go_sem]
  have b10 : ((w.alloc (.cells #[.bool ng, .slice A n c] 24)).alloc (.cells #[.bool false, .slice none 0 0] 24)).cell? ⟨w.heap.size + 1, 0, none⟩ = some (.bool false) := by simp [go_sem]
  have g10 : ((w.alloc (.cells #[.bool ng, .slice A n c] 24)).alloc (.cells #[.bool false, .slice none 0 0] 24)).frozen? ⟨w.heap.size + 1, 0, none⟩ = false := by simp [go_sem]
  have b11 : ((w.alloc (.cells #[.bool ng, .slice A n c] 24)).alloc (.cells #[.bool false, .slice none 0 0] 24)).cell? ⟨w.heap.size + 1, 1, none⟩ = some (.slice none 0 0) := by simp [go_sem]
  have g11 : ((w.alloc (.cells #[.bool ng, .slice A n c] 24)).alloc (.cells #[.bool false, .slice none 0 0] 24)).frozen? ⟨w.heap.size + 1, 1, none⟩ = false := by simp [go_sem]
  have BW : Hid (Below w.heap.size w ((w.alloc (.cells #[.bool ng, .slice A n c] 24)).alloc (.cells #[.bool false, .slice none 0 0] 24))) := (((Below.refl _ _).alloc (by first | (simp; done) | (simp; omega)) _).alloc (by first | (simp; done) | (simp; omega)) _)
  generalize ((w.alloc (.cells #[.bool ng, .slice A n c] 24)).alloc (.cells #[.bool false, .slice none 0 0] 24)) = w0 at *
  have ne01 : ¬ w.heap.size = w.heap.size + 1 := by omega
  have ne10 : ¬ w.heap.size + 1 = w.heap.size := by omega
  have RB : Hid (RBox w0 (w.heap.size + 1) false (.slice none 0 0)) := ⟨b10, b11, g10, g11⟩
  clear b10 b11 g10 g11
  go_wp2_with (go_at_call 13; (with_reducible refine (KM.out _ (by exact BW.out)).mono ?_); rintro e w2 ⟨A', c', rfl, hd2, hb2⟩; have RX := Lib.hid (RB.out.next hb2); have r0 := RX.out.c0; have r1 := RX.out.c1; have r2 := RX.out.f0; have r3 := RX.out.f1; have BX := Lib.hid (BW.out.trans (hb2.mono BW.out.size)); have HD := Lib.hid hd2; clear hb2 hd2)
  refine bodyPost_ret (v := .agg #[.bool (decide (z < 0)), .slice A' (dgs (Int.natAbs (z))).length c']) ?_ rfl ?_
  · rw [results_cell1 rfl]; go_simp
  · exact ⟨A', c', rfl, HD.out.put2 RX.out.c0 _ _, (BX.out.setCell (by simp) _).setCell (by simp) _⟩

set_option maxHeartbeats 2000000 in
set_option maxRecDepth 100000 in
theorem negate_any (A : Option Addr) (c : Nat) (z : Int) (ng : Bool) (n : Nat) (w : World) (h : IvA w A c z) (hg : decide (z < 0) = ng) (hn : (dgs z.natAbs).length = n) :
    Calls Try.prog 18 #[.agg #[.bool ng, .slice A n c]] w (IvP w (-z)) := by
  have KM := Lib.hid (fun w' hb => make_neg A c z ng n w' (h.next hb) hg hn)
  clear h hg hn
  go_enter Try.func18, Try.ntmps18
  go_upto_region 1 with (fail)
  have b00 : ((w.alloc (.cells #[.bool ng, .slice A n c] 24)).alloc (.cells #[.bool false, .slice none 0 0] 24)).cell? ⟨w.heap.size, 0, none⟩ = some (.bool ng) := by simp [go_sem]
  have g00 : ((w.alloc (.cells #[.bool ng, .slice A n c] 24)).alloc (.cells #[.bool false, .slice none 0 0] 24)).frozen? ⟨w.heap.size, 0, none⟩ = false := by simp [go_sem]
  have b01 : ((w.alloc (.cells #[.bool ng, .slice A n c] 24)).alloc (.cells #[.bool false, .slice none 0 0] 24)).cell? ⟨w.heap.size, 1, none⟩ = some (.slice A n c) := by simp [go_sem]
  have g01 : ((w.alloc (.cells #[.bool ng, .slice A n c] 24)).alloc (.cells #[.bool false, .slice none 0 0] 24)).frozen? ⟨w.heap.size, 1, none⟩ = false := by simp [go_sem]
  have b10 : ((w.alloc (.cells #[.bool ng, .slice A n c] 24)).alloc (.cells #[.bool false, .slice none 0 0] 24)).cell? ⟨w.heap.size + 1, 0, none⟩ = some (.bool false) := by simp [go_sem]
  have g10 : ((w.alloc (.cells #[.bool ng, .slice A n c] 24)).alloc (.cells #[.bool false, .slice none 0 0] 24)).frozen? ⟨w.heap.size + 1, 0, none⟩ = false := by simp [go_sem]
  have b11 : ((w.alloc (.cells #[.bool ng, .slice A n c] 24)).alloc (.cells #[.bool false, .slice none 0 0] 24)).cell? ⟨w.heap.size + 1, 1, none⟩ = some (.slice none 0 0) := by simp [go_sem]
  have g11 : ((w.alloc (.cells #[.bool ng, .slice A n c] 24)).alloc (.cells #[.bool false, .slice none 0 0] 24)).frozen? ⟨w.heap.size + 1, 1, none⟩ = false := by simp [go_sem]
  have BW : Hid (Below w.heap.size w ((w.alloc (.cells #[.bool ng, .slice A n c] 24)).alloc (.cells #[.bool false, .slice none 0 0] 24))) := (((Below.refl _ _).alloc (by first | (simp; done) | (simp; omega)) _).alloc (by first | (simp; done) | (simp; omega)) _)
  generalize ((w.alloc (.cells #[.bool ng, .slice A n c] 24)).alloc (.cells #[.bool false, .slice none 0 0] 24)) = w0 at *
  have ne01 : ¬ w.heap.size = w.heap.size + 1 := by omega
  have ne10 : ¬ w.heap.size + 1 = w.heap.size := by omega
  have RB : Hid (RBox w0 (w.heap.size + 1) false (.slice none 0 0)) := ⟨b10, b11, g10, g11⟩
  clear b10 b11 g10 g11
  go_wp2_with (go_at_call 13; (with_reducible refine (KM.out _ (by exact BW.out)).mono ?_); rintro e w2 ⟨A', c', rfl, hd2, hb2⟩; have RX := Lib.hid (RB.out.next hb2); have r0 := RX.out.c0; have r1 := RX.out.c1; have r2 := RX.out.f0; have r3 := RX.out.f1; have BX := Lib.hid (BW.out.trans (hb2.mono BW.out.size)); have HD := Lib.hid hd2; clear hb2 hd2)
  refine bodyPost_ret (v := .agg #[.bool (decide (-z < 0)), .slice A' (dgs (Int.natAbs (-z))).length c']) ?_ rfl ?_
  · rw [results_cell1 rfl]; go_simp
  · exact ⟨A', c', rfl, HD.out.put2 RX.out.c0 _ _, (BX.out.setCell (by simp) _).setCell (by simp) _⟩

/-- As IvP, in letters. -/
def IvQ (w : World) (z : Int) (ng : Bool) (n : Nat) (e : Ending) (w' : World) : Prop := ∃ A c, e = .returned (.agg #[.bool ng, .slice A n c]) ∧ IvA w' A c z ∧ Below w.heap.size w w'
theorem canon_q (A : Option Addr) (c : Nat) (z : Int) (ng : Bool) (n : Nat) (w : World) (h : IvA w A c z) (hg : decide (z < 0) = ng) (hn : (dgs z.natAbs).length = n) :
    Calls Try.prog 14 #[.agg #[.bool ng, .slice A n c]] w (IvQ w z ng n) :=
  (canon_any A c z ng n w h hg hn).mono fun e w' ⟨A', c', he, hd, hb⟩ => ⟨A', c', by rw [he, hg, hn], ⟨hd, h.s⟩, hb⟩
theorem cmp_iv (A B : Option Addr) (c d : Nat) (x y : Nat) (n m : Nat) (w : World) (h : DgA w A c (dgs x)) (h2 : DgA w B d (dgs y)) (hn : (dgs x).length = n) (hm : (dgs y).length = m) (hs : n ≤ 100) (hs2 : m ≤ 100) :
    Calls Try.prog 22 #[.slice A n c, .slice B m d] w (CmpP w (cmpN x y)) := by
  subst hn hm
  have := cmp_any A B c d (dgs x) (dgs y) w h h2 hs hs2
  rw [val_dgs, val_dgs] at this
  exact this
def cmpI (z y : Int) : Int := if z < y then -1 else if y < z then 1 else 0

set_option maxHeartbeats 2000000 in
set_option maxRecDepth 100000 in
theorem compare_any (A : Option Addr) (c : Nat) (z : Int) (ng : Bool) (n : Nat) (B : Option Addr) (d : Nat) (y : Int) (mg : Bool) (m : Nat) (w : World) (h : IvA w A c z) (hg : decide (z < 0) = ng) (hn : (dgs z.natAbs).length = n) (h2 : IvA w B d y) (hg2 : decide (y < 0) = mg) (hn2 : (dgs y.natAbs).length = m) :
    Calls Try.prog 17 #[.agg #[.bool ng, .slice A n c], .agg #[.bool mg, .slice B m d]] w (CmpP w (cmpI z y)) := by
  have KA0 := fun w' hb => canon_q A c z ng n w' (h.next hb) hg hn
  have KB0 := fun w' hb => canon_q B d y mg m w' (h2.next hb) hg2 hn2
  have hs1 : n ≤ 50 := by rw [← hn]; exact h.s
  have hs2 : m ≤ 50 := by rw [← hn2]; exact h2.s
  obtain ⟨R, hR⟩ : ∃ R, cmpI z y = R := ⟨_, rfl⟩
  have HR := Lib.hid hR
  rw [hR]
  clear hR
  have KA := Lib.hid KA0
  have KB := Lib.hid KB0
  have HG := Lib.hid hg
  have HG2 := Lib.hid hg2
  have HN := Lib.hid hn
  have HN2 := Lib.hid hn2
  clear h hg hn h2 hg2 hn2 KA0 KB0
  go_enter Try.func17, Try.ntmps17
  go_upto_region 1 with (fail)
  have b00 : ((w.alloc (.cells #[.bool ng, .slice A n c] 24)).alloc (.cells #[.bool mg, .slice B m d] 24)).cell? ⟨w.heap.size, 0, none⟩ = some (.bool ng) := by simp [go_sem]
  have g00 : ((w.alloc (.cells #[.bool ng, .slice A n c] 24)).alloc (.cells #[.bool mg, .slice B m d] 24)).frozen? ⟨w.heap.size, 0, none⟩ = false := by simp [go_sem]
  have b01 : ((w.alloc (.cells #[.bool ng, .slice A n c] 24)).alloc (.cells #[.bool mg, .slice B m d] 24)).cell? ⟨w.heap.size, 1, none⟩ = some (.slice A n c) := by simp [go_sem]
  have g01 : ((w.alloc (.cells #[.bool ng, .slice A n c] 24)).alloc (.cells #[.bool mg, .slice B m d] 24)).frozen? ⟨w.heap.size, 1, none⟩ = false := by simp [go_sem]
  have b10 : ((w.alloc (.cells #[.bool ng, .slice A n c] 24)).alloc (.cells #[.bool mg, .slice B m d] 24)).cell? ⟨w.heap.size + 1, 0, none⟩ = some (.bool mg) := by simp [go_sem]
  have g10 : ((w.alloc (.cells #[.bool ng, .slice A n c] 24)).alloc (.cells #[.bool mg, .slice B m d] 24)).frozen? ⟨w.heap.size + 1, 0, none⟩ = false := by simp [go_sem]
  have b11 : ((w.alloc (.cells #[.bool ng, .slice A n c] 24)).alloc (.cells #[.bool mg, .slice B m d] 24)).cell? ⟨w.heap.size + 1, 1, none⟩ = some (.slice B m d) := by simp [go_sem]
  have g11 : ((w.alloc (.cells #[.bool ng, .slice A n c] 24)).alloc (.cells #[.bool mg, .slice B m d] 24)).frozen? ⟨w.heap.size + 1, 1, none⟩ = false := by simp [go_sem]
  have BW : Hid (Below w.heap.size w ((w.alloc (.cells #[.bool ng, .slice A n c] 24)).alloc (.cells #[.bool mg, .slice B m d] 24))) := (((Below.refl _ _).alloc (by first | (simp; done) | (simp; omega)) _).alloc (by first | (simp; done) | (simp; omega)) _)
  generalize ((w.alloc (.cells #[.bool ng, .slice A n c] 24)).alloc (.cells #[.bool mg, .slice B m d] 24)) = w0 at *
  have ne01 : ¬ w.heap.size = w.heap.size + 1 := by omega
  have ne10 : ¬ w.heap.size + 1 = w.heap.size := by omega
  have RA : Hid (RBox w0 w.heap.size ng (.slice A n c)) := ⟨b00, b01, g00, g01⟩
  have RB : Hid (RBox w0 (w.heap.size + 1) mg (.slice B m d)) := ⟨b10, b11, g10, g11⟩
  go_cut [] (fun wx => Hid (TwoB w wx w.heap.size (w.heap.size + 1) ng n z mg m y))
  case first =>
    go_region_with (first
    | (go_at_call 14; refine (KA.out _ (by first | exact BX.out | exact BW.out.drew)).mono ?_; rintro e w5 ⟨A1, c1, rfl, hd, hb⟩; have BX : Hid (Below w.heap.size w w5) := (by first | exact BX.out.trans (hb.mono BX.out.size) | exact BW.out.drew.trans (hb.mono BW.out.size) | exact BW.out.trans (hb.mono BW.out.size)); have DA := Lib.hid hd; have RA : Hid (RBox w5 _ _ _) := (by first | exact RA.out.next hb | exact RA.out.drew.next hb); have q00 := RA.out.c0; have q01 := RA.out.c1; have q02 := RA.out.f0; have q03 := RA.out.f1; have RB : Hid (RBox w5 _ _ _) := (by first | exact RB.out.next hb | exact RB.out.drew.next hb); have q10 := RB.out.c0; have q11 := RB.out.c1; have q12 := RB.out.f0; have q13 := RB.out.f1; first | have DB := Lib.hid (DB.out.next hb) | skip; clear hb hd)
    | (go_at_call 14; refine (KB.out _ (by first | exact BX.out | exact BW.out.drew)).mono ?_; rintro e w6 ⟨B1, d1, rfl, hd, hb⟩; have BX : Hid (Below w.heap.size w w6) := (by first | exact BX.out.trans (hb.mono BX.out.size) | exact BW.out.drew.trans (hb.mono BW.out.size) | exact BW.out.trans (hb.mono BW.out.size)); have DB := Lib.hid hd; have RA : Hid (RBox w6 _ _ _) := (by first | exact RA.out.next hb | exact RA.out.drew.next hb); have q00 := RA.out.c0; have q01 := RA.out.c1; have q02 := RA.out.f0; have q03 := RA.out.f1; have RB : Hid (RBox w6 _ _ _) := (by first | exact RB.out.next hb | exact RB.out.drew.next hb); have q10 := RB.out.c0; have q11 := RB.out.c1; have q12 := RB.out.f0; have q13 := RB.out.f1; first | have DA := Lib.hid (DA.out.next hb) | skip; clear hb hd))
    all_goals (go_wp2_with fail; go_meet; exact two_put RA.out RB.out (by omega) DA.out DB.out BX.out (by omega) (by omega))
  case rest =>
    obtain ⟨A1, c1, B1, d1, X1, X2, D1, D2, bb⟩ := Hid.out hcut
    clear hcut RA RB b00 b01 b10 b11 g00 g01 g10 g11
    have x00 := X1.c0
    have x01 := X1.c1
    have x10 := X2.c0
    have x11 := X2.c1
    have BC := Lib.hid bb
    have KC1 := Lib.hid (cmp_iv A1 B1 c1 d1 z.natAbs y.natAbs n m wc D1.d D2.d HN.out HN2.out (by omega) (by omega))
    have KC2 := Lib.hid (cmp_iv B1 A1 d1 c1 y.natAbs z.natAbs m n wc D2.d D1.d HN2.out HN.out (by omega) (by omega))
    have hlt := HG.out
    have hlt2 := HG2.out
    have E1 : Hid (ng = true → mg = true → cmpI z y = cmpN y.natAbs z.natAbs) := by
      intro q1 q2
      rw [q1] at hlt; rw [q2] at hlt2
      have := of_decide_eq_true hlt
      have := of_decide_eq_true hlt2
      unfold cmpI cmpN
      repeat' split
      all_goals omega
    have E2 : Hid (ng = false → mg = false → cmpI z y = cmpN z.natAbs y.natAbs) := by
      intro q1 q2
      rw [q1] at hlt; rw [q2] at hlt2
      have := of_decide_eq_false hlt
      have := of_decide_eq_false hlt2
      unfold cmpI cmpN
      repeat' split
      all_goals omega
    have E3 : Hid (ng = true → mg = false → cmpI z y = -1) := by
      intro q1 q2
      rw [q1] at hlt; rw [q2] at hlt2
      have := of_decide_eq_true hlt
      have := of_decide_eq_false hlt2
      unfold cmpI
      repeat' split
      all_goals omega
    have E4 : Hid (ng = false → mg = true → cmpI z y = 1) := by
      intro q1 q2
      rw [q1] at hlt; rw [q2] at hlt2
      have := of_decide_eq_false hlt
      have := of_decide_eq_true hlt2
      unfold cmpI
      repeat' split
      all_goals omega
    clear hlt hlt2 bb X1 X2 D1 D2
    rw [HR.out] at E1 E2 E3 E4
    clear HR HG HG2 HN HN2 KA KB
    cases ng <;> cases mg
    · have RQ := E2.out rfl rfl
      rw [← RQ] at KC1
      have KK := Lib.hid KC1.out
      clear RQ KC1 KC2 E1 E2 E3 E4
      go_wp2_with (go_at_call 22; (with_reducible refine KK.out.mono ?_); rintro e w7 ⟨rfl, hb⟩)
      go_ret
      exact ⟨rfl, BC.out.trans (hb.mono BC.out.size)⟩
    · have RQ : Hid (R = 1) := E4.out rfl rfl
      go_wp2
      go_ret
      exact ⟨ret_int RQ.out.symm, BC.out⟩
    · have RQ : Hid (R = -1) := E3.out rfl rfl
      go_wp2
      go_ret
      exact ⟨ret_int RQ.out.symm, BC.out⟩
    · have RQ := E1.out rfl rfl
      rw [← RQ] at KC2
      have KK := Lib.hid KC2.out
      clear RQ KC1 KC2 E1 E2 E3 E4
      go_wp2_with (go_at_call 22; (with_reducible refine KK.out.mono ?_); rintro e w7 ⟨rfl, hb⟩)
      go_ret
      exact ⟨rfl, BC.out.trans (hb.mono BC.out.size)⟩

theorem dlt (x : Nat) : x < pw (dgs x).length := by have := val_lt (dgs x) (dgs_dg x); rwa [val_dgs] at this
theorem len_add (x y : Nat) (h : (dgs x).length ≤ 50) (h2 : (dgs y).length ≤ 50) : (dgs (x + y)).length ≤ 100 := by
  have h3 := Nat.lt_of_lt_of_le (dlt x) (pw_le h)
  have h4 := Nat.lt_of_lt_of_le (dlt y) (pw_le h2)
  have h5 : pw 51 = 4294967296 * pw 50 := rfl
  have := dgs_len_of (x + y) 51 (by omega)
  omega
theorem len_sub (x y : Nat) (h : (dgs x).length ≤ 50) : (dgs (x - y)).length ≤ 100 := by
  have := dgs_len_le (x - y) x (by omega)
  omega
theorem len_mul (x y : Nat) (h : (dgs x).length ≤ 50) (h2 : (dgs y).length ≤ 50) : (dgs (x * y)).length ≤ 100 := by
  have h3 := Nat.lt_of_lt_of_le (dlt x) (pw_le h)
  have h4 := Nat.lt_of_lt_of_le (dlt y) (pw_le h2)
  have h5 : x * y < pw 50 * pw 50 := Nat.mul_lt_mul_of_lt_of_le h3 (Nat.le_of_lt h4) (pw_pos 50)
  rw [← pw_add] at h5
  exact dgs_len_of _ _ h5
theorem make_dg (neg : Bool) (A : Option Addr) (c v : Nat) (w : World) (h : DgA w A c (dgs v)) (hl : (dgs v).length ≤ 100) :
    Calls Try.prog 13 #[.bool neg, .slice A (dgs v).length c] w (IvP w (sgnI neg v)) := by
  have := make_any neg A c (dgs v) w h hl
  rw [val_dgs] at this
  exact this
theorem add_iv (A B : Option Addr) (c d : Nat) (x y : Nat) (n m : Nat) (w : World) (h : DgA w A c (dgs x)) (h2 : DgA w B d (dgs y)) (hn : (dgs x).length = n) (hm : (dgs y).length = m) (hs : n ≤ 100) (hs2 : m ≤ 100) :
    Calls Try.prog 21 #[.slice A n c, .slice B m d] w (DgP w (x + y)) := by
  subst hn hm
  have := add_any A B c d (dgs x) (dgs y) w h h2 hs hs2
  rw [val_dgs, val_dgs] at this
  exact this
theorem sub_iv (A B : Option Addr) (c d : Nat) (x y : Nat) (n m : Nat) (w : World) (h : DgA w A c (dgs x)) (h2 : DgA w B d (dgs y)) (hn : (dgs x).length = n) (hm : (dgs y).length = m) (hs : n ≤ 100) (hle : y ≤ x) :
    Calls Try.prog 23 #[.slice A n c, .slice B m d] w (DgP w (x - y)) := by
  subst hn hm
  have := sub_any A B c d (dgs x) (dgs y) w h h2 hs (dgs_len_le _ _ hle) (by rw [val_dgs, val_dgs]; exact hle)
  rw [val_dgs, val_dgs] at this
  exact this
theorem mul_iv (A B : Option Addr) (c d : Nat) (x y : Nat) (n m : Nat) (w : World) (h : DgA w A c (dgs x)) (h2 : DgA w B d (dgs y)) (hn : (dgs x).length = n) (hm : (dgs y).length = m) (hs : n ≤ 100) (hs2 : m ≤ 100) :
    Calls Try.prog 26 #[.slice A n c, .slice B m d] w (DgP w (x * y)) := by
  subst hn hm
  have := mul_any A B c d (dgs x) (dgs y) w h h2 hs hs2
  rw [val_dgs, val_dgs] at this
  exact this
theorem trim_iv (A : Option Addr) (c : Nat) (x : Nat) (n : Nat) (w : World) (h : DgA w A c (dgs x)) (hn : (dgs x).length = n) (hs : n ≤ 100) :
    Calls Try.prog 24 #[.slice A n c] w fun e w' => e = .returned (.slice A n c) ∧ w = w' := by
  subst hn
  have := trim_any A c (dgs x) w h (by omega)
  rw [val_dgs] at this
  exact this
theorem mul_sgn (z y : Int) : sgnI (decide (z < 0) != decide (y < 0)) (z.natAbs * y.natAbs) = z * y := by
  unfold sgnI
  rw [← Int.natAbs_mul]
  by_cases h : z < 0 <;> by_cases k : y < 0
  · have := Int.mul_pos_of_neg_of_neg h k
    simp [h, k]; omega
  · have := Int.mul_nonpos_of_nonpos_of_nonneg (Int.le_of_lt h) (show 0 ≤ y by omega)
    simp [h, k]; omega
  · have := Int.mul_nonpos_of_nonneg_of_nonpos (show 0 ≤ z by omega) (Int.le_of_lt k)
    simp [h, k]; omega
  · have := Int.mul_nonneg (show 0 ≤ z by omega) (show 0 ≤ y by omega)
    simp [h, k]; omega

set_option maxHeartbeats 2000000 in
set_option maxRecDepth 100000 in
theorem imul_any (A : Option Addr) (c : Nat) (z : Int) (ng : Bool) (n : Nat) (B : Option Addr) (d : Nat) (y : Int) (mg : Bool) (m : Nat) (w : World) (h : IvA w A c z) (hg : decide (z < 0) = ng) (hn : (dgs z.natAbs).length = n) (h2 : IvA w B d y) (hg2 : decide (y < 0) = mg) (hn2 : (dgs y.natAbs).length = m) :
    Calls Try.prog 10 #[.agg #[.bool ng, .slice A n c], .agg #[.bool mg, .slice B m d]] w (IvP w (z * y)) := by
  have hs1 : n ≤ 50 := by rw [← hn]; exact h.s
  have hs2 : m ≤ 50 := by rw [← hn2]; exact h2.s
  have KX := Lib.hid (fun w' hb => mul_iv A B c d z.natAbs y.natAbs n m w' (h.next hb).d (h2.next hb).d hn hn2 (by omega) (by omega))
  have LX := Lib.hid (len_mul z.natAbs y.natAbs h.s h2.s)
  obtain ⟨sg, hsg⟩ : ∃ sg, (ng != mg) = sg := ⟨_, rfl⟩
  have EX : Hid (sgnI sg (z.natAbs * y.natAbs) = z * y) := by rw [← hsg, ← hg, ← hg2]; exact mul_sgn z y
  have hsg2 : (!ng == mg) = sg := by rw [← hsg]; cases ng <;> cases mg <;> rfl
  have MK0 := fun (w' : World) (A' : Option Addr) (c' : Nat) (hd : DgA w' A' c' (dgs (z.natAbs * y.natAbs))) => make_dg sg A' c' (z.natAbs * y.natAbs) w' hd LX.out
  rw [EX.out] at MK0
  have MK := Lib.hid MK0
  clear h h2 hg hg2 hn hn2 MK0 EX LX
  go_enter Try.func10, Try.ntmps10
  go_upto_region 1 with (fail)
  have b00 : (((w.alloc (.cells #[.bool ng, .slice A n c] 24)).alloc (.cells #[.bool mg, .slice B m d] 24)).alloc (.cells #[.bool false, .slice none 0 0] 24)).cell? ⟨w.heap.size, 0, none⟩ = some (.bool ng) := by simp [go_sem]
  have g00 : (((w.alloc (.cells #[.bool ng, .slice A n c] 24)).alloc (.cells #[.bool mg, .slice B m d] 24)).alloc (.cells #[.bool false, .slice none 0 0] 24)).frozen? ⟨w.heap.size, 0, none⟩ = false := by simp [go_sem]
  have b01 : (((w.alloc (.cells #[.bool ng, .slice A n c] 24)).alloc (.cells #[.bool mg, .slice B m d] 24)).alloc (.cells #[.bool false, .slice none 0 0] 24)).cell? ⟨w.heap.size, 1, none⟩ = some (.slice A n c) := by simp [go_sem]
  have g01 : (((w.alloc (.cells #[.bool ng, .slice A n c] 24)).alloc (.cells #[.bool mg, .slice B m d] 24)).alloc (.cells #[.bool false, .slice none 0 0] 24)).frozen? ⟨w.heap.size, 1, none⟩ = false := by simp [go_sem]
  have b10 : (((w.alloc (.cells #[.bool ng, .slice A n c] 24)).alloc (.cells #[.bool mg, .slice B m d] 24)).alloc (.cells #[.bool false, .slice none 0 0] 24)).cell? ⟨w.heap.size + 1, 0, none⟩ = some (.bool mg) := by simp [go_sem]
  have g10 : (((w.alloc (.cells #[.bool ng, .slice A n c] 24)).alloc (.cells #[.bool mg, .slice B m d] 24)).alloc (.cells #[.bool false, .slice none 0 0] 24)).frozen? ⟨w.heap.size + 1, 0, none⟩ = false := by simp [go_sem]
  have b11 : (((w.alloc (.cells #[.bool ng, .slice A n c] 24)).alloc (.cells #[.bool mg, .slice B m d] 24)).alloc (.cells #[.bool false, .slice none 0 0] 24)).cell? ⟨w.heap.size + 1, 1, none⟩ = some (.slice B m d) := by simp [go_sem]
  have g11 : (((w.alloc (.cells #[.bool ng, .slice A n c] 24)).alloc (.cells #[.bool mg, .slice B m d] 24)).alloc (.cells #[.bool false, .slice none 0 0] 24)).frozen? ⟨w.heap.size + 1, 1, none⟩ = false := by simp [go_sem]
  have b20 : (((w.alloc (.cells #[.bool ng, .slice A n c] 24)).alloc (.cells #[.bool mg, .slice B m d] 24)).alloc (.cells #[.bool false, .slice none 0 0] 24)).cell? ⟨w.heap.size + 1 + 1, 0, none⟩ = some (.bool false) := by simp [go_sem]
  have g20 : (((w.alloc (.cells #[.bool ng, .slice A n c] 24)).alloc (.cells #[.bool mg, .slice B m d] 24)).alloc (.cells #[.bool false, .slice none 0 0] 24)).frozen? ⟨w.heap.size + 1 + 1, 0, none⟩ = false := by simp [go_sem]
  have b21 : (((w.alloc (.cells #[.bool ng, .slice A n c] 24)).alloc (.cells #[.bool mg, .slice B m d] 24)).alloc (.cells #[.bool false, .slice none 0 0] 24)).cell? ⟨w.heap.size + 1 + 1, 1, none⟩ = some (.slice none 0 0) := by simp [go_sem]
  have g21 : (((w.alloc (.cells #[.bool ng, .slice A n c] 24)).alloc (.cells #[.bool mg, .slice B m d] 24)).alloc (.cells #[.bool false, .slice none 0 0] 24)).frozen? ⟨w.heap.size + 1 + 1, 1, none⟩ = false := by simp [go_sem]
  have BW : Hid (Below w.heap.size w (((w.alloc (.cells #[.bool ng, .slice A n c] 24)).alloc (.cells #[.bool mg, .slice B m d] 24)).alloc (.cells #[.bool false, .slice none 0 0] 24))) := ((((Below.refl _ _).alloc (by first | (simp; done) | (simp; omega)) _).alloc (by first | (simp; done) | (simp; omega)) _).alloc (by first | (simp; done) | (simp; omega)) _)
  generalize (((w.alloc (.cells #[.bool ng, .slice A n c] 24)).alloc (.cells #[.bool mg, .slice B m d] 24)).alloc (.cells #[.bool false, .slice none 0 0] 24)) = w0 at *
  have ne01 : ¬ w.heap.size = w.heap.size + 1 := by omega
  have ne02 : ¬ w.heap.size = w.heap.size + 1 + 1 := by omega
  have ne10 : ¬ w.heap.size + 1 = w.heap.size := by omega
  have ne12 : ¬ w.heap.size + 1 = w.heap.size + 1 + 1 := by omega
  have ne20 : ¬ w.heap.size + 1 + 1 = w.heap.size := by omega
  have ne21 : ¬ w.heap.size + 1 + 1 = w.heap.size + 1 := by omega
  have RA : Hid (RBox w0 w.heap.size ng (.slice A n c)) := ⟨b00, b01, g00, g01⟩
  have RB : Hid (RBox w0 (w.heap.size + 1) mg (.slice B m d)) := ⟨b10, b11, g10, g11⟩
  have RC : Hid (RBox w0 (w.heap.size + 1 + 1) false (.slice none 0 0)) := ⟨b20, b21, g20, g21⟩
  clear g00 g01 g10 g11 g20 g21 b20 b21
  go_region_held3 (fun w' => w'.cell? ⟨w.heap.size, 0, none⟩ = some (.bool ng) ∧ w'.cell? ⟨w.heap.size, 1, none⟩ = some (.slice A n c) ∧ w'.cell? ⟨w.heap.size + 1, 0, none⟩ = some (.bool mg) ∧ w'.cell? ⟨w.heap.size + 1, 1, none⟩ = some (.slice B m d)) (first | exact ⟨q00, q01, q10, q11⟩ | go_keep)
    (first
      | (go_at_call 26; refine (KX.out _ (by exact BW.out.drew)).mono ?_; rintro e w5 ⟨A5, c5, rfl, hd, hb⟩; have BX : Hid (Below w.heap.size w w5) := (by first | exact BX.out.trans (hb.mono BX.out.size) | exact BW.out.drew.trans (hb.mono BW.out.size) | exact BW.out.trans (hb.mono BW.out.size)); have D5 := Lib.hid hd; have RA : Hid (RBox w5 _ _ _) := (by first | exact RA.out.next hb | exact RA.out.drew.next hb); have q00 := RA.out.c0; have q01 := RA.out.c1; have q02 := RA.out.f0; have q03 := RA.out.f1; have RB : Hid (RBox w5 _ _ _) := (by first | exact RB.out.next hb | exact RB.out.drew.next hb); have q10 := RB.out.c0; have q11 := RB.out.c1; have q12 := RB.out.f0; have q13 := RB.out.f1; have RC : Hid (RBox w5 _ _ _) := (by first | exact RC.out.next hb | exact RC.out.drew.next hb); have q20 := RC.out.c0; have q21 := RC.out.c1; have q22 := RC.out.f0; have q23 := RC.out.f1; clear hb hd)
      | (go_at_call 13; refine (MK.out _ _ _ D5.out.toDgA).mono ?_; rintro e w6 ⟨A6, c6, rfl, hd, hb⟩; have BX : Hid (Below w.heap.size w w6) := (by first | exact BX.out.trans (hb.mono BX.out.size) | exact BW.out.drew.trans (hb.mono BW.out.size) | exact BW.out.trans (hb.mono BW.out.size)); have D6 := Lib.hid hd; have RA : Hid (RBox w6 _ _ _) := (by first | exact RA.out.next hb | exact RA.out.drew.next hb); have q00 := RA.out.c0; have q01 := RA.out.c1; have q02 := RA.out.f0; have q03 := RA.out.f1; have RB : Hid (RBox w6 _ _ _) := (by first | exact RB.out.next hb | exact RB.out.drew.next hb); have q10 := RB.out.c0; have q11 := RB.out.c1; have q12 := RB.out.f0; have q13 := RB.out.f1; have RC : Hid (RBox w6 _ _ _) := (by first | exact RC.out.next hb | exact RC.out.drew.next hb); have q20 := RC.out.c0; have q21 := RC.out.c1; have q22 := RC.out.f0; have q23 := RC.out.f1; clear hb hd))
  all_goals go_wp2
  all_goals
    refine bodyPost_ret (v := .agg #[.bool (decide (z * y < 0)), .slice A6 (dgs (z * y).natAbs).length c6]) ?_ rfl ?_
    · rw [results_cell1 rfl]; go_simp
    · exact ⟨A6, c6, rfl, D6.out.put2 RC.out.c0 _ _, (BX.out.setCell (by show w.heap.size ≤ w.heap.size + 1 + 1; omega) _).setCell (by show w.heap.size ≤ w.heap.size + 1 + 1; omega) _⟩

set_option maxHeartbeats 2000000 in
set_option maxRecDepth 100000 in
theorem iadd_same (A : Option Addr) (c : Nat) (z : Int) (ng : Bool) (n : Nat) (B : Option Addr) (d : Nat) (y : Int) (mg : Bool) (m : Nat) (w : World) (h : IvA w A c z) (hg : decide (z < 0) = ng) (hn : (dgs z.natAbs).length = n) (h2 : IvA w B d y) (hg2 : decide (y < 0) = mg) (hn2 : (dgs y.natAbs).length = m) (hs : ng = mg) :
    Calls Try.prog 8 #[.agg #[.bool ng, .slice A n c], .agg #[.bool mg, .slice B m d]] w (IvP w (z + y)) := by
  have hs1 : n ≤ 50 := by rw [← hn]; exact h.s
  have hs2 : m ≤ 50 := by rw [← hn2]; exact h2.s
  have KX := Lib.hid (fun w' hb => add_iv A B c d z.natAbs y.natAbs n m w' (h.next hb).d (h2.next hb).d hn hn2 (by omega) (by omega))
  have LX := Lib.hid (len_add z.natAbs y.natAbs h.s h2.s)
  have EX : Hid (sgnI ng (z.natAbs + y.natAbs) = z + y) := by
    unfold Hid sgnI
    have q : decide (z < 0) = decide (y < 0) := by rw [hg, hg2, hs]
    rw [← hg]
    by_cases k : z < 0 <;> by_cases k2 : y < 0 <;> simp [k, k2] at q ⊢ <;> omega
  have MK0 := fun (w' : World) (A' : Option Addr) (c' : Nat) (hd : DgA w' A' c' (dgs (z.natAbs + y.natAbs))) => make_dg ng A' c' (z.natAbs + y.natAbs) w' hd LX.out
  rw [EX.out] at MK0
  have MK := Lib.hid MK0
  clear h h2 hg hg2 hn hn2 MK0 EX LX
  subst hs
  go_enter Try.func8, Try.ntmps8
  go_upto_region 1 with (fail)
  have b00 : (((w.alloc (.cells #[.bool ng, .slice A n c] 24)).alloc (.cells #[.bool ng, .slice B m d] 24)).alloc (.cells #[.bool false, .slice none 0 0] 24)).cell? ⟨w.heap.size, 0, none⟩ = some (.bool ng) := by simp [go_sem]
  have g00 : (((w.alloc (.cells #[.bool ng, .slice A n c] 24)).alloc (.cells #[.bool ng, .slice B m d] 24)).alloc (.cells #[.bool false, .slice none 0 0] 24)).frozen? ⟨w.heap.size, 0, none⟩ = false := by simp [go_sem]
  have b01 : (((w.alloc (.cells #[.bool ng, .slice A n c] 24)).alloc (.cells #[.bool ng, .slice B m d] 24)).alloc (.cells #[.bool false, .slice none 0 0] 24)).cell? ⟨w.heap.size, 1, none⟩ = some (.slice A n c) := by simp [go_sem]
  have g01 : (((w.alloc (.cells #[.bool ng, .slice A n c] 24)).alloc (.cells #[.bool ng, .slice B m d] 24)).alloc (.cells #[.bool false, .slice none 0 0] 24)).frozen? ⟨w.heap.size, 1, none⟩ = false := by simp [go_sem]
  have b10 : (((w.alloc (.cells #[.bool ng, .slice A n c] 24)).alloc (.cells #[.bool ng, .slice B m d] 24)).alloc (.cells #[.bool false, .slice none 0 0] 24)).cell? ⟨w.heap.size + 1, 0, none⟩ = some (.bool ng) := by simp [go_sem]
  have g10 : (((w.alloc (.cells #[.bool ng, .slice A n c] 24)).alloc (.cells #[.bool ng, .slice B m d] 24)).alloc (.cells #[.bool false, .slice none 0 0] 24)).frozen? ⟨w.heap.size + 1, 0, none⟩ = false := by simp [go_sem]
  have b11 : (((w.alloc (.cells #[.bool ng, .slice A n c] 24)).alloc (.cells #[.bool ng, .slice B m d] 24)).alloc (.cells #[.bool false, .slice none 0 0] 24)).cell? ⟨w.heap.size + 1, 1, none⟩ = some (.slice B m d) := by simp [go_sem]
  have g11 : (((w.alloc (.cells #[.bool ng, .slice A n c] 24)).alloc (.cells #[.bool ng, .slice B m d] 24)).alloc (.cells #[.bool false, .slice none 0 0] 24)).frozen? ⟨w.heap.size + 1, 1, none⟩ = false := by simp [go_sem]
  have b20 : (((w.alloc (.cells #[.bool ng, .slice A n c] 24)).alloc (.cells #[.bool ng, .slice B m d] 24)).alloc (.cells #[.bool false, .slice none 0 0] 24)).cell? ⟨w.heap.size + 1 + 1, 0, none⟩ = some (.bool false) := by simp [go_sem]
  have g20 : (((w.alloc (.cells #[.bool ng, .slice A n c] 24)).alloc (.cells #[.bool ng, .slice B m d] 24)).alloc (.cells #[.bool false, .slice none 0 0] 24)).frozen? ⟨w.heap.size + 1 + 1, 0, none⟩ = false := by simp [go_sem]
  have b21 : (((w.alloc (.cells #[.bool ng, .slice A n c] 24)).alloc (.cells #[.bool ng, .slice B m d] 24)).alloc (.cells #[.bool false, .slice none 0 0] 24)).cell? ⟨w.heap.size + 1 + 1, 1, none⟩ = some (.slice none 0 0) := by simp [go_sem]
  have g21 : (((w.alloc (.cells #[.bool ng, .slice A n c] 24)).alloc (.cells #[.bool ng, .slice B m d] 24)).alloc (.cells #[.bool false, .slice none 0 0] 24)).frozen? ⟨w.heap.size + 1 + 1, 1, none⟩ = false := by simp [go_sem]
  have BW : Hid (Below w.heap.size w (((w.alloc (.cells #[.bool ng, .slice A n c] 24)).alloc (.cells #[.bool ng, .slice B m d] 24)).alloc (.cells #[.bool false, .slice none 0 0] 24))) := ((((Below.refl _ _).alloc (by first | (simp; done) | (simp; omega)) _).alloc (by first | (simp; done) | (simp; omega)) _).alloc (by first | (simp; done) | (simp; omega)) _)
  generalize (((w.alloc (.cells #[.bool ng, .slice A n c] 24)).alloc (.cells #[.bool ng, .slice B m d] 24)).alloc (.cells #[.bool false, .slice none 0 0] 24)) = w0 at *
  have ne01 : ¬ w.heap.size = w.heap.size + 1 := by omega
  have ne02 : ¬ w.heap.size = w.heap.size + 1 + 1 := by omega
  have ne10 : ¬ w.heap.size + 1 = w.heap.size := by omega
  have ne12 : ¬ w.heap.size + 1 = w.heap.size + 1 + 1 := by omega
  have ne20 : ¬ w.heap.size + 1 + 1 = w.heap.size := by omega
  have ne21 : ¬ w.heap.size + 1 + 1 = w.heap.size + 1 := by omega
  have RA : Hid (RBox w0 w.heap.size ng (.slice A n c)) := ⟨b00, b01, g00, g01⟩
  have RB : Hid (RBox w0 (w.heap.size + 1) ng (.slice B m d)) := ⟨b10, b11, g10, g11⟩
  have RC : Hid (RBox w0 (w.heap.size + 1 + 1) false (.slice none 0 0)) := ⟨b20, b21, g20, g21⟩
  clear g00 g01 g10 g11 g20 g21 b20 b21
  go_upto_region 2 with (fail)
  go_region_held3 (fun w' => w'.cell? ⟨w.heap.size, 0, none⟩ = some (.bool ng) ∧ w'.cell? ⟨w.heap.size, 1, none⟩ = some (.slice A n c) ∧ w'.cell? ⟨w.heap.size + 1, 0, none⟩ = some (.bool ng) ∧ w'.cell? ⟨w.heap.size + 1, 1, none⟩ = some (.slice B m d)) (first | exact ⟨q00, q01, q10, q11⟩ | go_keep)
    (first
      | (go_at_call 21; refine (KX.out _ (by exact BW.out.drew)).mono ?_; rintro e w5 ⟨A5, c5, rfl, hd, hb⟩; have BX : Hid (Below w.heap.size w w5) := (by first | exact BX.out.trans (hb.mono BX.out.size) | exact BW.out.drew.trans (hb.mono BW.out.size) | exact BW.out.trans (hb.mono BW.out.size)); have D5 := Lib.hid hd; have RA : Hid (RBox w5 _ _ _) := (by first | exact RA.out.next hb | exact RA.out.drew.next hb); have q00 := RA.out.c0; have q01 := RA.out.c1; have q02 := RA.out.f0; have q03 := RA.out.f1; have RB : Hid (RBox w5 _ _ _) := (by first | exact RB.out.next hb | exact RB.out.drew.next hb); have q10 := RB.out.c0; have q11 := RB.out.c1; have q12 := RB.out.f0; have q13 := RB.out.f1; have RC : Hid (RBox w5 _ _ _) := (by first | exact RC.out.next hb | exact RC.out.drew.next hb); have q20 := RC.out.c0; have q21 := RC.out.c1; have q22 := RC.out.f0; have q23 := RC.out.f1; clear hb hd)
      | (go_at_call 13; refine (MK.out _ _ _ D5.out.toDgA).mono ?_; rintro e w6 ⟨A6, c6, rfl, hd, hb⟩; have BX : Hid (Below w.heap.size w w6) := (by first | exact BX.out.trans (hb.mono BX.out.size) | exact BW.out.drew.trans (hb.mono BW.out.size) | exact BW.out.trans (hb.mono BW.out.size)); have D6 := Lib.hid hd; have RA : Hid (RBox w6 _ _ _) := (by first | exact RA.out.next hb | exact RA.out.drew.next hb); have q00 := RA.out.c0; have q01 := RA.out.c1; have q02 := RA.out.f0; have q03 := RA.out.f1; have RB : Hid (RBox w6 _ _ _) := (by first | exact RB.out.next hb | exact RB.out.drew.next hb); have q10 := RB.out.c0; have q11 := RB.out.c1; have q12 := RB.out.f0; have q13 := RB.out.f1; have RC : Hid (RBox w6 _ _ _) := (by first | exact RC.out.next hb | exact RC.out.drew.next hb); have q20 := RC.out.c0; have q21 := RC.out.c1; have q22 := RC.out.f0; have q23 := RC.out.f1; clear hb hd))
  all_goals go_wp2
  all_goals
    refine bodyPost_ret (v := .agg #[.bool (decide (z + y < 0)), .slice A6 (dgs (z + y).natAbs).length c6]) ?_ rfl ?_
    · rw [results_cell1 rfl]; go_simp
    · exact ⟨A6, c6, rfl, D6.out.put2 RC.out.c0 _ _, (BX.out.setCell (by show w.heap.size ≤ w.heap.size + 1 + 1; omega) _).setCell (by show w.heap.size ≤ w.heap.size + 1 + 1; omega) _⟩

set_option maxHeartbeats 2000000 in
set_option maxRecDepth 100000 in
theorem iadd_ge (A : Option Addr) (c : Nat) (z : Int) (ng : Bool) (n : Nat) (B : Option Addr) (d : Nat) (y : Int) (mg : Bool) (m : Nat) (w : World) (h : IvA w A c z) (hg : decide (z < 0) = ng) (hn : (dgs z.natAbs).length = n) (h2 : IvA w B d y) (hg2 : decide (y < 0) = mg) (hn2 : (dgs y.natAbs).length = m) (hs : (ng == mg) = false) (hc : y.natAbs ≤ z.natAbs) :
    Calls Try.prog 8 #[.agg #[.bool ng, .slice A n c], .agg #[.bool mg, .slice B m d]] w (IvP w (z + y)) := by
  have hs1 : n ≤ 50 := by rw [← hn]; exact h.s
  have hs2 : m ≤ 50 := by rw [← hn2]; exact h2.s
  have KC0 := cmp_iv A B c d z.natAbs y.natAbs n m
  have KX := Lib.hid (fun w' hb => sub_iv A B c d z.natAbs y.natAbs n m w' (h.next hb).d (h2.next hb).d hn hn2 (by omega) hc)
  have KT := Lib.hid (fun w' hb => trim_iv B d y.natAbs m w' (h2.next hb).d hn2 (by omega))
  have LX := Lib.hid (len_sub z.natAbs y.natAbs h.s)
  have EX : Hid (sgnI ng (z.natAbs - y.natAbs) = z + y) := by
    unfold Hid sgnI
    have q : ¬ decide (z < 0) = decide (y < 0) := by rw [hg, hg2]; simpa using hs
    rw [← hg]
    by_cases k : z < 0 <;> by_cases k2 : y < 0 <;> simp [k, k2] at q ⊢ <;> omega
  have MK0 := fun (w' : World) (A' : Option Addr) (c' : Nat) (hd : DgA w' A' c' (dgs (z.natAbs - y.natAbs))) => make_dg ng A' c' (z.natAbs - y.natAbs) w' hd LX.out
  rw [EX.out] at MK0
  have MK := Lib.hid MK0
  obtain ⟨R, hR⟩ : ∃ R, cmpN z.natAbs y.natAbs = R := ⟨_, rfl⟩
  rw [hR] at KC0
  have hRv : 0 ≤ R := by rw [← hR]; unfold cmpN; (repeat' split) <;> omega
  have KC := Lib.hid (fun w' hb => KC0 w' (h.next hb).d (h2.next hb).d hn hn2 (by omega) (by omega))
  clear h h2 hg hg2 hn hn2 MK0 EX LX hc KC0 hR
  go_enter Try.func8, Try.ntmps8
  go_upto_region 1 with (fail)
  have b00 : (((w.alloc (.cells #[.bool ng, .slice A n c] 24)).alloc (.cells #[.bool mg, .slice B m d] 24)).alloc (.cells #[.bool false, .slice none 0 0] 24)).cell? ⟨w.heap.size, 0, none⟩ = some (.bool ng) := by simp [go_sem]
  have g00 : (((w.alloc (.cells #[.bool ng, .slice A n c] 24)).alloc (.cells #[.bool mg, .slice B m d] 24)).alloc (.cells #[.bool false, .slice none 0 0] 24)).frozen? ⟨w.heap.size, 0, none⟩ = false := by simp [go_sem]
  have b01 : (((w.alloc (.cells #[.bool ng, .slice A n c] 24)).alloc (.cells #[.bool mg, .slice B m d] 24)).alloc (.cells #[.bool false, .slice none 0 0] 24)).cell? ⟨w.heap.size, 1, none⟩ = some (.slice A n c) := by simp [go_sem]
  have g01 : (((w.alloc (.cells #[.bool ng, .slice A n c] 24)).alloc (.cells #[.bool mg, .slice B m d] 24)).alloc (.cells #[.bool false, .slice none 0 0] 24)).frozen? ⟨w.heap.size, 1, none⟩ = false := by simp [go_sem]
  have b10 : (((w.alloc (.cells #[.bool ng, .slice A n c] 24)).alloc (.cells #[.bool mg, .slice B m d] 24)).alloc (.cells #[.bool false, .slice none 0 0] 24)).cell? ⟨w.heap.size + 1, 0, none⟩ = some (.bool mg) := by simp [go_sem]
  have g10 : (((w.alloc (.cells #[.bool ng, .slice A n c] 24)).alloc (.cells #[.bool mg, .slice B m d] 24)).alloc (.cells #[.bool false, .slice none 0 0] 24)).frozen? ⟨w.heap.size + 1, 0, none⟩ = false := by simp [go_sem]
  have b11 : (((w.alloc (.cells #[.bool ng, .slice A n c] 24)).alloc (.cells #[.bool mg, .slice B m d] 24)).alloc (.cells #[.bool false, .slice none 0 0] 24)).cell? ⟨w.heap.size + 1, 1, none⟩ = some (.slice B m d) := by simp [go_sem]
  have g11 : (((w.alloc (.cells #[.bool ng, .slice A n c] 24)).alloc (.cells #[.bool mg, .slice B m d] 24)).alloc (.cells #[.bool false, .slice none 0 0] 24)).frozen? ⟨w.heap.size + 1, 1, none⟩ = false := by simp [go_sem]
  have b20 : (((w.alloc (.cells #[.bool ng, .slice A n c] 24)).alloc (.cells #[.bool mg, .slice B m d] 24)).alloc (.cells #[.bool false, .slice none 0 0] 24)).cell? ⟨w.heap.size + 1 + 1, 0, none⟩ = some (.bool false) := by simp [go_sem]
  have g20 : (((w.alloc (.cells #[.bool ng, .slice A n c] 24)).alloc (.cells #[.bool mg, .slice B m d] 24)).alloc (.cells #[.bool false, .slice none 0 0] 24)).frozen? ⟨w.heap.size + 1 + 1, 0, none⟩ = false := by simp [go_sem]
  have b21 : (((w.alloc (.cells #[.bool ng, .slice A n c] 24)).alloc (.cells #[.bool mg, .slice B m d] 24)).alloc (.cells #[.bool false, .slice none 0 0] 24)).cell? ⟨w.heap.size + 1 + 1, 1, none⟩ = some (.slice none 0 0) := by simp [go_sem]
  have g21 : (((w.alloc (.cells #[.bool ng, .slice A n c] 24)).alloc (.cells #[.bool mg, .slice B m d] 24)).alloc (.cells #[.bool false, .slice none 0 0] 24)).frozen? ⟨w.heap.size + 1 + 1, 1, none⟩ = false := by simp [go_sem]
  have BW : Hid (Below w.heap.size w (((w.alloc (.cells #[.bool ng, .slice A n c] 24)).alloc (.cells #[.bool mg, .slice B m d] 24)).alloc (.cells #[.bool false, .slice none 0 0] 24))) := ((((Below.refl _ _).alloc (by first | (simp; done) | (simp; omega)) _).alloc (by first | (simp; done) | (simp; omega)) _).alloc (by first | (simp; done) | (simp; omega)) _)
  generalize (((w.alloc (.cells #[.bool ng, .slice A n c] 24)).alloc (.cells #[.bool mg, .slice B m d] 24)).alloc (.cells #[.bool false, .slice none 0 0] 24)) = w0 at *
  have ne01 : ¬ w.heap.size = w.heap.size + 1 := by omega
  have ne02 : ¬ w.heap.size = w.heap.size + 1 + 1 := by omega
  have ne10 : ¬ w.heap.size + 1 = w.heap.size := by omega
  have ne12 : ¬ w.heap.size + 1 = w.heap.size + 1 + 1 := by omega
  have ne20 : ¬ w.heap.size + 1 + 1 = w.heap.size := by omega
  have ne21 : ¬ w.heap.size + 1 + 1 = w.heap.size + 1 := by omega
  have RA : Hid (RBox w0 w.heap.size ng (.slice A n c)) := ⟨b00, b01, g00, g01⟩
  have RB : Hid (RBox w0 (w.heap.size + 1) mg (.slice B m d)) := ⟨b10, b11, g10, g11⟩
  have RC : Hid (RBox w0 (w.heap.size + 1 + 1) false (.slice none 0 0)) := ⟨b20, b21, g20, g21⟩
  clear g00 g01 g10 g11 g20 g21 b20 b21
  go_wp2_with (go_at_call 22; refine (KC.out _ (by exact BW.out)).mono ?_; rintro e w4 ⟨rfl, hb⟩; have BX : Hid (Below w.heap.size w w4) := (by first | exact BX.out.trans (hb.mono BX.out.size) | exact BW.out.drew.trans (hb.mono BW.out.size) | exact BW.out.trans (hb.mono BW.out.size)); have RA : Hid (RBox w4 _ _ _) := (by first | exact RA.out.next hb | exact RA.out.drew.next hb); have q00 := RA.out.c0; have q01 := RA.out.c1; have q02 := RA.out.f0; have q03 := RA.out.f1; have RB : Hid (RBox w4 _ _ _) := (by first | exact RB.out.next hb | exact RB.out.drew.next hb); have q10 := RB.out.c0; have q11 := RB.out.c1; have q12 := RB.out.f0; have q13 := RB.out.f1; have RC : Hid (RBox w4 _ _ _) := (by first | exact RC.out.next hb | exact RC.out.drew.next hb); have q20 := RC.out.c0; have q21 := RC.out.c1; have q22 := RC.out.f0; have q23 := RC.out.f1; clear hb)
  go_region_held3 (fun w' => w'.cell? ⟨w.heap.size, 0, none⟩ = some (.bool ng) ∧ w'.cell? ⟨w.heap.size, 1, none⟩ = some (.slice A n c) ∧ w'.cell? ⟨w.heap.size + 1, 0, none⟩ = some (.bool mg) ∧ w'.cell? ⟨w.heap.size + 1, 1, none⟩ = some (.slice B m d)) (first | exact ⟨q00, q01, q10, q11⟩ | go_keep)
    (first
      | (go_at_call 24; refine (KT.out _ (by first | exact BX.out.drew | exact BX.out)).mono ?_; rintro e w' ⟨rfl, hw⟩; subst hw)
      | (go_at_call 23; refine (KX.out _ (by first | exact BX.out.drew | exact BX.out)).mono ?_; rintro e w5 ⟨A5, c5, rfl, hd, hb⟩; have BX : Hid (Below w.heap.size w w5) := (by first | exact BX.out.drew.trans (hb.mono BX.out.size) | exact BX.out.trans (hb.mono BX.out.size) | exact BW.out.drew.trans (hb.mono BW.out.size) | exact BW.out.trans (hb.mono BW.out.size)); have D5 := Lib.hid hd; have RA : Hid (RBox w5 _ _ _) := (by first | exact RA.out.next hb | exact RA.out.drew.next hb); have q00 := RA.out.c0; have q01 := RA.out.c1; have q02 := RA.out.f0; have q03 := RA.out.f1; have RB : Hid (RBox w5 _ _ _) := (by first | exact RB.out.next hb | exact RB.out.drew.next hb); have q10 := RB.out.c0; have q11 := RB.out.c1; have q12 := RB.out.f0; have q13 := RB.out.f1; have RC : Hid (RBox w5 _ _ _) := (by first | exact RC.out.next hb | exact RC.out.drew.next hb); have q20 := RC.out.c0; have q21 := RC.out.c1; have q22 := RC.out.f0; have q23 := RC.out.f1; clear hb hd)
      | (go_at_call 13; refine (MK.out _ _ _ D5.out.toDgA).mono ?_; rintro e w6 ⟨A6, c6, rfl, hd, hb⟩; have BX : Hid (Below w.heap.size w w6) := (by first | exact BX.out.trans (hb.mono BX.out.size) | exact BW.out.drew.trans (hb.mono BW.out.size) | exact BW.out.trans (hb.mono BW.out.size)); have D6 := Lib.hid hd; have RA : Hid (RBox w6 _ _ _) := (by first | exact RA.out.next hb | exact RA.out.drew.next hb); have q00 := RA.out.c0; have q01 := RA.out.c1; have q02 := RA.out.f0; have q03 := RA.out.f1; have RB : Hid (RBox w6 _ _ _) := (by first | exact RB.out.next hb | exact RB.out.drew.next hb); have q10 := RB.out.c0; have q11 := RB.out.c1; have q12 := RB.out.f0; have q13 := RB.out.f1; have RC : Hid (RBox w6 _ _ _) := (by first | exact RC.out.next hb | exact RC.out.drew.next hb); have q20 := RC.out.c0; have q21 := RC.out.c1; have q22 := RC.out.f0; have q23 := RC.out.f1; clear hb hd))
  all_goals go_wp2
  all_goals
    refine bodyPost_ret (v := .agg #[.bool (decide (z + y < 0)), .slice A6 (dgs (z + y).natAbs).length c6]) ?_ rfl ?_
    · rw [results_cell1 rfl]; go_simp
    · exact ⟨A6, c6, rfl, D6.out.put2 RC.out.c0 _ _, (BX.out.setCell (by show w.heap.size ≤ w.heap.size + 1 + 1; omega) _).setCell (by show w.heap.size ≤ w.heap.size + 1 + 1; omega) _⟩

set_option maxHeartbeats 2000000 in
set_option maxRecDepth 100000 in
theorem iadd_lt (A : Option Addr) (c : Nat) (z : Int) (ng : Bool) (n : Nat) (B : Option Addr) (d : Nat) (y : Int) (mg : Bool) (m : Nat) (w : World) (h : IvA w A c z) (hg : decide (z < 0) = ng) (hn : (dgs z.natAbs).length = n) (h2 : IvA w B d y) (hg2 : decide (y < 0) = mg) (hn2 : (dgs y.natAbs).length = m) (hs : (ng == mg) = false) (hc : z.natAbs < y.natAbs) :
    Calls Try.prog 8 #[.agg #[.bool ng, .slice A n c], .agg #[.bool mg, .slice B m d]] w (IvP w (z + y)) := by
  have hs1 : n ≤ 50 := by rw [← hn]; exact h.s
  have hs2 : m ≤ 50 := by rw [← hn2]; exact h2.s
  have KC0 := cmp_iv A B c d z.natAbs y.natAbs n m
  have KX := Lib.hid (fun w' hb => sub_iv B A d c y.natAbs z.natAbs m n w' (h2.next hb).d (h.next hb).d hn2 hn (by omega) (by omega))
  have KT := Lib.hid (fun w' hb => trim_iv A c z.natAbs n w' (h.next hb).d hn (by omega))
  have LX := Lib.hid (len_sub y.natAbs z.natAbs h2.s)
  have EX : Hid (sgnI mg (y.natAbs - z.natAbs) = z + y) := by
    unfold Hid sgnI
    have q : ¬ decide (z < 0) = decide (y < 0) := by rw [hg, hg2]; simpa using hs
    rw [← hg2]
    by_cases k : z < 0 <;> by_cases k2 : y < 0 <;> simp [k, k2] at q ⊢ <;> omega
  have MK0 := fun (w' : World) (A' : Option Addr) (c' : Nat) (hd : DgA w' A' c' (dgs (y.natAbs - z.natAbs))) => make_dg mg A' c' (y.natAbs - z.natAbs) w' hd LX.out
  rw [EX.out] at MK0
  have MK := Lib.hid MK0
  obtain ⟨R, hR⟩ : ∃ R, cmpN z.natAbs y.natAbs = R := ⟨_, rfl⟩
  rw [hR] at KC0
  have hRv : R < 0 := by rw [← hR]; unfold cmpN; (repeat' split) <;> omega
  have KC := Lib.hid (fun w' hb => KC0 w' (h.next hb).d (h2.next hb).d hn hn2 (by omega) (by omega))
  clear h h2 hg hg2 hn hn2 MK0 EX LX hc KC0 hR
  go_enter Try.func8, Try.ntmps8
  go_upto_region 1 with (fail)
  have b00 : (((w.alloc (.cells #[.bool ng, .slice A n c] 24)).alloc (.cells #[.bool mg, .slice B m d] 24)).alloc (.cells #[.bool false, .slice none 0 0] 24)).cell? ⟨w.heap.size, 0, none⟩ = some (.bool ng) := by simp [go_sem]
  have g00 : (((w.alloc (.cells #[.bool ng, .slice A n c] 24)).alloc (.cells #[.bool mg, .slice B m d] 24)).alloc (.cells #[.bool false, .slice none 0 0] 24)).frozen? ⟨w.heap.size, 0, none⟩ = false := by simp [go_sem]
  have b01 : (((w.alloc (.cells #[.bool ng, .slice A n c] 24)).alloc (.cells #[.bool mg, .slice B m d] 24)).alloc (.cells #[.bool false, .slice none 0 0] 24)).cell? ⟨w.heap.size, 1, none⟩ = some (.slice A n c) := by simp [go_sem]
  have g01 : (((w.alloc (.cells #[.bool ng, .slice A n c] 24)).alloc (.cells #[.bool mg, .slice B m d] 24)).alloc (.cells #[.bool false, .slice none 0 0] 24)).frozen? ⟨w.heap.size, 1, none⟩ = false := by simp [go_sem]
  have b10 : (((w.alloc (.cells #[.bool ng, .slice A n c] 24)).alloc (.cells #[.bool mg, .slice B m d] 24)).alloc (.cells #[.bool false, .slice none 0 0] 24)).cell? ⟨w.heap.size + 1, 0, none⟩ = some (.bool mg) := by simp [go_sem]
  have g10 : (((w.alloc (.cells #[.bool ng, .slice A n c] 24)).alloc (.cells #[.bool mg, .slice B m d] 24)).alloc (.cells #[.bool false, .slice none 0 0] 24)).frozen? ⟨w.heap.size + 1, 0, none⟩ = false := by simp [go_sem]
  have b11 : (((w.alloc (.cells #[.bool ng, .slice A n c] 24)).alloc (.cells #[.bool mg, .slice B m d] 24)).alloc (.cells #[.bool false, .slice none 0 0] 24)).cell? ⟨w.heap.size + 1, 1, none⟩ = some (.slice B m d) := by simp [go_sem]
  have g11 : (((w.alloc (.cells #[.bool ng, .slice A n c] 24)).alloc (.cells #[.bool mg, .slice B m d] 24)).alloc (.cells #[.bool false, .slice none 0 0] 24)).frozen? ⟨w.heap.size + 1, 1, none⟩ = false := by simp [go_sem]
  have b20 : (((w.alloc (.cells #[.bool ng, .slice A n c] 24)).alloc (.cells #[.bool mg, .slice B m d] 24)).alloc (.cells #[.bool false, .slice none 0 0] 24)).cell? ⟨w.heap.size + 1 + 1, 0, none⟩ = some (.bool false) := by simp [go_sem]
  have g20 : (((w.alloc (.cells #[.bool ng, .slice A n c] 24)).alloc (.cells #[.bool mg, .slice B m d] 24)).alloc (.cells #[.bool false, .slice none 0 0] 24)).frozen? ⟨w.heap.size + 1 + 1, 0, none⟩ = false := by simp [go_sem]
  have b21 : (((w.alloc (.cells #[.bool ng, .slice A n c] 24)).alloc (.cells #[.bool mg, .slice B m d] 24)).alloc (.cells #[.bool false, .slice none 0 0] 24)).cell? ⟨w.heap.size + 1 + 1, 1, none⟩ = some (.slice none 0 0) := by simp [go_sem]
  have g21 : (((w.alloc (.cells #[.bool ng, .slice A n c] 24)).alloc (.cells #[.bool mg, .slice B m d] 24)).alloc (.cells #[.bool false, .slice none 0 0] 24)).frozen? ⟨w.heap.size + 1 + 1, 1, none⟩ = false := by simp [go_sem]
  have BW : Hid (Below w.heap.size w (((w.alloc (.cells #[.bool ng, .slice A n c] 24)).alloc (.cells #[.bool mg, .slice B m d] 24)).alloc (.cells #[.bool false, .slice none 0 0] 24))) := ((((Below.refl _ _).alloc (by first | (simp; done) | (simp; omega)) _).alloc (by first | (simp; done) | (simp; omega)) _).alloc (by first | (simp; done) | (simp; omega)) _)
  generalize (((w.alloc (.cells #[.bool ng, .slice A n c] 24)).alloc (.cells #[.bool mg, .slice B m d] 24)).alloc (.cells #[.bool false, .slice none 0 0] 24)) = w0 at *
  have ne01 : ¬ w.heap.size = w.heap.size + 1 := by omega
  have ne02 : ¬ w.heap.size = w.heap.size + 1 + 1 := by omega
  have ne10 : ¬ w.heap.size + 1 = w.heap.size := by omega
  have ne12 : ¬ w.heap.size + 1 = w.heap.size + 1 + 1 := by omega
  have ne20 : ¬ w.heap.size + 1 + 1 = w.heap.size := by omega
  have ne21 : ¬ w.heap.size + 1 + 1 = w.heap.size + 1 := by omega
  have RA : Hid (RBox w0 w.heap.size ng (.slice A n c)) := ⟨b00, b01, g00, g01⟩
  have RB : Hid (RBox w0 (w.heap.size + 1) mg (.slice B m d)) := ⟨b10, b11, g10, g11⟩
  have RC : Hid (RBox w0 (w.heap.size + 1 + 1) false (.slice none 0 0)) := ⟨b20, b21, g20, g21⟩
  clear g00 g01 g10 g11 g20 g21 b20 b21
  go_wp2_with (go_at_call 22; refine (KC.out _ (by exact BW.out)).mono ?_; rintro e w4 ⟨rfl, hb⟩; have BX : Hid (Below w.heap.size w w4) := (by first | exact BX.out.trans (hb.mono BX.out.size) | exact BW.out.drew.trans (hb.mono BW.out.size) | exact BW.out.trans (hb.mono BW.out.size)); have RA : Hid (RBox w4 _ _ _) := (by first | exact RA.out.next hb | exact RA.out.drew.next hb); have q00 := RA.out.c0; have q01 := RA.out.c1; have q02 := RA.out.f0; have q03 := RA.out.f1; have RB : Hid (RBox w4 _ _ _) := (by first | exact RB.out.next hb | exact RB.out.drew.next hb); have q10 := RB.out.c0; have q11 := RB.out.c1; have q12 := RB.out.f0; have q13 := RB.out.f1; have RC : Hid (RBox w4 _ _ _) := (by first | exact RC.out.next hb | exact RC.out.drew.next hb); have q20 := RC.out.c0; have q21 := RC.out.c1; have q22 := RC.out.f0; have q23 := RC.out.f1; clear hb)
  go_region_held3 (fun w' => w'.cell? ⟨w.heap.size, 0, none⟩ = some (.bool ng) ∧ w'.cell? ⟨w.heap.size, 1, none⟩ = some (.slice A n c) ∧ w'.cell? ⟨w.heap.size + 1, 0, none⟩ = some (.bool mg) ∧ w'.cell? ⟨w.heap.size + 1, 1, none⟩ = some (.slice B m d)) (first | exact ⟨q00, q01, q10, q11⟩ | go_keep)
    (first
      | (go_at_call 24; refine (KT.out _ (by first | exact BX.out.drew | exact BX.out)).mono ?_; rintro e w' ⟨rfl, hw⟩; subst hw)
      | (go_at_call 23; refine (KX.out _ (by first | exact BX.out.drew | exact BX.out)).mono ?_; rintro e w5 ⟨A5, c5, rfl, hd, hb⟩; have BX : Hid (Below w.heap.size w w5) := (by first | exact BX.out.drew.trans (hb.mono BX.out.size) | exact BX.out.trans (hb.mono BX.out.size) | exact BW.out.drew.trans (hb.mono BW.out.size) | exact BW.out.trans (hb.mono BW.out.size)); have D5 := Lib.hid hd; have RA : Hid (RBox w5 _ _ _) := (by first | exact RA.out.next hb | exact RA.out.drew.next hb); have q00 := RA.out.c0; have q01 := RA.out.c1; have q02 := RA.out.f0; have q03 := RA.out.f1; have RB : Hid (RBox w5 _ _ _) := (by first | exact RB.out.next hb | exact RB.out.drew.next hb); have q10 := RB.out.c0; have q11 := RB.out.c1; have q12 := RB.out.f0; have q13 := RB.out.f1; have RC : Hid (RBox w5 _ _ _) := (by first | exact RC.out.next hb | exact RC.out.drew.next hb); have q20 := RC.out.c0; have q21 := RC.out.c1; have q22 := RC.out.f0; have q23 := RC.out.f1; clear hb hd)
      | (go_at_call 13; refine (MK.out _ _ _ D5.out.toDgA).mono ?_; rintro e w6 ⟨A6, c6, rfl, hd, hb⟩; have BX : Hid (Below w.heap.size w w6) := (by first | exact BX.out.trans (hb.mono BX.out.size) | exact BW.out.drew.trans (hb.mono BW.out.size) | exact BW.out.trans (hb.mono BW.out.size)); have D6 := Lib.hid hd; have RA : Hid (RBox w6 _ _ _) := (by first | exact RA.out.next hb | exact RA.out.drew.next hb); have q00 := RA.out.c0; have q01 := RA.out.c1; have q02 := RA.out.f0; have q03 := RA.out.f1; have RB : Hid (RBox w6 _ _ _) := (by first | exact RB.out.next hb | exact RB.out.drew.next hb); have q10 := RB.out.c0; have q11 := RB.out.c1; have q12 := RB.out.f0; have q13 := RB.out.f1; have RC : Hid (RBox w6 _ _ _) := (by first | exact RC.out.next hb | exact RC.out.drew.next hb); have q20 := RC.out.c0; have q21 := RC.out.c1; have q22 := RC.out.f0; have q23 := RC.out.f1; clear hb hd))
  all_goals go_wp2
  all_goals
    refine bodyPost_ret (v := .agg #[.bool (decide (z + y < 0)), .slice A6 (dgs (z + y).natAbs).length c6]) ?_ rfl ?_
    · rw [results_cell1 rfl]; go_simp
    · exact ⟨A6, c6, rfl, D6.out.put2 RC.out.c0 _ _, (BX.out.setCell (by show w.heap.size ≤ w.heap.size + 1 + 1; omega) _).setCell (by show w.heap.size ≤ w.heap.size + 1 + 1; omega) _⟩

theorem iadd_any (A : Option Addr) (c : Nat) (z : Int) (ng : Bool) (n : Nat) (B : Option Addr) (d : Nat) (y : Int) (mg : Bool) (m : Nat) (w : World) (h : IvA w A c z) (hg : decide (z < 0) = ng) (hn : (dgs z.natAbs).length = n) (h2 : IvA w B d y) (hg2 : decide (y < 0) = mg) (hn2 : (dgs y.natAbs).length = m) :
    Calls Try.prog 8 #[.agg #[.bool ng, .slice A n c], .agg #[.bool mg, .slice B m d]] w (IvP w (z + y)) := by
  by_cases hs : ng = mg
  · exact iadd_same A c z ng n B d y mg m w h hg hn h2 hg2 hn2 hs
  · have hs' : (ng == mg) = false := by simpa using hs
    by_cases hc : y.natAbs ≤ z.natAbs
    · exact iadd_ge A c z ng n B d y mg m w h hg hn h2 hg2 hn2 hs' hc
    · exact iadd_lt A c z ng n B d y mg m w h hg hn h2 hg2 hn2 hs' (by omega)

end Go.Proofs.Ytifdimpfgglieaa
