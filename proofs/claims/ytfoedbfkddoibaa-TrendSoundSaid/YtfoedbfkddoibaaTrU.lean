/-
  The contract of fold's reduce: at a node whose arguments are all literals.
-/
import Derived.Test.YtfoedbfkddoibaaTt1
import Derived.Test.YtfoedbfkddoibaaCon
namespace Go.Proofs.Ytfoedbfkddoibaa
set_option linter.unusedVariables false
set_option linter.unusedSimpArgs false
open Go.ChangeShapes Go.WideShapes Go.ChangeAt Go.RowKit
open Go.Deep (BT)

theorem rt_new (w : World) : RT (w.alloc (.cells #[.int .i64 0, .int .i64 0, .slice none 0 0] 66)) w.heap.size := ⟨⟨_, by simp [go_sem]; rfl⟩, ⟨_, by simp [go_sem]; rfl⟩, ⟨_, by simp [go_sem]; rfl⟩, by simp [go_sem], by simp [go_sem], by simp [go_sem], by simp⟩

set_option maxHeartbeats 8000000 in
theorem redlit_any (Av : Nat → Prop) (sb : Nat) (kp : Option Addr) (b o cap : Nat) (op : Int) (k : Fo) (T : List Int) (V : Int) (w : World) (s2 : w.cell? ⟨sb, 2, none⟩ = some (.pointer kp)) (hx : FoAt w k b o) (hok : FoOk k) (hfree : ∀ g, w.heap.size ≤ g → Av g)
    (h7 : 7 ≤ op ∧ op ≤ 22) (har : argB op (len k) = true) (hlen : len k ≤ 200) (hw : wfT k = true) (hl : (kids k).all isLit = true) (hkd : kdF k = T) (hr : resT op T ≠ 0) (hV : V = opV op ((kids k).map litV)) (hv : vok (resT op T) V) (ht : 1 ≤ resT op T ∧ resT op T ≤ 4) :
    Calls Try.prog 52 #[.pointer (some ⟨sb, 0, none⟩), .agg #[.int .i64 op, .int .i64 0, .string ⟨#[]⟩, .slice (some ⟨b, o, none⟩) (len k) cap]] w (ReP w Av (litE (resT op T) V)) := by
  have XX := Lib.hid hx
  have OK := Lib.hid hok
  have HF := Lib.hid hfree
  have EX : Hid (ExOk ⟨op, 0, ⟨#[]⟩, some ⟨b, o, none⟩, cap⟩ k) := ⟨⟨⟨by dsimp only; omega, by dsimp only; omega⟩, ⟨by dsimp only; omega, by dsimp only; omega⟩, by dsimp only; decide, by omega⟩, hok⟩
  have WF : Hid ((wfB ⟨op, 0, ⟨#[]⟩, some ⟨b, o, none⟩, cap⟩ (len k) && wfT k) = true) := by
    unfold Hid
    rw [hw, Bool.and_true]
    unfold wfB numB namB
    dsimp only
    rw [har, if_neg (by omega), if_neg (by omega), if_neg (by omega)]
    simp
    exact ⟨by omega, by decide⟩
  have KD : Hid (kdT ⟨op, 0, ⟨#[]⟩, some ⟨b, o, none⟩, cap⟩ k = resT op T) := by
    unfold Hid kdT
    rw [hkd]
    exact kd_res op T h7.1 hr
  obtain ⟨LB, NF, EV⟩ := lits_ok (fun _ => 0) k hl hw
  have LBH := Lib.hid LB
  have NFH := Lib.hid NF
  have VE : Hid (∀ vals, ev1 (nmT 0 vals (fun _ => 0)) ⟨op, 0, ⟨#[]⟩, some ⟨b, o, none⟩, cap⟩ (evF (nmT 0 vals (fun _ => 0)) k) = V) := by
    intro vals
    have e := (lits_ok (nmT 0 vals (fun _ => 0)) k hl hw).2.2
    rw [e, hV]
    unfold ev1
    dsimp only
    rw [if_neg (by omega), if_neg (by omega), if_neg (by omega), if_neg (by omega)]
  have LT := Lib.hid (And.intro ht hv)
  have CC : Hid (contains_any b o cap (some ⟨b, o, none⟩) k = contains_any b o cap (some ⟨b, o, none⟩) k) := rfl
  have CF := Lib.hid (fun (w : World) (hx : FoAt w k b o) => contains_any b o cap (some ⟨b, o, none⟩) k w (fun _ => rfl) hx hok hw (by omega))
  rw [hl] at CF
  have KF := Lib.hid (fun (w : World) (hx : FoAt w k b o) => kind_any b o ⟨op, 0, ⟨#[]⟩, some ⟨b, o, none⟩, cap⟩ k w ⟨fun _ => rfl, hx⟩ EX.out WF.out)
  rw [KD.out] at KF
  have MF := Lib.hid (fun (w : World) (hx : FoAt w k b o) => complit_any b o ⟨op, 0, ⟨#[]⟩, some ⟨b, o, none⟩, cap⟩ k w kp ⟨fun _ => rfl, hx⟩ EX.out WF.out hlen LBH.out (by show op ≠ 6; omega) NFH.out)
  have hsb := block_lt_of_cell s2
  simp at hsb
  clear hx hok hfree hw hl hkd hV hv ht CC LB NF EV har hr
  generalize resT op T = t at *
  clear KD
  go_enter Try.func52, Try.ntmps52
  go_wp2_with fail
  have hba : Below w.heap.size w ((w.alloc (.cells #[.int .i64 op, .int .i64 0, .string ⟨#[]⟩, .slice (some ⟨b, o, none⟩) (len k) cap] 31)).alloc (.cells #[.int .i64 0, .int .i64 0, .string ⟨#[]⟩, .slice none 0 0] 31)) := (below_box w _).trans ((below_box _ _).mono (by simp))
  refine (CF.out ((w.alloc (.cells #[.int .i64 op, .int .i64 0, .string ⟨#[]⟩, .slice (some ⟨b, o, none⟩) (len k) cap] 31)).alloc (.cells #[.int .i64 0, .int .i64 0, .string ⟨#[]⟩, .slice none 0 0] 31)) (XX.out.next hba)).mono ?_
  rintro e w1 ⟨rfl, hb⟩
  have RB := Lib.hid ((BX4.new (w.alloc (.cells #[.int .i64 op, .int .i64 0, .string ⟨#[]⟩, .slice (some ⟨b, o, none⟩) (len k) cap] 31)) (.int .i64 0) (.int .i64 0) (.string ⟨#[]⟩) (.slice none 0 0) 31).next hb)
  have YB := Lib.hid (((BX4.new w (.int .i64 op) (.int .i64 0) (.string ⟨#[]⟩) (.slice (some ⟨b, o, none⟩) (len k) cap) 31).next (below_box _ _)).next hb)
  rw [World.size_alloc] at RB
  have HB := Lib.hid (hba.trans (hb.mono (by simp; omega)))
  have q2 : w1.cell? ⟨sb, 2, none⟩ = some (.pointer kp) := by rw [HB.out.cell (p := ⟨sb, 2, none⟩) hsb]; exact s2
  clear hb hba CF s2
  obtain ⟨x0, x1, x2, x3, -, -, -, -, -⟩ := YB.out
  obtain ⟨r0, r1, r2, r3, f0, f1, f2, f3, -⟩ := RB.out
  have hz1 : w.heap.size < w1.heap.size := YB.out.lt
  have hz2 : w.heap.size + 1 < w1.heap.size := RB.out.lt
  have hz3 : sb < w1.heap.size := by omega
  go_upto_region 2 with (fail)
  go_cut [5] (fun v5 wx => ∃ (fb : Nat) (c : FC), v5 = .pointer (some ⟨fb, 0, none⟩) ∧ Hid (FdCells wx fb 0 c.f (flen c.k) ∧ FCAt wx w1.heap.size c ∧ CompR 0 (fun _ => 0) ⟨op, 0, ⟨#[]⟩, some ⟨b, o, none⟩, cap⟩ k c ∧ BX4 wx w.heap.size (.int .i64 op) (.int .i64 0) (.string ⟨#[]⟩) (.slice (some ⟨b, o, none⟩) (len k) cap) ∧ BX4 wx (w.heap.size + 1) (.int .i64 0) (.int .i64 0) (.string ⟨#[]⟩) (.slice none 0 0) ∧ Below w.heap.size w wx))
  case first =>
    go_region_with (go_at_call 29; refine (MF.out _ (XX.out.next (by first | exact HB.out.drew | exact (HB.out.alloc HB.out.size _).drew | exact HB.out.drew.alloc HB.out.size _))).mono ?_; rintro e w2 ⟨c, rfl, hc, hr, hb2⟩; (first | (guard_hyp hb2 : Below w1.drew.heap.size w1.drew w2) | (obtain ⟨⟨u0, q0⟩, ⟨u1, q1⟩, ⟨u2, q2⟩, g0, g1, g2, glt⟩ := (RT.next (show RT (w1.alloc (.cells #[.int .i64 0, .int .i64 0, .slice none 0 0] 66)).drew w1.heap.size from (rt_new w1).next (Below.refl _ _).drew) hb2))); have BB := Lib.hid hb2; have CA := Lib.hid hc; have CR := Lib.hid hr; clear hc hr hb2)
    all_goals go_wp2
    all_goals go_meet
    all_goals first
      | (have B12 : Below w1.heap.size w1 (w2.alloc (.cells #[.int .i64 c.f.op, .int .i64 c.f.num, .slice c.f.ptr (flen c.k) c.f.cap] 66)) := ((Below.refl w1.heap.size w1).drew.trans BB.out).trans ((below_box w2 _).mono (Nat.le_trans (Nat.le_refl _) BB.out.size))
         exact ⟨w2.heap.size, c, rfl, ⟨by simp [go_sem], by simp [go_sem], by simp [go_sem]⟩, CA.out.next (below_box w2 _), CR.out, YB.out.next B12, RB.out.next B12, HB.out.trans (B12.mono HB.out.size)⟩)
      | (have B12 : Below w1.heap.size w1 w2 := (((Below.refl w1.heap.size w1).alloc (Nat.le_refl _) _).drew).trans (BB.out.mono (by simp))
         have G3 := gb_three w2 w1.heap.size (.int .i64 c.f.op) (.int .i64 c.f.num) (.slice c.f.ptr (flen c.k) c.f.cap)
         have B13 := B12.grown G3 B12.size (fun m hm => by cases hm; exact Nat.le_refl _)
         have CA2 : FCAt w2 (w1.heap.size + 1) c := by
           have h := CA.out
           simpa using h
         exact ⟨w1.heap.size, c, rfl, ⟨by simp [go_sem, q0, q1, q2], by simp [go_sem, q0, q1, q2], by simp [go_sem, q0, q1, q2]⟩, (CA2.set (Nat.lt_succ_self _) G3).mono (Nat.le_succ _), CR.out, YB.out.next B13, RB.out.next B13, HB.out.trans (B13.mono HB.out.size)⟩)
  case rest =>
    obtain ⟨fb, c, rfl, HD⟩ := hcut
    have CR := Lib.hid HD.out.2.2.1
    have YB2 := Lib.hid HD.out.2.2.2.1
    have RB2 := Lib.hid HD.out.2.2.2.2.1
    have B2 := Lib.hid HD.out.2.2.2.2.2
    have hfb : fb < wc.heap.size := by have := block_lt_of_cell HD.out.1.1; simpa using this
    clear x0 x1 x2 x3 r0 r1 r2 r3 f0 f1 f2 f3 q2
    obtain ⟨x0, x1, x2, x3, -, -, -, -, -⟩ := YB2.out
    go_wp2_with fail
    refine (KF.out wc (XX.out.next B2.out)).mono ?_
    rintro e w3 ⟨rfl, hb3⟩
    have FD3 : FdCells w3 fb 0 c.f (flen c.k) := by
      obtain ⟨h0, h1, h2⟩ := HD.out.1
      exact ⟨by rw [hb3.cell (p := ⟨fb, 0, none⟩) hfb]; exact h0, by rw [hb3.cell (p := ⟨fb, 0 + 1, none⟩) hfb]; exact h1, by rw [hb3.cell (p := ⟨fb, 0 + 2, none⟩) hfb]; exact h2⟩
    have VV := Lib.hid (value_any c.b c.o c.f c.k w3 (.slice none 0 0) [] fb 0 (nS 0) (show IntsAt w3 (.slice none 0 0) [] from .inl ⟨rfl, none, 0, rfl⟩) rfl (by decide) (by simp) FD3 HD.out.2.1.1 (HD.out.2.1.2.1.next hb3) CR.out.o1 (by have := CR.out.l; omega) CR.out.o)
    rw [CR.out.v, VE.out []] at VV
    have RB3 := Lib.hid (RB2.out.next hb3)
    have B3 := Lib.hid (B2.out.trans (hb3.mono B2.out.size))
    clear FD3 hb3 x0 x1 x2 x3
    go_wp2_with fail
    refine VV.out.mono ?_
    rintro e w4 ⟨rfl, hb4⟩
    have RB4 := Lib.hid (RB3.out.next hb4)
    have B4 := Lib.hid (B3.out.trans (hb4.mono B3.out.size))
    clear hb4
    go_wp2_with fail
    refine (literal_any t V w4 LT.out.1 LT.out.2).mono ?_
    rintro e w5 ⟨d, rfl, hd, hdx, hb5⟩
    have RB5 := Lib.hid (RB4.out.next hb5)
    have B5 := Lib.hid (B4.out.trans (hb5.mono B4.out.size))
    have ED := Lib.hid hd
    have hz4 : w.heap.size + 1 < w4.heap.size := RB4.out.lt
    have XD := Lib.hid (And.intro hdx.1 (FoAv.ge hdx.2))
    clear hd hdx hb5
    obtain ⟨r0, r1, r2, r3, f0, f1, f2, f3, -⟩ := RB5.out
    go_wp2
    refine bodyPost_ret (v := .agg #[.int .i64 d.a.op, .int .i64 d.a.num, .string d.a.name, .slice d.a.ptr (len d.k) d.a.cap]) ?_ rfl ⟨d, rfl, ED.out, XD.out.1.av4 (XD.out.2.mono fun g h => by omega), XD.out.2.mono (fun g h => HF.out g (by omega)), set4_below B5.out (by omega)⟩
    rw [results_cell1 rfl]; go_simp

end Go.Proofs.Ytfoedbfkddoibaa
