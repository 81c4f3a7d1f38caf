/-
  The contract of fold.reduceImplies.
-/
import Derived.Test.YtfoedbfkddoibaaTi1
import Derived.Test.YtfoedbfkddoibaaTt1
namespace Go.Proofs.Ytfoedbfkddoibaa
set_option linter.unusedVariables false
set_option linter.unusedSimpArgs false
open Go.ChangeShapes Go.WideShapes Go.ChangeAt Go.RowKit
open Go.Deep (BT)

set_option maxHeartbeats 4000000 in
theorem impl_any (Av : Nat → Prop) (sp : Option Addr) (b o cap b1 o1 : Nat) (a1 : Nd) (k1 : Fo) (b2 o2 : Nat) (a2 : Nd) (k2 : Fo) (w : World)
    (hx : FoAt w (.node b1 o1 a1 k1 (.node b2 o2 a2 k2 .nil)) b o) (ha : FoAv Av (.node b1 o1 a1 k1 (.node b2 o2 a2 k2 .nil)) b) (hfree : ∀ g, w.heap.size ≤ g → Av g) (hok : FoOk (.node b1 o1 a1 k1 .nil)) (hw : wfT (.node b1 o1 a1 k1 .nil) = true) (hn : a1.op ≠ 4 → a1.op ≠ 5 → a2.op = 5 → isLit ⟨b1, o1, a1, k1⟩ = false) (h19 : a1.op = 19 → len k1 = 1) :
    Calls Try.prog 67 #[.pointer sp, .agg #[.int .i64 22, .int .i64 0, .string ⟨#[]⟩, .slice (some ⟨b, o, none⟩) 2 cap]] w (ReP w Av (implE [ec ⟨b1, o1, a1, k1⟩, ec ⟨b2, o2, a2, k2⟩])) := by
  obtain ⟨⟨c0, c1, c2, c3⟩, hp1, hk1, ⟨d0, d1, d2, d3⟩, hp2, hk2, -⟩ := hx
  have X1 := Lib.hid (show ExAt w b1 o1 a1 k1 from ⟨hp1, hk1⟩)
  have X2 := Lib.hid (show ExAt w b2 o2 a2 k2 from ⟨hp2, hk2⟩)
  have AV := Lib.hid ha
  have HF := Lib.hid hfree
  have HOK := Lib.hid hok
  have HW := Lib.hid hw
  have HN := Lib.hid hn
  have H19 := Lib.hid h19
  have hg := block_lt_of_cell c0
  simp at hg
  have XX := Lib.hid (show FoAt w (.node b1 o1 a1 k1 (.node b2 o2 a2 k2 .nil)) b o from ⟨⟨c0, c1, c2, c3⟩, hp1, hk1, ⟨d0, d1, d2, d3⟩, hp2, hk2, trivial⟩)
  have d1' : w.cell? ⟨b, o + 5, none⟩ = some (.int .i64 a2.num) := d1
  have d2' : w.cell? ⟨b, o + 6, none⟩ = some (.string a2.name) := d2
  have d3' : w.cell? ⟨b, o + 7, none⟩ = some (.slice a2.ptr (len k2) a2.cap) := d3
  clear hp1 hk1 hp2 hk2 ha d1 d2 d3 hfree hok hw hn h19
  have hg0 : b ≠ w.heap.size := by omega
  have hg1 : b ≠ w.heap.size + 1 := by omega
  have hg2 : b ≠ w.heap.size + 1 + 1 := by omega
  have hg3 : b ≠ w.heap.size + 1 + 1 + 1 := by omega
  have hl1 : b < w.heap.size + 1 := by omega
  have hl2 : b < w.heap.size + 1 + 1 := by omega
  have hl3 : b < w.heap.size + 1 + 1 + 1 := by omega
  have hm2 : b ≠ w.heap.size + 2 := by omega
  have hm3 : b ≠ w.heap.size + 3 := by omega
  obtain ⟨R, hR⟩ : ∃ R, implE [ec ⟨b1, o1, a1, k1⟩, ec ⟨b2, o2, a2, k2⟩] = R := ⟨_, rfl⟩
  have HR := Lib.hid hR
  rw [hR]
  clear hR

  have J : Hid (R = if a1.op = 5 ∨ a2.op = 4 then dE 4 0 noN else if a1.op = 4 then ec ⟨b2, o2, a2, k2⟩ else if a2.op = 5 then notE (ec ⟨b1, o1, a1, k1⟩) else nE 22 [ec ⟨b1, o1, a1, k1⟩, ec ⟨b2, o2, a2, k2⟩]) := HR.out.symm
  clear HR
  go_enter Try.func67, Try.ntmps67
  go_upto_region 1 with (fail)
  go_region
  all_goals
      by_cases h1 : a1.op = 5
      · have e : Hid (R = dE 4 0 noN) := by unfold Hid; rw [J.out, if_pos (Or.inl h1)]
        have n1 : (a1.op == 5) = true := by simp [h1]
        clear J h1
        go_wp2
        refine bodyPost_ret (v := .agg #[.int .i64 4, .int .i64 0, .string ⟨#[]⟩, .slice none 0 0]) ?_ rfl ?_
        · rw [results_cell1 rfl]; go_simp
        · refine ReP.mk ⟨0, 0, ⟨4, 0, ⟨#[]⟩, none, 0⟩, .nil⟩ (by (repeat (first | exact Below.refl _ _ | refine Below.drew ?_ | refine Below.alloc ?_ (by first | exact Nat.le_refl _ | (simp <;> omega)) _ | refine Below.setCell ?_ (by first | exact Nat.le_refl _ | (simp <;> omega)) _))) ?_ (fun hB => ?_) ?_
          · rw [e.out]; rfl
          · exact ⟨fun q => absurd rfl q, trivial⟩
          · trivial
      have n1 : (a1.op == 5) = false := by simp [h1]
      by_cases h2 : a2.op = 4
      · have e : Hid (R = dE 4 0 noN) := by unfold Hid; rw [J.out, if_pos (Or.inr h2)]
        have n2 : (a2.op == 4) = true := by simp [h2]
        clear J h1 h2
        go_wp2
        refine bodyPost_ret (v := .agg #[.int .i64 4, .int .i64 0, .string ⟨#[]⟩, .slice none 0 0]) ?_ rfl ?_
        · rw [results_cell1 rfl]; go_simp
        · refine ReP.mk ⟨0, 0, ⟨4, 0, ⟨#[]⟩, none, 0⟩, .nil⟩ (by (repeat (first | exact Below.refl _ _ | refine Below.drew ?_ | refine Below.alloc ?_ (by first | exact Nat.le_refl _ | (simp <;> omega)) _ | refine Below.setCell ?_ (by first | exact Nat.le_refl _ | (simp <;> omega)) _))) ?_ (fun hB => ?_) ?_
          · rw [e.out]; rfl
          · exact ⟨fun q => absurd rfl q, trivial⟩
          · trivial
      have n2 : (a2.op == 4) = false := by simp [h2]
      have J2 : Hid (R = if a1.op = 4 then ec ⟨b2, o2, a2, k2⟩ else if a2.op = 5 then notE (ec ⟨b1, o1, a1, k1⟩) else nE 22 [ec ⟨b1, o1, a1, k1⟩, ec ⟨b2, o2, a2, k2⟩]) := by unfold Hid; rw [J.out, if_neg (by simp [h1, h2])]
      have h1h := Lib.hid h1
      clear J h1 h2
      by_cases h3 : a1.op = 4
      · have e : Hid (R = ec ⟨b2, o2, a2, k2⟩) := by unfold Hid; rw [J2.out, if_pos h3]
        have n3 : (a1.op == 4) = true := by simp [h3]
        clear J2 h3
        go_wp2
        refine bodyPost_ret (v := .agg #[.int .i64 a2.op, .int .i64 a2.num, .string a2.name, .slice a2.ptr (len k2) a2.cap]) ?_ rfl ?_
        · rw [results_cell1 rfl]; go_simp
        · refine ReP.mk ⟨b2, o2, a2, k2⟩ (by (repeat (first | exact Below.refl _ _ | refine Below.drew ?_ | refine Below.alloc ?_ (by first | exact Nat.le_refl _ | (simp <;> omega)) _ | refine Below.setCell ?_ (by first | exact Nat.le_refl _ | (simp <;> omega)) _))) ?_ (fun hB => ?_) ?_
          · rw [e.out]
          · exact X2.out.next hB
          · exact AV.out.2.2.2.1
      have n3 : (a1.op == 4) = false := by simp [h3]
      by_cases h4 : a2.op = 5
      · have e : Hid (R = notE (ec ⟨b1, o1, a1, k1⟩)) := by unfold Hid; rw [J2.out, if_neg h3, if_pos h4]
        have n4 : (a2.op == 5) = true := by simp [h4]
        have hni := Lib.hid (HN.out h3 h1h.out h4)
        clear J2 h3 h4
        go_wp2_with fail
        refine (rednot_any (fun g => Av g ∧ g ≠ w.heap.size + 1) sp _ _ _ b1 o1 a1 k1 _ ⟨⟨by simp [go_sem], by simp [go_sem], by simp [go_sem], by simp [go_sem]⟩, X1.out.1, (X1.out.next (by (repeat (first | exact Below.refl _ _ | refine Below.drew ?_ | refine Below.alloc ?_ (by first | exact Nat.le_refl _ | (simp <;> omega)) _ | refine Below.setCell ?_ (by first | exact Nat.le_refl _ | (simp <;> omega)) _)))).2, trivial⟩ ⟨⟨HF.out _ (by omega), by omega⟩, (FoAv.lt X1.out.2 AV.out.2.1).mono (fun g h => ⟨h.1, by omega⟩), trivial⟩ HOK.out HW.out hni.out H19.out).mono ?_
        rintro e2 w2 ⟨c, rfl, hc, hcx, hca, hcb⟩
        have RB : Hid (BX4 w2 (w.heap.size + 1) (.int .i64 0) (.int .i64 0) (.string ⟨#[]⟩) (.slice none 0 0)) := by
          refine BX4.next ?_ hcb
          constructor <;> simp [go_sem]
        have B2 : Hid (Below w.heap.size w w2) := by
          refine Below.trans ?_ (hcb.mono ?_)
          · (repeat (first | exact Below.refl _ _ | refine Below.drew ?_ | refine Below.alloc ?_ (by first | exact Nat.le_refl _ | (simp <;> omega)) _ | refine Below.setCell ?_ (by first | exact Nat.le_refl _ | (simp <;> omega)) _))
          · simp <;> omega
        have E := Lib.hid (hc.trans e.out.symm)
        have EX := Lib.hid (And.intro hcx hca)
        clear hc hcx hca hcb
        obtain ⟨r0, r1, r2, r3, f0, f1, f2, f3, -⟩ := RB.out
        go_wp2
        refine bodyPost_ret (v := .agg #[.int .i64 c.a.op, .int .i64 c.a.num, .string c.a.name, .slice c.a.ptr (len c.k) c.a.cap]) ?_ rfl ⟨c, rfl, E.out, EX.out.1.av4 (EX.out.2.mono fun g h => h.2), EX.out.2.mono fun g h => h.1, set4_below B2.out (by omega)⟩
        rw [results_cell1 rfl]; go_simp
      have n4 : (a2.op == 5) = false := by simp [h4]
      have e : Hid (R = nE 22 [ec ⟨b1, o1, a1, k1⟩, ec ⟨b2, o2, a2, k2⟩]) := by unfold Hid; rw [J2.out, if_neg h3, if_neg h4]
      clear J2 h3 h4
      go_wp2
      refine bodyPost_ret (v := .agg #[.int .i64 22, .int .i64 0, .string ⟨#[]⟩, .slice (some ⟨b, o, none⟩) 2 cap]) ?_ rfl ?_
      · rw [results_cell1 rfl]; go_simp
      · refine ReP.mk ⟨b, o, ⟨22, 0, ⟨#[]⟩, some ⟨b, o, none⟩, cap⟩, (.node b1 o1 a1 k1 (.node b2 o2 a2 k2 .nil))⟩ (by (repeat (first | exact Below.refl _ _ | refine Below.drew ?_ | refine Below.alloc ?_ (by first | exact Nat.le_refl _ | (simp <;> omega)) _ | refine Below.setCell ?_ (by first | exact Nat.le_refl _ | (simp <;> omega)) _))) ?_ (fun hB => ?_) ?_
        · rw [e.out]; rfl
        · exact ⟨fun _ => rfl, XX.out.next hB⟩
        · exact AV.out

end Go.Proofs.Ytfoedbfkddoibaa
