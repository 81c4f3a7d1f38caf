/-
  Rows that keep to allowed blocks; the contract of fold.reduceJunction.
-/
import Derived.Test.YtfoedbfkddoibaaTq1
namespace Go.Proofs.Ytfoedbfkddoibaa
set_option linter.unusedVariables false
set_option linter.unusedSimpArgs false
open Go.ChangeShapes Go.WideShapes Go.ChangeAt Go.RowKit
open Go.Deep (BT)

/-- All blocks of a row are allowed. -/
def FoAv (Av : Nat → Prop) : Fo → Nat → Prop
  | .nil, _ => True
  | .node b _ _ k r, B => Av B ∧ FoAv Av k b ∧ FoAv Av r B
theorem FoAv.mono {A B : Nat → Prop} (h : ∀ g, A g → B g) {T : Fo} {g : Nat} (hT : FoAv A T g) : FoAv B T g := by
  induction T generalizing g with
  | nil => trivial
  | node b o a k r ihk ihr => exact ⟨h _ hT.1, ihk hT.2.1, ihr hT.2.2⟩
/-- An expression is answered: x without its addresses; its blocks are allowed. -/
def ReP (w : World) (Av : Nat → Prop) (x : Ch) (e : Ending) (w' : World) : Prop := ∃ c : Ch, e = .returned (.agg #[.int .i64 c.a.op, .int .i64 c.a.num, .string c.a.name, .slice c.a.ptr (len c.k) c.a.cap]) ∧ ec c = x ∧ ExAt w' c.b c.o c.a c.k ∧ FoAv Av c.k c.b ∧ Below w.heap.size w w'
theorem ReP.mk {w w' : World} {Av : Nat → Prop} {x : Ch} (c : Ch) (hB : Below w.heap.size w w') (he : ec c = x) (hx : Below w.heap.size w w' → ExAt w' c.b c.o c.a c.k) (ha : FoAv Av c.k c.b) : ReP w Av x (.returned (.agg #[.int .i64 c.a.op, .int .i64 c.a.num, .string c.a.name, .slice c.a.ptr (len c.k) c.a.cap])) w' := ⟨c, rfl, he, hx hB, ha, hB⟩
set_option maxHeartbeats 4000000 in
theorem junc_any (Av : Nat → Prop) (op st wk : Int) (b o cap b1 o1 : Nat) (a1 : Nd) (k1 : Fo) (b2 o2 : Nat) (a2 : Nd) (k2 : Fo) (w : World) (hop : op = 20 ∧ st = 5 ∧ wk = 4 ∨ op = 21 ∧ st = 4 ∧ wk = 5)
    (hx : FoAt w (.node b1 o1 a1 k1 (.node b2 o2 a2 k2 .nil)) b o) (ha : FoAv Av (.node b1 o1 a1 k1 (.node b2 o2 a2 k2 .nil)) b) :
    Calls Try.prog 66 #[.agg #[.int .i64 op, .int .i64 0, .string ⟨#[]⟩, .slice (some ⟨b, o, none⟩) 2 cap]] w (ReP w Av (juncE op st wk [ec ⟨b1, o1, a1, k1⟩, ec ⟨b2, o2, a2, k2⟩])) := by
  obtain ⟨⟨c0, c1, c2, c3⟩, hp1, hk1, ⟨d0, d1, d2, d3⟩, hp2, hk2, -⟩ := hx
  have X1 := Lib.hid (show ExAt w b1 o1 a1 k1 from ⟨hp1, hk1⟩)
  have X2 := Lib.hid (show ExAt w b2 o2 a2 k2 from ⟨hp2, hk2⟩)
  have AV := Lib.hid ha
  have hg := block_lt_of_cell c0
  simp at hg
  have XX := Lib.hid (show FoAt w (.node b1 o1 a1 k1 (.node b2 o2 a2 k2 .nil)) b o from ⟨⟨c0, c1, c2, c3⟩, hp1, hk1, ⟨d0, d1, d2, d3⟩, hp2, hk2, trivial⟩)
  have d1' : w.cell? ⟨b, o + 5, none⟩ = some (.int .i64 a2.num) := d1
  have d2' : w.cell? ⟨b, o + 6, none⟩ = some (.string a2.name) := d2
  have d3' : w.cell? ⟨b, o + 7, none⟩ = some (.slice a2.ptr (len k2) a2.cap) := d3
  clear hp1 hk1 hp2 hk2 ha d1 d2 d3
  have hg0 : b ≠ w.heap.size := by omega
  have hg1 : b ≠ w.heap.size + 1 := by omega
  have hg2 : b ≠ w.heap.size + 1 + 1 := by omega
  have hg3 : b ≠ w.heap.size + 1 + 1 + 1 := by omega
  have hl1 : b < w.heap.size + 1 := by omega
  have hl2 : b < w.heap.size + 1 + 1 := by omega
  have hl3 : b < w.heap.size + 1 + 1 + 1 := by omega
  have hm2 : b ≠ w.heap.size + 2 := by omega
  have hm3 : b ≠ w.heap.size + 3 := by omega
  obtain ⟨R, hR⟩ : ∃ R, juncE op st wk [ec ⟨b1, o1, a1, k1⟩, ec ⟨b2, o2, a2, k2⟩] = R := ⟨_, rfl⟩
  have HR := Lib.hid hR
  rw [hR]
  clear hR
  rcases hop with ⟨rfl, rfl, rfl⟩ | ⟨rfl, rfl, rfl⟩
  · have J : Hid (R = if a1.op = 5 ∨ a2.op = 5 then dE 5 0 noN else if a1.op = 4 then ec ⟨b2, o2, a2, k2⟩ else if a2.op = 4 then ec ⟨b1, o1, a1, k1⟩ else nE 20 [ec ⟨b1, o1, a1, k1⟩, ec ⟨b2, o2, a2, k2⟩]) := HR.out.symm
    clear HR
    go_enter Try.func66, Try.ntmps66
    go_upto_region 4 with (fail)
    go_region
    all_goals
      by_cases h1 : a1.op = 5
      · have e : Hid (R = dE 5 0 noN) := by unfold Hid; rw [J.out, if_pos (Or.inl h1)]
        have n1 : (a1.op == 5) = true := by simp [h1]
        clear J h1
        go_wp2
        refine bodyPost_ret (v := .agg #[.int .i64 5, .int .i64 0, .string ⟨#[]⟩, .slice none 0 0]) ?_ rfl ?_
        · rw [results_cell1 rfl]; go_simp
        · refine ReP.mk ⟨0, 0, ⟨5, 0, ⟨#[]⟩, none, 0⟩, .nil⟩ (by (repeat (first | exact Below.refl _ _ | refine Below.drew ?_ | refine Below.alloc ?_ (by first | exact Nat.le_refl _ | (simp <;> omega)) _ | refine Below.setCell ?_ (by first | exact Nat.le_refl _ | (simp <;> omega)) _))) ?_ (fun hB => ?_) ?_
          · rw [e.out]; rfl
          · exact ⟨fun q => absurd rfl q, trivial⟩
          · trivial
      have n1 : (a1.op == 5) = false := by simp [h1]
      by_cases h2 : a2.op = 5
      · have e : Hid (R = dE 5 0 noN) := by unfold Hid; rw [J.out, if_pos (Or.inr h2)]
        have n2 : (a2.op == 5) = true := by simp [h2]
        clear J h1 h2
        go_wp2
        refine bodyPost_ret (v := .agg #[.int .i64 5, .int .i64 0, .string ⟨#[]⟩, .slice none 0 0]) ?_ rfl ?_
        · rw [results_cell1 rfl]; go_simp
        · refine ReP.mk ⟨0, 0, ⟨5, 0, ⟨#[]⟩, none, 0⟩, .nil⟩ (by (repeat (first | exact Below.refl _ _ | refine Below.drew ?_ | refine Below.alloc ?_ (by first | exact Nat.le_refl _ | (simp <;> omega)) _ | refine Below.setCell ?_ (by first | exact Nat.le_refl _ | (simp <;> omega)) _))) ?_ (fun hB => ?_) ?_
          · rw [e.out]; rfl
          · exact ⟨fun q => absurd rfl q, trivial⟩
          · trivial
      have n2 : (a2.op == 5) = false := by simp [h2]
      have J2 : Hid (R = if a1.op = 4 then ec ⟨b2, o2, a2, k2⟩ else if a2.op = 4 then ec ⟨b1, o1, a1, k1⟩ else nE 20 [ec ⟨b1, o1, a1, k1⟩, ec ⟨b2, o2, a2, k2⟩]) := by unfold Hid; rw [J.out, if_neg (by simp [h1, h2])]
      clear J h1 h2
      by_cases h3 : a1.op = 4
      · have e : Hid (R = ec ⟨b2, o2, a2, k2⟩) := by unfold Hid; rw [J2.out, if_pos h3]
        have n3 : (a1.op == 4) = true := by simp [h3]
        clear J2 h3
        go_wp2
        refine bodyPost_ret (v := .agg #[.int .i64 a2.op, .int .i64 a2.num, .string a2.name, .slice a2.ptr (len k2) a2.cap]) ?_ rfl ?_
        · rw [results_cell1 rfl]; go_simp
        · refine ReP.mk ⟨b2, o2, a2, k2⟩ (by (repeat (first | exact Below.refl _ _ | refine Below.drew ?_ | refine Below.alloc ?_ (by first | exact Nat.le_refl _ | (simp <;> omega)) _ | refine Below.setCell ?_ (by first | exact Nat.le_refl _ | (simp <;> omega)) _))) ?_ (fun hB => ?_) ?_
          · rw [e.out]
          · exact X2.out.next hB
          · exact AV.out.2.2.2.1
      have n3 : (a1.op == 4) = false := by simp [h3]
      by_cases h4 : a2.op = 4
      · have e : Hid (R = ec ⟨b1, o1, a1, k1⟩) := by unfold Hid; rw [J2.out, if_neg h3, if_pos h4]
        have n4 : (a2.op == 4) = true := by simp [h4]
        clear J2 h3 h4
        go_wp2
        refine bodyPost_ret (v := .agg #[.int .i64 a1.op, .int .i64 a1.num, .string a1.name, .slice a1.ptr (len k1) a1.cap]) ?_ rfl ?_
        · rw [results_cell1 rfl]; go_simp
        · refine ReP.mk ⟨b1, o1, a1, k1⟩ (by (repeat (first | exact Below.refl _ _ | refine Below.drew ?_ | refine Below.alloc ?_ (by first | exact Nat.le_refl _ | (simp <;> omega)) _ | refine Below.setCell ?_ (by first | exact Nat.le_refl _ | (simp <;> omega)) _))) ?_ (fun hB => ?_) ?_
          · rw [e.out]
          · exact X1.out.next hB
          · exact AV.out.2.1
      have n4 : (a2.op == 4) = false := by simp [h4]
      have e : Hid (R = nE 20 [ec ⟨b1, o1, a1, k1⟩, ec ⟨b2, o2, a2, k2⟩]) := by unfold Hid; rw [J2.out, if_neg h3, if_neg h4]
      clear J2 h3 h4
      go_wp2
      refine bodyPost_ret (v := .agg #[.int .i64 20, .int .i64 0, .string ⟨#[]⟩, .slice (some ⟨b, o, none⟩) 2 cap]) ?_ rfl ?_
      · rw [results_cell1 rfl]; go_simp
      · refine ReP.mk ⟨b, o, ⟨20, 0, ⟨#[]⟩, some ⟨b, o, none⟩, cap⟩, (.node b1 o1 a1 k1 (.node b2 o2 a2 k2 .nil))⟩ (by (repeat (first | exact Below.refl _ _ | refine Below.drew ?_ | refine Below.alloc ?_ (by first | exact Nat.le_refl _ | (simp <;> omega)) _ | refine Below.setCell ?_ (by first | exact Nat.le_refl _ | (simp <;> omega)) _))) ?_ (fun hB => ?_) ?_
        · rw [e.out]; rfl
        · exact ⟨fun _ => rfl, XX.out.next hB⟩
        · exact AV.out
  · have J : Hid (R = if a1.op = 4 ∨ a2.op = 4 then dE 4 0 noN else if a1.op = 5 then ec ⟨b2, o2, a2, k2⟩ else if a2.op = 5 then ec ⟨b1, o1, a1, k1⟩ else nE 21 [ec ⟨b1, o1, a1, k1⟩, ec ⟨b2, o2, a2, k2⟩]) := HR.out.symm
    clear HR
    go_enter Try.func66, Try.ntmps66
    go_upto_region 4 with (fail)
    go_region
    all_goals
      by_cases h1 : a1.op = 4
      · have e : Hid (R = dE 4 0 noN) := by unfold Hid; rw [J.out, if_pos (Or.inl h1)]
        have n1 : (a1.op == 4) = true := by simp [h1]
        clear J h1
        go_wp2
        refine bodyPost_ret (v := .agg #[.int .i64 4, .int .i64 0, .string ⟨#[]⟩, .slice none 0 0]) ?_ rfl ?_
        · rw [results_cell1 rfl]; go_simp
        · refine ReP.mk ⟨0, 0, ⟨4, 0, ⟨#[]⟩, none, 0⟩, .nil⟩ (by (repeat (first | exact Below.refl _ _ | refine Below.drew ?_ | refine Below.alloc ?_ (by first | exact Nat.le_refl _ | (simp <;> omega)) _ | refine Below.setCell ?_ (by first | exact Nat.le_refl _ | (simp <;> omega)) _))) ?_ (fun hB => ?_) ?_
          · rw [e.out]; rfl
          · exact ⟨fun q => absurd rfl q, trivial⟩
          · trivial
      have n1 : (a1.op == 4) = false := by simp [h1]
      by_cases h2 : a2.op = 4
      · have e : Hid (R = dE 4 0 noN) := by unfold Hid; rw [J.out, if_pos (Or.inr h2)]
        have n2 : (a2.op == 4) = true := by simp [h2]
        clear J h1 h2
        go_wp2
        refine bodyPost_ret (v := .agg #[.int .i64 4, .int .i64 0, .string ⟨#[]⟩, .slice none 0 0]) ?_ rfl ?_
        · rw [results_cell1 rfl]; go_simp
        · refine ReP.mk ⟨0, 0, ⟨4, 0, ⟨#[]⟩, none, 0⟩, .nil⟩ (by (repeat (first | exact Below.refl _ _ | refine Below.drew ?_ | refine Below.alloc ?_ (by first | exact Nat.le_refl _ | (simp <;> omega)) _ | refine Below.setCell ?_ (by first | exact Nat.le_refl _ | (simp <;> omega)) _))) ?_ (fun hB => ?_) ?_
          · rw [e.out]; rfl
          · exact ⟨fun q => absurd rfl q, trivial⟩
          · trivial
      have n2 : (a2.op == 4) = false := by simp [h2]
      have J2 : Hid (R = if a1.op = 5 then ec ⟨b2, o2, a2, k2⟩ else if a2.op = 5 then ec ⟨b1, o1, a1, k1⟩ else nE 21 [ec ⟨b1, o1, a1, k1⟩, ec ⟨b2, o2, a2, k2⟩]) := by unfold Hid; rw [J.out, if_neg (by simp [h1, h2])]
      clear J h1 h2
      by_cases h3 : a1.op = 5
      · have e : Hid (R = ec ⟨b2, o2, a2, k2⟩) := by unfold Hid; rw [J2.out, if_pos h3]
        have n3 : (a1.op == 5) = true := by simp [h3]
        clear J2 h3
        go_wp2
        refine bodyPost_ret (v := .agg #[.int .i64 a2.op, .int .i64 a2.num, .string a2.name, .slice a2.ptr (len k2) a2.cap]) ?_ rfl ?_
        · rw [results_cell1 rfl]; go_simp
        · refine ReP.mk ⟨b2, o2, a2, k2⟩ (by (repeat (first | exact Below.refl _ _ | refine Below.drew ?_ | refine Below.alloc ?_ (by first | exact Nat.le_refl _ | (simp <;> omega)) _ | refine Below.setCell ?_ (by first | exact Nat.le_refl _ | (simp <;> omega)) _))) ?_ (fun hB => ?_) ?_
          · rw [e.out]
          · exact X2.out.next hB
          · exact AV.out.2.2.2.1
      have n3 : (a1.op == 5) = false := by simp [h3]
      by_cases h4 : a2.op = 5
      · have e : Hid (R = ec ⟨b1, o1, a1, k1⟩) := by unfold Hid; rw [J2.out, if_neg h3, if_pos h4]
        have n4 : (a2.op == 5) = true := by simp [h4]
        clear J2 h3 h4
        go_wp2
        refine bodyPost_ret (v := .agg #[.int .i64 a1.op, .int .i64 a1.num, .string a1.name, .slice a1.ptr (len k1) a1.cap]) ?_ rfl ?_
        · rw [results_cell1 rfl]; go_simp
        · refine ReP.mk ⟨b1, o1, a1, k1⟩ (by (repeat (first | exact Below.refl _ _ | refine Below.drew ?_ | refine Below.alloc ?_ (by first | exact Nat.le_refl _ | (simp <;> omega)) _ | refine Below.setCell ?_ (by first | exact Nat.le_refl _ | (simp <;> omega)) _))) ?_ (fun hB => ?_) ?_
          · rw [e.out]
          · exact X1.out.next hB
          · exact AV.out.2.1
      have n4 : (a2.op == 5) = false := by simp [h4]
      have e : Hid (R = nE 21 [ec ⟨b1, o1, a1, k1⟩, ec ⟨b2, o2, a2, k2⟩]) := by unfold Hid; rw [J2.out, if_neg h3, if_neg h4]
      clear J2 h3 h4
      go_wp2
      refine bodyPost_ret (v := .agg #[.int .i64 21, .int .i64 0, .string ⟨#[]⟩, .slice (some ⟨b, o, none⟩) 2 cap]) ?_ rfl ?_
      · rw [results_cell1 rfl]; go_simp
      · refine ReP.mk ⟨b, o, ⟨21, 0, ⟨#[]⟩, some ⟨b, o, none⟩, cap⟩, (.node b1 o1 a1 k1 (.node b2 o2 a2 k2 .nil))⟩ (by (repeat (first | exact Below.refl _ _ | refine Below.drew ?_ | refine Below.alloc ?_ (by first | exact Nat.le_refl _ | (simp <;> omega)) _ | refine Below.setCell ?_ (by first | exact Nat.le_refl _ | (simp <;> omega)) _))) ?_ (fun hB => ?_) ?_
        · rw [e.out]; rfl
        · exact ⟨fun _ => rfl, XX.out.next hB⟩
        · exact AV.out

end Go.Proofs.Ytfoedbfkddoibaa
