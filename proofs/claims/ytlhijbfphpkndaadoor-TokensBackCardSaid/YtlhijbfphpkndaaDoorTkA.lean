/-
  The contracts of pairinglaw11's awake and Same.
-/
import Derived.Test.YtlhijbfphpkndaaDoorTkR
namespace Go.Proofs.YtlhijbfphpkndaaDoor
set_option linter.unusedVariables false
set_option linter.unusedSimpArgs false
open Go.ChangeShapes Go.WideShapes Go.ChangeAt Go.RowKit

set_option maxHeartbeats 1000000 in
set_option maxRecDepth 100000 in
theorem tawake_any (w : World) : Calls Tryd.prog 10 #[] w fun e w' => e = .returned (.bool true) ∧ Below w.heap.size w w' := by
  go_enter Tryd.func10, Tryd.ntmps10
  go_wp2_with fail
  refine (tscan_any awS w (by decide)).mono ?_
  rintro e w1 ⟨v, rfl, ht, hb⟩
  rw [aw_scan] at ht ⊢
  obtain ⟨p, cap, rfl, hc, -, h4⟩ := ht
  obtain ⟨g, O, rfl, hcells⟩ := h4 (by simp)
  have B := Lib.hid hb
  have c1 : w1.cell? ⟨g, O + 1, none⟩ = some (.string ⟨#[97]⟩) := hcells 1 _ rfl
  have c5 : w1.cell? ⟨g, O + 4 + 1, none⟩ = some (.string ⟨#[60, 61]⟩) := hcells 5 _ rfl
  have c8 : w1.cell? ⟨g, O + 8, none⟩ = some (.int .i64 3) := hcells 8 _ rfl
  have c10 : w1.cell? ⟨g, O + 8 + 2, none⟩ = some (.int .i64 450) := hcells 10 _ rfl
  clear hb hcells h4
  simp only [List.length_cons, List.length_nil] at hc ⊢
  go_wp2
  go_ret
  exact ⟨rfl, B.out⟩

theorem tk_eq {D E : List Tk.T4} (h : D.map (fun t => t.t) = E.map (fun t => t.t)) {j : Nat} {a : Tk.T4} (ha : D[j]? = some a) : ∃ b, E[j]? = some b ∧ a.t = b.t := by
  have := congrArg (fun l => l[j]?) h
  simp only [List.getElem?_map, ha, Option.map_some] at this
  cases hb : E[j]? with
  | none => rw [hb] at this; cases this
  | some b => rw [hb] at this; exact ⟨b, rfl, by simpa using this⟩
theorem tk_eqA {D E : List Tk.T4} (h : D.map (fun t => t.at') = E.map (fun t => t.at')) {j : Nat} {a b : Tk.T4} (ha : D[j]? = some a) (hb : E[j]? = some b) : a.at' = b.at' := by
  have := congrArg (fun l => l[j]?) h
  simp only [List.getElem?_map, ha, hb, Option.map_some] at this
  simpa using this
theorem tk_drew {w : World} {D : List Tk.T4} {v : Value} (h : TkAt w D v) (n : Nat) : TkAt (w.drewN n) D v := h

set_option maxHeartbeats 2000000 in
set_option maxRecDepth 100000 in
theorem same_any (D E : List Tk.T4) (v u : Value) (bare : Bool) (w : World) (h1 : TkAt w D v) (h2 : TkAt w E u) (ht : D.map (fun t => t.t) = E.map (fun t => t.t)) (ha : bare = false → D.map (fun t => t.at') = E.map (fun t => t.at')) :
    Calls Tryd.prog 9 #[v, u, .bool bare] w fun e w' => e = .returned (.bool true) ∧ Below w.heap.size w w' := by
  have H1 := Lib.hid h1
  have H2 := Lib.hid h2
  obtain ⟨p, pc, rfl, -, hn, -⟩ := h1
  obtain ⟨q, qc, rfl, -, hm, -⟩ := h2
  have hl : D.length = E.length := by have := congrArg List.length ht; simpa using this
  rw [← hl] at hm H2 ⊢
  have HT := Lib.hid ht
  have HA := Lib.hid ha
  have HL := Lib.hid hl
  clear ht ha hl
  go_enter Tryd.func9, Tryd.ntmps9
  go_wp2_with fail
  go_loopw [7] (fun i wr => ∃ (j n : Nat), i = .int .i64 j ∧ j ≤ D.length ∧ Hid (wr = w.drewN n)) (fun i _ => D.length - (intOf i).toNat)
  case atStart => exact ⟨0, 0, rfl, Nat.zero_le _, rfl⟩
  case round =>
    obtain ⟨j, n, rfl, hj, HR⟩ := hrel
    obtain rfl := HR.out
    clear HR
    by_cases hlt : j < D.length
    · have hj' : (j : Int) < (D.length : Int) := by omega
      have hj0 : (0 : Int) ≤ (j : Int) := by omega
      obtain ⟨a, ha⟩ : ∃ a, D[j]? = some a := ⟨_, List.getElem?_eq_getElem hlt⟩
      obtain ⟨b, hb, hab⟩ := tk_eq HT.out ha
      obtain ⟨g, O, rfl, c0, c1, c2, c3⟩ := H1.out.get ha
      obtain ⟨g2, O2, rfl, d0, d1, d2, d3⟩ := H2.out.get hb
      rw [← hab] at d0 d1 d2
      have AT : Hid (bare = false → a.at' = b.at') := fun q => tk_eqA (HA.out q) ha hb
      clear ha hb hab
      cases bare with
      | true =>
        go_wp2_with fail
        go_quiet (fail)
        go_wp2
        go_roundw
        case rel => exact ⟨j + 1, n + nq, by go_num, by omega, by unfold Hid; first | rfl | rw [World.drewN_drewN]⟩
        case measure => simp [intOf]; omega
      | false =>
        have e := AT.out rfl
        rw [← e] at d3
        clear e
        go_wp2_with fail
        go_quiet (fail)
        go_wp2
        go_roundw
        case rel => exact ⟨j + 1, n + nq, by go_num, by omega, by unfold Hid; first | rfl | rw [World.drewN_drewN]⟩
        case measure => simp [intOf]; omega
    · have hj' : ¬ (j : Int) < (D.length : Int) := by omega
      go_wp2
      go_ret
      exact ⟨rfl, below_drewN (Below.refl _ _) n⟩

end Go.Proofs.YtlhijbfphpkndaaDoor
