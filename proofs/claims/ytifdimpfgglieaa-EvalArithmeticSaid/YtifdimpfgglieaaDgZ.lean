/-
  The contracts of the integers' functions of pairingref1: Make, Canon, Negate, Compare, Add, Sub, Mul.
-/
import Derived.Test.YtifdimpfgglieaaDgY
import Derived.Maps.AppendAt
import Derived.Laws.AppendOwnNone
namespace Go.Proofs.Ytifdimpfgglieaa
set_option linter.unusedVariables false
set_option linter.unusedSimpArgs false
open Go.ChangeShapes Go.WideShapes Go.ChangeAt Go.RowKit

theorem DgA.of_row {w : World} {base : Nat} {e : TypeId} {v : Value} {l : List Nat} (h : w.ownsRow base e 1 v l.length (dgV l)) (hd : DgL l) : ∃ A c, v = .slice A l.length c ∧ DgA w A c l := by
  rcases h.2 with ⟨hv, h0⟩ | ⟨g, cap, cur, hv, _, hg, hnc, _⟩
  · have hl : l = [] := by simpa [dgV] using h0
    subst hl
    exact ⟨none, 0, hv, hd, Nat.le_refl _, fun _ => rfl, fun q => absurd rfl q⟩
  · subst hv
    refine ⟨some ⟨g, 0, none⟩, cap, rfl, hd, hnc, (fun q => by cases q), fun _ => ⟨g, rfl, fun j hj => ?_⟩⟩
    rw [h.cellAt j (by omega), dgV_at l j hj]
theorem DgA.put2 {w : World} {A : Option Addr} {c b : Nat} {l : List Nat} {t : Bool} (h : DgA w A c l) (hb : w.cell? ⟨b, 0, none⟩ = some (.bool t)) (u v : Value) : DgA ((w.setCell ⟨b, 0, none⟩ u).setCell ⟨b, 1, none⟩ v) A c l := by
  refine ⟨h.dg, h.len, h.nil, fun q => ?_⟩
  obtain ⟨g, e, h2⟩ := h.at_ q
  refine ⟨g, e, fun j hj => ?_⟩
  have hg : g ≠ b := by
    rintro rfl
    have h0 := h2 0 (by omega)
    rw [hb] at h0
    cases h0
  rw [World.cell?_setCell_other _ _ _ _ (fun e => hg (by have := congrArg Addr.block e; first | exact this | exact this.symm)), World.cell?_setCell_other _ _ _ _ (fun e => hg (by have := congrArg Addr.block e; first | exact this | exact this.symm))]
  exact h2 j hj
theorem dgV_one (l : List Nat) : ∀ u ∈ dgV l, u.oneCell' = true := by
  intro u hu
  obtain ⟨d, -, rfl⟩ := List.mem_map.1 hu
  rfl
/-- append([]uint32(nil), digits...). -/
theorem wpList_append_dg {P : Program} {w : World} {ops : Array Oper} {rest : List Oper} {o : Oper} {a : Act} {Q : Exit → Act → World → Prop} (hgd : o.guard = none) (s x : Operand) (t : TypeId)
    (ho : o.op = .call { callee := .builtin .append, args := #[s, x], argTypes := #[t, t] })
    (e : TypeId) (i : TypeInfo) (z : Value) (ht : P.underlying t = some (.slice e)) (hi : P.info? e = some i) (hz : i.zero = some z)
    (hsize : i.size = 1) (hby : i.bytes = 4) (hzs : z.cells.size = 1) (hs : a.eval s = .slice none 0 0)
    {A : Option Addr} {c : Nat} {l : List Nat} (hx : a.eval x = .slice A l.length c) (hd : DgA w A c l) (hl : l.length ≤ 1000)
    (h : ∀ A' c' w', DgA w' A' c' l → Below w.heap.size w w' → wpList P ops Q rest (a.put o.dst (.slice A' l.length c')) w') : wpList P ops Q (o :: rest) a w := by
  cases A with
  | none =>
    have hc := hd.nil rfl
    have hn : l = [] := by
      cases l with
      | nil => rfl
      | cons d l => obtain ⟨g, e, -⟩ := hd.at_ (by simp); cases e
    subst hn
    subst hc
    exact wpList_append_own_none hgd s x t ho w.heap.size e i 1 ht hi (.slice none 0 0) 0 [] hs (World.ownsRow_nil w _ _ _) hx (h none 0 w hd (Below.refl _ _))
  | some ad =>
    refine wpList_append_own_at w hgd s x t ho w.heap.size e i z 1 4 ht hi hz hsize hby hzs (by decide) (.slice none 0 0) 0 [] hs (World.ownsRow_nil w _ _ _) ad l.length c (dgV l) hx (by simp [dgV]) (fun j u hu => ?_) (dgV_one l) (by unfold maxLen; omega) (by omega) (Nat.le_refl _) ?_
    · have hj : j < l.length := by have := (List.getElem?_eq_some_iff.1 hu).1; simpa [dgV] using this
      obtain ⟨g, e, hc⟩ := hd.at_ (by rintro rfl; simp at hj)
      injection e with e
      subst e
      have := hc j hj
      rw [dgV_at l j hj] at hu
      rw [← hu]
      unfold Addr.add
      split
      · rename_i q; subst q; exact this
      · simpa using this
    · intro v' w' hown hgrow _ _
      rw [Nat.zero_add, List.nil_append] at hown
      obtain ⟨A', c', rfl, hd'⟩ := DgA.of_row hown hd.dg
      exact h A' c' w' hd' ((Below.refl _ _).grown hgrow (Nat.le_refl _) (fun m hm => by cases hm))
/-- What a function of integers answers: the integer z, in new memory. -/
def IvP (w : World) (z : Int) (e : Ending) (w' : World) : Prop := ∃ A c, e = .returned (.agg #[.bool (decide (z < 0)), .slice A (dgs z.natAbs).length c]) ∧ DgA w' A c (dgs z.natAbs) ∧ Below w.heap.size w w'
theorem sgn_abs (neg : Bool) (v : Nat) : (sgnI neg v).natAbs = v := by unfold sgnI; split <;> omega
theorem sgn_neg (neg : Bool) (v : Nat) (h : v ≠ 0) : decide (sgnI neg v < 0) = neg := by
  unfold sgnI; cases neg <;> simp <;> omega
theorem sgn_self (z : Int) : sgnI (decide (z < 0)) z.natAbs = z := by
  unfold sgnI
  by_cases h : z < 0 <;> simp [h] <;> omega

theorem dg0 : dgs ((0 : Int).natAbs) = [] := dgs_zero
theorem IvP.zero {w w' : World} (hb : Below w.heap.size w w') : IvP w 0 (.returned (.agg #[.bool false, .slice none 0 0])) w' := by
  refine ⟨none, 0, by rw [dg0]; rfl, ?_, hb⟩
  rw [dg0]
  exact ⟨fun d hd => by simp at hd, Nat.le_refl _, fun _ => rfl, fun q => absurd rfl q⟩
theorem IvP.of {w w' : World} {A : Option Addr} {c v : Nat} {neg : Bool} (hv : v ≠ 0) (hd : DgA w' A c (dgs v)) (hb : Below w.heap.size w w') : IvP w (sgnI neg v) (.returned (.agg #[.bool neg, .slice A (dgs v).length c])) w' := by
  refine ⟨A, c, ?_, by rw [sgn_abs]; exact hd, hb⟩
  rw [sgn_abs, sgn_neg neg v hv]
set_option maxHeartbeats 1000000 in
set_option maxRecDepth 100000 in
theorem make_any (neg : Bool) (A : Option Addr) (c : Nat) (l : List Nat) (w : World) (h : DgA w A c l) (hl : l.length ≤ 100) :
    Calls Try.prog 13 #[.bool neg, .slice A l.length c] w (IvP w (sgnI neg (val l))) := by
  obtain ⟨i0, hi, hi0, hi1, hi2⟩ := info_parts Try.infoU32
  have KA0 := trim_any A c l (w.alloc (.cells #[.bool false, .slice none 0 0] 24)) (h.next ((Below.refl _ _).alloc (Nat.le_refl _) _)) (by omega)
  have DA0 := (h.next ((Below.refl _ _).alloc (Nat.le_refl _) (.cells #[.bool false, .slice none 0 0] 24))).trim
  have hx1 := trim_len l h.dg
  obtain ⟨x, hx⟩ : ∃ x, dgs (val l) = x := ⟨_, rfl⟩
  have vx : Hid (val x = val l) := by unfold Hid; rw [← hx, val_dgs]
  rw [hx] at KA0 DA0 hx1
  have KA := Lib.hid KA0
  have DA := Lib.hid DA0
  have HX := Lib.hid hx
  have hlx : x.length ≤ 100 := by omega
  clear KA0 DA0 hx hx1 h
  go_enter Try.func13, Try.ntmps13
  by_cases h0 : x.length = 0
  · have h2 : x = [] := List.length_eq_zero_iff.1 h0
    have V0 : Hid (val l = 0) := by unfold Hid; rw [← vx.out, h2]; rfl
    clear h0
    subst h2
    go_wp2_with (go_at_call 24; (with_reducible refine KA.out.mono ?_); rintro e w' ⟨rfl, hw⟩; subst hw)
    refine bodyPost_ret (v := .agg #[.bool false, .slice none 0 0]) ?_ rfl ?_
    · rw [results_cell1 rfl]; go_simp
    · rw [V0.out, show sgnI neg 0 = 0 by unfold sgnI; split <;> rfl]
      exact IvP.zero (by first | exact (Below.refl _ _).alloc (Nat.le_refl _) _ | exact ((Below.refl _ _).alloc (Nat.le_refl _) _).setCell (by simp) _)
  · have HV : Hid (val l ≠ 0) := by
      intro q
      have h3 := HX.out
      rw [q, dgs_zero] at h3
      rw [← h3] at h0
      exact h0 rfl
    have h1 : (((x.length : Nat) : Int) == 0) = false := by rw [beq_eq_false_iff_ne]; omega
    have h2 : ¬ x = [] := by rintro rfl; exact h0 rfl
    have H0 := Lib.hid h0
    clear h0
    go_wp2_with (first
      | (go_at_call 24; (with_reducible refine KA.out.mono ?_); rintro e w' ⟨rfl, hw⟩; subst hw)
      | (at_builtin; refine wpList_append_dg rfl _ _ 22 rfl 36 i0 (.int .u32 0) Try.underlying22 hi hi0 hi1 hi2 rfl rfl (A := A) (c := c) (l := x) rfl DA.out (by omega) ?_; intro A' c' w2 hd2 hb2
         have r0 : w2.cell? ⟨w.heap.size, 0, none⟩ = some (.bool false) := by rw [hb2.cell (p := ⟨w.heap.size, 0, none⟩) (by simp)]; simp [go_sem]
         have r1 : w2.cell? ⟨w.heap.size, 1, none⟩ = some (.slice none 0 0) := by rw [hb2.cell (p := ⟨w.heap.size, 1, none⟩) (by simp)]; simp [go_sem]
         have r2 : w2.frozen? ⟨w.heap.size, 0, none⟩ = false := by rw [hb2.frozen (p := ⟨w.heap.size, 0, none⟩) (by simp)]; simp [go_sem]
         have r3 : w2.frozen? ⟨w.heap.size, 1, none⟩ = false := by rw [hb2.frozen (p := ⟨w.heap.size, 1, none⟩) (by simp)]; simp [go_sem]
         have BB : Hid (Below w.heap.size w w2) := ((Below.refl _ _).alloc (Nat.le_refl _) _).trans (hb2.mono (by simp))
         have HD := Lib.hid hd2
         have hzz : w.heap.size < w2.heap.size := block_lt_of_cell r0
         clear hb2 hd2))
    refine bodyPost_ret (v := .agg #[.bool neg, .slice A' x.length c']) ?_ rfl ?_
    · rw [results_cell1 rfl]; go_simp
    · have hx := HX.out
      subst hx
      exact IvP.of HV.out (HD.out.put2 r0 _ _) ((BB.out.setCell (Nat.le_refl _) _).setCell (Nat.le_refl _) _)

theorem bk_cell {w w' : World} {b o : Nat} {v : Value} (hb : Below w.heap.size w w') (h : w.cell? ⟨b, o, none⟩ = some v) : w'.cell? ⟨b, o, none⟩ = some v := (hb.cell (p := ⟨b, o, none⟩) (block_lt_of_cell h)).trans h
theorem bk_free {w w' : World} {b o : Nat} {v : Value} (hb : Below w.heap.size w w') (h : w.cell? ⟨b, o, none⟩ = some v) (hf : w.frozen? ⟨b, o, none⟩ = false) : w'.frozen? ⟨b, o, none⟩ = false := (hb.frozen (p := ⟨b, o, none⟩) (block_lt_of_cell h)).trans hf
/-- An integer in memory. -/
structure IvA (w : World) (A : Option Addr) (c : Nat) (z : Int) : Prop where
  d : DgA w A c (dgs z.natAbs)
  s : (dgs z.natAbs).length ≤ 50
theorem IvA.next {w w' : World} {A : Option Addr} {c : Nat} {z : Int} (h : IvA w A c z) (hb : Below w.heap.size w w') : IvA w' A c z := ⟨h.d.next hb, h.s⟩
theorem make_iv (A : Option Addr) (c : Nat) (z : Int) (ng : Bool) (n : Nat) (w : World) (h : IvA w A c z) (hg : decide (z < 0) = ng) (hn : (dgs z.natAbs).length = n) :
    Calls Try.prog 13 #[.bool ng, .slice A n c] w (IvP w z) := by
  subst hg hn
  have := make_any (decide (z < 0)) A c (dgs z.natAbs) w h.d (by have := h.s; omega)
  rw [val_dgs, sgn_self] at this
  exact this
theorem make_neg (A : Option Addr) (c : Nat) (z : Int) (ng : Bool) (n : Nat) (w : World) (h : IvA w A c z) (hg : decide (z < 0) = ng) (hn : (dgs z.natAbs).length = n) :
    Calls Try.prog 13 #[.bool (!ng), .slice A n c] w (IvP w (-z)) := by
  subst hg hn
  have := make_any (!decide (z < 0)) A c (dgs z.natAbs) w h.d (by have := h.s; omega)
  rw [val_dgs] at this
  have e : sgnI (!decide (z < 0)) z.natAbs = -z := by
    unfold sgnI
    by_cases q : z < 0 <;> simp [q] <;> omega
  rw [e] at this
  exact this

end Go.Proofs.Ytifdimpfgglieaa
