/-
  The contract of types.Attributes.
-/
import Derived.Test.YtfoedbfkddoibaaGe
import Derived.Test.YtfoedbfkddoibaaGd
namespace Go.Proofs.Ytfoedbfkddoibaa
set_option linter.unusedVariables false
set_option linter.unusedSimpArgs false
open Go.ChangeShapes Go.WideShapes Go.ChangeAt Go.RowKit

set_option maxHeartbeats 1000000 in
theorem attrs1 (w : World) : Calls Try.prog 26 #[.int .i64 1] w fun e w' => e = .returned (.slice (some ⟨w.heap.size, 0, none⟩) 11 11) ∧ w' = w.alloc (.cells (strV Att.dutyL).toArray 9) := by
  go_enter Try.func26, Try.ntmps26
  go_wp2
  go_ret
  exact ⟨rfl, rfl⟩

def preL : List (List UInt8) := [Att.before, Att.after]
theorem pre_at (j : Nat) (h : j < 2) : ∃ P, preL[j]? = some P ∧ P.length ≤ 7 ∧ (Att.restL.take (3 + 11 * j) ++ Att.dutyL.map (P ++ ·)) = Att.restL.take (3 + 11 * (j + 1)) ∧ ∃ X, Att.restL.take (3 + 11 * j) = Att.rest :: X := by
  match j, h with
  | 0, _ => exact ⟨_, rfl, by decide, by decide, _, rfl⟩
  | 1, _ => exact ⟨_, rfl, by decide, by decide, _, rfl⟩

set_option maxHeartbeats 4000000 in
set_option maxRecDepth 100000 in
theorem attrs2 (w : World) : Calls Try.prog 26 #[.int .i64 2] w (StrsPost Att.restL w) := by
  obtain ⟨i0, hi, hz0, hz1, hz2⟩ := info_parts Try.infoS
  go_enter Try.func26, Try.ntmps26
  go_wp2_with fail
  go_loopw [3, 17] (fun v i wr => ∃ j : Nat, j ≤ 2 ∧ i = .int .i64 j ∧ w.heap.size + 1 < wr.heap.size ∧ Hid (wr.ownsRow w.heap.size 9 1 v (3 + 11 * j) (strV (Att.restL.take (3 + 11 * j))) ∧
    (∀ q u, (strV preL)[q]? = some u → wr.cell? ⟨w.heap.size + 1, q, none⟩ = some u) ∧ Below w.heap.size w wr)) (fun _ i _ => 2 - (intOf i).toNat)
  case atStart =>
    refine ⟨0, by omega, rfl, by simp, ?_, ?_, ((Below.refl _ _).alloc (Nat.le_refl _) _).alloc (by simp) _⟩
    · exact (World.ownsRow_lit _ _ 3 (Nat.le_refl _) (by decide) rfl).alloc _
    · intro q u h; simp [go_sem]; exact h
  case round =>
    obtain ⟨j, hj, rfl, hsz, HR⟩ := hrel
    by_cases hlt : j < 2
    · obtain ⟨P, hP, hPl, hPn, X, hX⟩ := pre_at j hlt
      have hc : wr.cell? ⟨w.heap.size + 1, j, none⟩ = some (.string ⟨P.toArray⟩) := HR.out.2.1 j _ (by simp [strV, hP])
      have PN := Lib.hid hPn
      rw [hX] at HR PN
      have hi1 : (j : Int) < 2 := by omega
      clear hP hPn hX
      go_wp2_with (go_at_call 26; refine (attrs1 _).mono ?_; rintro e w' ⟨rfl, rfl⟩)
      obtain ⟨wo, hwo⟩ : ∃ wo : World, wo = wr := ⟨_, rfl⟩
      rw [← hwo] at HR hsz hc
      rw [← hwo]
      clear hwo
      clear hc
      go_loopw [3, 23] (fun v i wr => ∃ k : Nat, k ≤ 11 ∧ i = .int .i64 k ∧ w.heap.size + 1 < wr.heap.size ∧ Hid (wr.ownsRow w.heap.size 9 1 v (3 + 11 * j + k) (strV (Att.rest :: (X ++ (Att.dutyL.map (P ++ ·)).take k))) ∧
        (∀ q u, (strV Att.dutyL)[q]? = some u → wr.cell? ⟨wo.heap.size, q, none⟩ = some u) ∧ (∀ q u, (strV preL)[q]? = some u → wr.cell? ⟨w.heap.size + 1, q, none⟩ = some u) ∧ Below w.heap.size w wr)) (fun _ i _ => 11 - (intOf i).toNat)
      case atStart =>
        have hb : Below wo.heap.size wo (wo.alloc (.cells (strV Att.dutyL).toArray 9)) := (Below.refl _ _).alloc (Nat.le_refl _) _
        refine ⟨0, by omega, rfl, by have := hb.size; omega, ?_, ?_, ?_, HR.out.2.2.trans (hb.mono HR.out.2.2.size)⟩
        · simp only [List.take_zero, List.append_nil]; exact HR.out.1.alloc _
        · intro q u h; rw [World.cell?_alloc_new]; show (strV Att.dutyL).toArray[q]? = some u; rw [List.getElem?_toArray]; exact h
        · intro q u h
          have := HR.out.2.1 q u h
          rw [hb.cell (block_lt_of_cell this)]; exact this
      case round =>
        clear HR hsz
        obtain ⟨k, hk, rfl, hsz, HR⟩ := hrel
        by_cases hlt2 : k < 11
        · obtain ⟨l, hl1, hl2⟩ : ∃ l, Att.dutyL[k]? = some l ∧ l.length ≤ 8 := duty_at k hlt2
          have hc : wr.cell? ⟨wo.heap.size, k, none⟩ = some (.string ⟨l.toArray⟩) := HR.out.2.1 k _ (by simp [strV, hl1])
          have L1 := Lib.hid hl1
          clear hl1
          have hi2 : (k : Int) < 11 := by omega
          have hb : ¬ 9223372036854775807 < P.length + l.length := by omega
          go_wp2_with (at_builtin; refine wpList_append_own _ rfl _ _ 52 rfl w.heap.size 9 i0 (.string ⟨#[]⟩) 1 16 Try.underlying52 hi hz0 hz1 hz2 rfl (by decide) _ _ _ rfl (HR.out.1.alloc _) ⟨wr.heap.size, 0, none⟩ 1 1 [.string (⟨P.toArray⟩ ++ ⟨l.toArray⟩)] rfl rfl ?c1 ?c2 ?c3 ?c4 ?c5 ?_)
          case c1 => intro q u hu; cases q with
            | zero => simp at hu; subst hu; simp [Addr.add]
            | succ q => simp at hu
          case c2 => intro u hu; simp at hu; subst hu; rfl
          case c3 => unfold maxLen; omega
          case c4 => omega
          case c5 => simp; omega
          intro v' w1 hown hgrow hnil
          have hst := row_step (p := P) (x := Att.rest) (y := [108, 101, 103, 115]) (gd := wo.heap.size) (w := w) (HR.out.2.1 0 _ rfl) (by decide) HR.out.1 HR.out.2.1 HR.out.2.2.2 hown hgrow
          have hst2 := row_step (p := P) (x := Att.rest) (y := Att.before) (gd := w.heap.size + 1) (w := w) (HR.out.2.2.1 0 _ rfl) (by decide) HR.out.1 HR.out.2.2.1 HR.out.2.2.2 hown hgrow
          have ST := Lib.hid hst
          have ST2 := Lib.hid hst2.2.1
          have hz1 : w.heap.size + 1 < w1.heap.size := by have := hst.2.2.2; omega
          clear hst hst2 hown hgrow hnil hc
          go_wp2
          go_roundw
          case rel =>
            refine ⟨k + 1, by omega, by go_num, hz1, ?_, ST.out.2.1, ST2.out, ST.out.2.2.1⟩
            have := ST.out.1
            have e : (Att.dutyL.map (P ++ ·)).take (k + 1) = (Att.dutyL.map (P ++ ·)).take k ++ [P ++ l] := by
              rw [List.take_add_one]; simp [L1.out]
            rw [e, ← List.append_assoc]
            exact this
          case measure => simp [intOf]; omega
        · have hj3 : ¬ (k : Int) < 11 := by omega
          have HR2 : Hid (wr.ownsRow w.heap.size 9 1 u3 (3 + 11 * (j + 1)) (strV (Att.restL.take (3 + 11 * (j + 1)))) ∧ (∀ q u, (strV preL)[q]? = some u → wr.cell? ⟨w.heap.size + 1, q, none⟩ = some u) ∧ Below w.heap.size w wr) := by
            obtain rfl : k = 11 := by omega
            have h1 := HR.out.1
            have e : Att.rest :: (X ++ (Att.dutyL.map (P ++ ·)).take 11) = Att.restL.take (3 + 11 * (j + 1)) := PN.out
            rw [e] at h1
            exact ⟨h1, HR.out.2.2⟩
          clear HR
          go_wp2
          go_roundw
          case rel => exact ⟨j + 1, by omega, by go_num, hsz, HR2.out⟩
          case measure => simp [intOf]; omega
    · have hj2 : ¬ (j : Int) < 2 := by omega
      have HR2 : Hid (wr.ownsRow w.heap.size 9 1 u3 25 (strV Att.restL) ∧ Below w.heap.size w wr) := by
        obtain rfl : j = 2 := by omega
        exact ⟨HR.out.1, HR.out.2.2⟩
      go_wp2
      go_ret
      exact ⟨_, rfl, strs_of_own HR2.out.1 (by omega), HR2.out.2⟩

set_option maxHeartbeats 1000000 in
theorem attrs_any (sc : Int) (w : World) : Calls Try.prog 26 #[.int .i64 sc] w (StrsPost (Att.listL sc) w) := by
  by_cases h1 : sc = 1
  · subst h1
    refine (attrs1 w).mono ?_
    rintro e w' ⟨rfl, rfl⟩
    refine ⟨_, rfl, .inr ⟨w.heap.size, 11, rfl, fun i u hu => ?_⟩, (Below.refl _ _).alloc (Nat.le_refl _) _⟩
    rw [World.cell?_alloc_new]; show (strV Att.dutyL).toArray[i]? = some u; rw [List.getElem?_toArray]; exact hu
  · by_cases h2 : sc = 2
    · subst h2; exact attrs2 w
    · by_cases h3 : sc = 3
      · subst h3
        go_enter Try.func26, Try.ntmps26
        go_wp2
        go_ret
        refine ⟨_, rfl, .inr ⟨w.heap.size, 7, rfl, fun i u hu => ?_⟩, (Below.refl _ _).alloc (Nat.le_refl _) _⟩
        rw [World.cell?_alloc_new]
        show (strV Att.pairL).toArray[i]? = some u
        rw [List.getElem?_toArray]
        exact hu
      · have b1 : (sc == 1) = false := by simp [h1]
        have b2 : (sc == 2) = false := by simp [h2]
        have b3 : (sc == 3) = false := by simp [h3]
        have L : Hid (Att.listL sc = []) := by unfold Hid Att.listL; rw [if_neg h1, if_neg h2, if_neg h3]
        clear h1 h2 h3
        go_enter Try.func26, Try.ntmps26
        go_wp2
        go_ret
        exact ⟨_, rfl, .inl ⟨L.out, rfl⟩, Below.refl _ _⟩

theorem strs_shape {w : World} {v : Value} {L : List (List UInt8)} (h : StrsAt w v L) : ∃ p cap, v = .slice p L.length cap ∧ ∀ (i : Nat) l, L[i]? = some l → ∃ g, p = some ⟨g, 0, none⟩ ∧ w.cell? ⟨g, i, none⟩ = some (.string ⟨l.toArray⟩) := by
  rcases h with ⟨rfl, rfl⟩ | ⟨g, cap, rfl, hc⟩
  · exact ⟨none, 0, rfl, fun i l h => by simp at h⟩
  · exact ⟨_, cap, rfl, fun i l h => ⟨g, rfl, hc i _ (by simp [strV, h])⟩⟩

end Go.Proofs.Ytfoedbfkddoibaa
