/-
  The contract of formula's Value.
-/
import Derived.Test.YtfoedbfkddoibaaGi
namespace Go.Proofs.Ytfoedbfkddoibaa
set_option linter.unusedVariables false
set_option linter.unusedSimpArgs false
open Go.ChangeShapes Go.WideShapes Go.ChangeAt Go.RowKit
open Go.Deep (BT)

def FdCells (w : World) (B O : Nat) (f : Fd) (m : Nat) : Prop := w.cell? ⟨B, O, none⟩ = some (.int .i64 f.op) ∧ w.cell? ⟨B, O + 1, none⟩ = some (.int .i64 f.num) ∧ w.cell? ⟨B, O + 2, none⟩ = some (.slice f.ptr m f.cap)
def ValC (b o : Nat) (f : Fd) (k : Ff) : Prop := ∀ (w : World) (v : Value) (vals : List Int) (B O n : Nat),
  IntsAt w v vals → vals.length = n → n ≤ 9223372036854775807 → (∀ x ∈ vals, i64B x) → FdCells w B O f (flen k) → (k ≠ .nil → f.ptr = some ⟨b, o, none⟩) → FmAt w k b o → fOk1 n f (flen k) → flen k ≤ 9223372036854775807 → fOk n k →
  Calls Try.prog 30 #[.pointer (some ⟨B, O, none⟩), v] w fun e w' => e = .returned (.int .i64 (fv1 vals f (fvF vals k))) ∧ Below w.heap.size w w'
theorem child_val {v : Value} {vals : List Int} {n : Nat} (hn : vals.length = n) (hn2 : n ≤ 9223372036854775807) (hvb : ∀ x ∈ vals, i64B x) : ∀ (k : Ff) (w : World) (b o i : Nat), IntsAt w v vals → AllG ValC k → FmAt w k b o → fOk n k → i < flen k →
    Calls Try.prog 30 #[.pointer (some ⟨b, o + i * 3, none⟩), v] w fun e w' => e = .returned (.int .i64 ((fvF vals k).getD i 0)) ∧ Below w.heap.size w w' := by
  intro k
  induction k with
  | nil => intro w b o i _ _ _ _ hi; simp [flen] at hi
  | node b1 o1 f1 k1 r ihk ihr =>
    intro w b o i hv hall hat hok hi
    obtain ⟨hc, hp, hk, hr⟩ := hat
    obtain ⟨hok1, h63, hokk, hokr⟩ := hok
    cases i with
    | zero =>
      rw [Nat.zero_mul, Nat.add_zero]
      exact hall.1 w v vals b o n hv hn hn2 hvb hc hp hk hok1 h63 hokk
    | succ i =>
      have := ihr w b (o + 3) i hv hall.2 hr hokr (by simp [flen] at hi; omega)
      rw [show o + 3 + i * 3 = o + (i + 1) * 3 by omega] at this
      exact this

set_option maxHeartbeats 8000000 in
set_option maxRecDepth 100000 in
theorem value_any (b o : Nat) (f : Fd) (k : Ff) : ValC b o f k := by
  refine treeG_of (P := ValC) ?_ b o f k
  clear b o f k
  intro b o f k ih w v vals B O n hv hn hn2 hvb hc hp hat hok1 hk63 hok
  obtain ⟨op, num, ptr, cap⟩ := f
  obtain ⟨c0, c1, c2⟩ := hc
  dsimp only at c0 c1 c2 hp
  have CH : Hid (∀ i, i < flen k → ∀ w', Below w.heap.size w w' → Calls Try.prog 30 #[.pointer (some ⟨b, o + i * 3, none⟩), v] w' fun e w'' => e = .returned (.int .i64 ((fvF vals k).getD i 0)) ∧ Below w'.heap.size w' w'') :=
    fun i hi w' hb => child_val hn hn2 hvb k w' b o i (hv.next hb) ih (hat.next hb) hok hi
  have LV := Lib.hid (fvF_i64 n vals hvb k hok)
  have LL := Lib.hid (fvF_len vals k)
  have HV := Lib.hid hv
  have R : Hid (fv1 vals ⟨op, num, ptr, cap⟩ (fvF vals k) = if op = 1 then num else if op = 6 then vals.getD num.toNat 0 else opV op (fvF vals k)) := rfl
  have HP := Lib.hid hp
  generalize fv1 vals ⟨op, num, ptr, cap⟩ (fvF vals k) = R0 at *
  generalize fvF vals k = L at *
  obtain ⟨hnum, hcase⟩ := hok1
  dsimp only at hnum hcase
  have HN := Lib.hid hn
  clear ih hat hok hp hv hvb hnum hn
  have PT : Hid (1 ≤ flen k → ptr = some ⟨b, o, none⟩) := fun q => HP.out (by rintro rfl; simp [flen] at q)
  generalize flen k = m at *
  clear HP
  rcases hcase with rfl | ⟨rfl, h60, h61⟩ | ⟨h145, rfl⟩ | ⟨h123, hm⟩ | ⟨h719, rfl⟩ | ⟨h2, rfl⟩
  · have RQ : Hid (R0 = num) := R.out
    go_enter Try.func30, Try.ntmps30
    go_wp2
    go_ret
    exact ⟨ret_int RQ.out.symm, Below.refl _ _⟩
  · obtain ⟨j, rfl⟩ := Int.eq_ofNat_of_zero_le h60
    have RQ : Hid (R0 = vals.getD j 0) := R.out
    rcases HV.out with ⟨rfl, -⟩ | ⟨g, gc, rfl, hg⟩
    · have := HN.out; simp at this; omega
    · have hj : j < vals.length := by rw [HN.out]; omega
      have k1 := hg j _ (List.getElem?_eq_getElem hj)
      have RZ : Hid (R0 = vals[j]) := by unfold Hid; rw [RQ.out, List.getD_eq_getElem?_getD, List.getElem?_eq_getElem hj]; rfl
      generalize vals[j] = xj at *
      have j1 : (j : Int) < (vals.length : Int) := by omega
      have j0 : (0 : Int) ≤ (j : Int) := by omega
      clear hg h60 h61
      go_enter Try.func30, Try.ntmps30
      go_wp2
      go_ret
      exact ⟨ret_int RZ.out.symm, Below.refl _ _⟩
  · obtain rfl := PT.out (by omega)
    have C0 : Hid (∀ w', Below w.heap.size w w' → Calls Try.prog 30 #[.pointer (some ⟨b, o, none⟩), v] w' fun e w'' => e = .returned (.int .i64 (L.getD 0 0)) ∧ Below w'.heap.size w' w'') := fun w' hb => by have := CH.out 0 (by omega) w' hb; simpa using this
    have C1 : Hid (∀ w', Below w.heap.size w w' → Calls Try.prog 30 #[.pointer (some ⟨b, o + 3, none⟩), v] w' fun e w'' => e = .returned (.int .i64 (L.getD 1 0)) ∧ Below w'.heap.size w' w'') := fun w' hb => CH.out 1 (by omega) w' hb
    have C2 : Hid (∀ w', Below w.heap.size w w' → Calls Try.prog 30 #[.pointer (some ⟨b, o + 6, none⟩), v] w' fun e w'' => e = .returned (.int .i64 (L.getD 2 0)) ∧ Below w'.heap.size w' w'') := fun w' hb => CH.out 2 (by omega) w' hb
    rcases h145 with rfl | rfl
    · have RQ : Hid (R0 = if L.getD 0 0 ≠ 0 then L.getD 1 0 else L.getD 2 0) := R.out
      clear R CH
      generalize L.getD 0 0 = x0 at *
      generalize L.getD 1 0 = x1 at *
      generalize L.getD 2 0 = x2 at *
      go_enter Try.func30, Try.ntmps30
      go_wp2_with fail
      refine (C0.out w (Below.refl _ _)).mono ?_
      rintro e w1 ⟨rfl, hb⟩
      have d2 : w1.cell? ⟨B, O + 2, none⟩ = some (.slice (some ⟨b, o, none⟩) 3 cap) := by rw [hb.cell (block_lt_of_cell c2)]; exact c2
      have B1 := Lib.hid hb
      clear hb c0 c1 c2
      by_cases h0 : x0 = 0
      · have b0 : (x0 != 0) = false := by simp [h0]
        have RZ : Hid (R0 = x2) := by unfold Hid; rw [RQ.out]; simp [h0]
        clear h0
        go_wp2_with fail
        refine (C2.out w1 B1.out).mono ?_
        rintro e w2 ⟨rfl, hb⟩
        have B2 := Lib.hid (B1.out.trans (hb.mono B1.out.size))
        clear hb
        go_wp2
        go_ret
        exact ⟨ret_int RZ.out.symm, B2.out⟩
      · have b0 : (x0 != 0) = true := by simp [h0]
        have RZ : Hid (R0 = x1) := by unfold Hid; rw [RQ.out]; simp [h0]
        clear h0
        go_wp2_with fail
        refine (C1.out w1 B1.out).mono ?_
        rintro e w2 ⟨rfl, hb⟩
        have B2 := Lib.hid (B1.out.trans (hb.mono B1.out.size))
        clear hb
        go_wp2
        go_ret
        exact ⟨ret_int RZ.out.symm, B2.out⟩
    · have RQ : Hid (R0 = flagI (bandB (L.getD 0 0) (L.getD 1 0) (L.getD 2 0))) := R.out
      clear R CH
      generalize L.getD 0 0 = x0 at *
      generalize L.getD 1 0 = x1 at *
      generalize L.getD 2 0 = x2 at *
      have Q0 : Hid (∀ dq os, Calls Try.prog 30 #[.pointer (some ⟨b, o, none⟩), v] (Sort.grow (redrawn w dq) os) fun e w'' => e = .returned (.int .i64 x0) ∧ ∃ p : Regrown, w'' = Sort.grow (redrawn w p.d) p.os) := fun dq os => Calls.regrown_of (C0.out _ (below_regrown w dq os))
      have Q1 : Hid (∀ dq os, Calls Try.prog 30 #[.pointer (some ⟨b, o + 3, none⟩), v] (Sort.grow (redrawn w dq) os) fun e w'' => e = .returned (.int .i64 x1) ∧ ∃ p : Regrown, w'' = Sort.grow (redrawn w p.d) p.os) := fun dq os => Calls.regrown_of (C1.out _ (below_regrown w dq os))
      have Q2 : Hid (∀ dq os, Calls Try.prog 30 #[.pointer (some ⟨b, o + 6, none⟩), v] (Sort.grow (redrawn w dq) os) fun e w'' => e = .returned (.int .i64 x2) ∧ ∃ p : Regrown, w'' = Sort.grow (redrawn w p.d) p.os) := fun dq os => Calls.regrown_of (C2.out _ (below_regrown w dq os))
      have Q3 : Hid (∀ dq os, Calls Try.prog 47 #[.int .i64 x0, .int .i64 x1, .int .i64 x2] (Sort.grow (redrawn w dq) os) fun e w'' => e = .returned (.bool (bandB x0 x1 x2)) ∧ ∃ p : Regrown, w'' = Sort.grow (redrawn w p.d) p.os) := fun dq os => Calls.regrown_of ((band_any x0 x1 x2 _).mono fun e w' h => ⟨h.1, by rw [← h.2]; exact Below.refl _ _⟩)
      have Q4 : Hid (∀ bb dq os, Calls Try.prog 44 #[.bool bb] (Sort.grow (redrawn w dq) os) fun e w'' => e = .returned (.int .i64 (flagI bb)) ∧ ∃ p : Regrown, w'' = Sort.grow (redrawn w p.d) p.os) := fun bb dq os => Calls.regrown_of ((truth_any bb _).mono fun e w' h => ⟨h.1, by rw [← h.2]; exact Below.refl _ _⟩)
      generalize bandB x0 x1 x2 = bb at *
      have e2 := fun d os => cell_regrown c2 d os
      go_enter Try.func30, Try.ntmps30
      go_upto_region 22 with (fail)
      refine wp_region_quiet_below (by kernel_rfl) (by kernel_rfl) ?_
      repeat (quiet_step (with_reducible first | exact Q0.out _ _ | exact Q1.out _ _ | exact Q2.out _ _ | exact Q3.out _ _ | exact Q4.out _ _ _))
      refine wpQuiet_nil ?_
      intro _ hw'
      obtain ⟨⟨dq, osq⟩, hw''⟩ := hw'
      subst hw''
      go_wp2
      go_ret
      exact ⟨ret_int RQ.out.symm, below_regrown w dq osq⟩
  · obtain rfl := PT.out (by omega)
    rcases h123 with rfl | rfl
    · have RQ : Hid (R0 = minL (L.getD 0 0) (L.drop 1)) := R.out
      have C0 : Hid (∀ w', Below w.heap.size w w' → Calls Try.prog 30 #[.pointer (some ⟨b, o, none⟩), v] w' fun e w'' => e = .returned (.int .i64 (L.getD 0 0)) ∧ Below w'.heap.size w' w'') := fun w' hb => by have := CH.out 0 (by omega) w' hb; simpa using this
      clear R
      have h0m : (0 : Int) < (m : Int) := by omega
      go_enter Try.func30, Try.ntmps30
      go_wp2_with fail
      refine (C0.out w (Below.refl _ _)).mono ?_
      rintro e w1 ⟨rfl, hb⟩
      have B1 := Lib.hid hb
      clear hb
      go_wp2_with fail
      go_loopw [5, 6] (fun nv i wr => ∃ (j : Nat) (acc : Int), j ≤ m ∧ i = .int .i64 j ∧ nv = .int .i64 acc ∧ Hid (minL acc (L.drop j) = R0 ∧ Below w.heap.size w wr)) (fun _ i _ => m - (intOf i).toNat)
      case atStart => exact ⟨1, _, hm, rfl, rfl, RQ.out.symm, B1.out⟩
      case round =>
        obtain ⟨j, acc, hj, rfl, rfl, HR⟩ := hrel
        have d0 : wr.cell? ⟨B, O, none⟩ = some (.int .i64 12) := by rw [HR.out.2.cell (block_lt_of_cell c0)]; exact c0
        have d2 : wr.cell? ⟨B, O + 2, none⟩ = some (.slice (some ⟨b, o, none⟩) m cap) := by rw [HR.out.2.cell (block_lt_of_cell c2)]; exact c2
        by_cases hlt : j < m
        · have hj1 : (j : Int) < (m : Int) := by omega
          have hj0 : (0 : Int) ≤ (j : Int) := by omega
          have CJ := Lib.hid (CH.out j hlt wr HR.out.2)
          have ST : Hid (minL acc (L.drop j) = minL (min acc (L.getD j 0)) (L.drop (j + 1))) := by
            have hjl : j < L.length := by rw [LL.out]; exact hlt
            unfold Hid
            rw [List.drop_eq_getElem_cons hjl, List.getD_eq_getElem?_getD, List.getElem?_eq_getElem hjl]
            rfl
          generalize L.getD j 0 = xj at *
          go_wp2_with fail
          refine CJ.out.mono ?_
          rintro e w2 ⟨rfl, hb⟩
          have B2 := Lib.hid (HR.out.2.trans (hb.mono HR.out.2.size))
          have k0 : w2.cell? ⟨B, O, none⟩ = some (.int .i64 12) := by rw [hb.cell (block_lt_of_cell d0)]; exact d0
          clear hb d0 d2
          go_wp2
          all_goals (
            go_roundw
            case rel => exact ⟨j + 1, min acc xj, by omega, by go_num, by first | rfl | (congr 1; omega), by have := HR.out.1; rw [ST.out] at this; exact this, B2.out⟩
            case measure => (simp [intOf]; omega))
        · have hj1 : ¬ (j : Int) < (m : Int) := by omega
          have RZ : Hid (R0 = acc) := by
            have := HR.out.1
            rw [List.drop_eq_nil_of_le (by rw [LL.out]; omega)] at this
            exact this.symm
          go_wp2
          go_ret
          exact ⟨ret_int RZ.out.symm, HR.out.2⟩
    · have RQ : Hid (R0 = maxL (L.getD 0 0) (L.drop 1)) := R.out
      have C0 : Hid (∀ w', Below w.heap.size w w' → Calls Try.prog 30 #[.pointer (some ⟨b, o, none⟩), v] w' fun e w'' => e = .returned (.int .i64 (L.getD 0 0)) ∧ Below w'.heap.size w' w'') := fun w' hb => by have := CH.out 0 (by omega) w' hb; simpa using this
      clear R
      have h0m : (0 : Int) < (m : Int) := by omega
      go_enter Try.func30, Try.ntmps30
      go_wp2_with fail
      refine (C0.out w (Below.refl _ _)).mono ?_
      rintro e w1 ⟨rfl, hb⟩
      have B1 := Lib.hid hb
      clear hb
      go_wp2_with fail
      go_loopw [5, 6] (fun nv i wr => ∃ (j : Nat) (acc : Int), j ≤ m ∧ i = .int .i64 j ∧ nv = .int .i64 acc ∧ Hid (maxL acc (L.drop j) = R0 ∧ Below w.heap.size w wr)) (fun _ i _ => m - (intOf i).toNat)
      case atStart => exact ⟨1, _, hm, rfl, rfl, RQ.out.symm, B1.out⟩
      case round =>
        obtain ⟨j, acc, hj, rfl, rfl, HR⟩ := hrel
        have d0 : wr.cell? ⟨B, O, none⟩ = some (.int .i64 13) := by rw [HR.out.2.cell (block_lt_of_cell c0)]; exact c0
        have d2 : wr.cell? ⟨B, O + 2, none⟩ = some (.slice (some ⟨b, o, none⟩) m cap) := by rw [HR.out.2.cell (block_lt_of_cell c2)]; exact c2
        by_cases hlt : j < m
        · have hj1 : (j : Int) < (m : Int) := by omega
          have hj0 : (0 : Int) ≤ (j : Int) := by omega
          have CJ := Lib.hid (CH.out j hlt wr HR.out.2)
          have ST : Hid (maxL acc (L.drop j) = maxL (max acc (L.getD j 0)) (L.drop (j + 1))) := by
            have hjl : j < L.length := by rw [LL.out]; exact hlt
            unfold Hid
            rw [List.drop_eq_getElem_cons hjl, List.getD_eq_getElem?_getD, List.getElem?_eq_getElem hjl]
            rfl
          generalize L.getD j 0 = xj at *
          go_wp2_with fail
          refine CJ.out.mono ?_
          rintro e w2 ⟨rfl, hb⟩
          have B2 := Lib.hid (HR.out.2.trans (hb.mono HR.out.2.size))
          have k0 : w2.cell? ⟨B, O, none⟩ = some (.int .i64 13) := by rw [hb.cell (block_lt_of_cell d0)]; exact d0
          clear hb d0 d2
          go_wp2
          all_goals (
            go_roundw
            case rel => exact ⟨j + 1, max acc xj, by omega, by go_num, by first | rfl | (congr 1; omega), by have := HR.out.1; rw [ST.out] at this; exact this, B2.out⟩
            case measure => (simp [intOf]; omega))
        · have hj1 : ¬ (j : Int) < (m : Int) := by omega
          have RZ : Hid (R0 = acc) := by
            have := HR.out.1
            rw [List.drop_eq_nil_of_le (by rw [LL.out]; omega)] at this
            exact this.symm
          go_wp2
          go_ret
          exact ⟨ret_int RZ.out.symm, HR.out.2⟩
  · obtain rfl := PT.out (by omega)
    have C0 : Hid (∀ w', Below w.heap.size w w' → Calls Try.prog 30 #[.pointer (some ⟨b, o, none⟩), v] w' fun e w'' => e = .returned (.int .i64 (L.getD 0 0)) ∧ Below w'.heap.size w' w'') := fun w' hb => by have := CH.out 0 (by omega) w' hb; simpa using this
    have LB := Lib.hid (getD_i64 L 0 LV.out)
    rcases h719 with rfl | rfl
    · have RQ : Hid (R0 = addV 0 (negV (L.getD 0 0))) := R.out
      clear R CH
      generalize L.getD 0 0 = x0 at *
      obtain ⟨nb, hnb⟩ : ∃ nb, IntKind.i64.wrap (-x0) = nb := ⟨_, rfl⟩
      have HN2 : Hid (i64B nb) := by unfold Hid; rw [← hnb]; exact wrap_i64B _
      have RZ : Hid (R0 = addV 0 nb) := by unfold Hid; rw [RQ.out, ← hnb]; rfl
      clear RQ
      go_enter Try.func30, Try.ntmps30
      go_wp2_with fail
      refine (C0.out w (Below.refl _ _)).mono ?_
      rintro e w1 ⟨rfl, hb⟩
      have B1 := Lib.hid hb
      clear hb
      go_wp2_with (go_at_call 48; refine (fadd_any 0 nb _ (by unfold i64B; decide) HN2.out).mono ?_; rintro e w' ⟨rfl, rfl⟩)
      go_ret
      exact ⟨ret_int RZ.out.symm, B1.out⟩
    · have RQ : Hid (R0 = notV (L.getD 0 0)) := R.out
      clear R CH
      generalize L.getD 0 0 = x0 at *
      obtain ⟨nb, hnb⟩ : ∃ nb, IntKind.i64.wrap (1 - x0) = nb := ⟨_, rfl⟩
      have RZ : Hid (R0 = nb) := by unfold Hid; rw [RQ.out, ← hnb]; rfl
      clear RQ
      go_enter Try.func30, Try.ntmps30
      go_wp2_with fail
      refine (C0.out w (Below.refl _ _)).mono ?_
      rintro e w1 ⟨rfl, hb⟩
      have B1 := Lib.hid hb
      clear hb
      go_wp2
      go_ret
      exact ⟨ret_int RZ.out.symm, B1.out⟩
  · obtain rfl := PT.out (by omega)
    have C0 : Hid (∀ w', Below w.heap.size w w' → Calls Try.prog 30 #[.pointer (some ⟨b, o, none⟩), v] w' fun e w'' => e = .returned (.int .i64 (L.getD 0 0)) ∧ Below w'.heap.size w' w'') := fun w' hb => by have := CH.out 0 (by omega) w' hb; simpa using this
    have C1 : Hid (∀ w', Below w.heap.size w w' → Calls Try.prog 30 #[.pointer (some ⟨b, o + 3, none⟩), v] w' fun e w'' => e = .returned (.int .i64 (L.getD 1 0)) ∧ Below w'.heap.size w' w'') := fun w' hb => CH.out 1 (by omega) w' hb
    have LB0 := Lib.hid (getD_i64 L 0 LV.out)
    have LB1 := Lib.hid (getD_i64 L 1 LV.out)
    have RQ : Hid (R0 = cmbV op (L.getD 0 0) (L.getD 1 0)) := by
      unfold Hid; rw [R.out, if_neg (by omega), if_neg (by omega)]
      unfold opV
      rw [if_neg (by omega), if_neg (by omega), if_neg (by omega), if_neg (by omega), if_neg (by omega), if_neg (by omega)]
    have HO := Lib.hid h2
    have n1 : (op == 1) = false := by simp; omega
    have n6 : (op == 6) = false := by simp; omega
    have n14 : (op == 14) = false := by simp; omega
    have n12 : (op == 12) = false := by simp; omega
    have n13 : (op == 13) = false := by simp; omega
    have n15 : (op == 15) = false := by simp; omega
    have n7 : (op == 7) = false := by simp; omega
    have n19 : (op == 19) = false := by simp; omega
    clear R CH h2
    generalize L.getD 0 0 = x0 at *
    generalize L.getD 1 0 = x1 at *
    have Q0 : Hid (∀ dq os, Calls Try.prog 30 #[.pointer (some ⟨b, o, none⟩), v] (Sort.grow (redrawn w dq) os) fun e w'' => e = .returned (.int .i64 x0) ∧ ∃ p : Regrown, w'' = Sort.grow (redrawn w p.d) p.os) := fun dq os => Calls.regrown_of (C0.out _ (below_regrown w dq os))
    have Q1 : Hid (∀ dq os, Calls Try.prog 30 #[.pointer (some ⟨b, o + 3, none⟩), v] (Sort.grow (redrawn w dq) os) fun e w'' => e = .returned (.int .i64 x1) ∧ ∃ p : Regrown, w'' = Sort.grow (redrawn w p.d) p.os) := fun dq os => Calls.regrown_of (C1.out _ (below_regrown w dq os))
    have Q2 : Hid (∀ dq os, Calls Try.prog 49 #[.int .i64 op, .int .i64 x0, .int .i64 x1] (Sort.grow (redrawn w dq) os) fun e w'' => e = .returned (.int .i64 (cmbV op x0 x1)) ∧ ∃ p : Regrown, w'' = Sort.grow (redrawn w p.d) p.os) := fun dq os => Calls.regrown_of ((combine_any op x0 x1 _ LB0.out LB1.out HO.out).mono fun e w' h => ⟨h.1, by rw [← h.2]; exact Below.refl _ _⟩)
    generalize cmbV op x0 x1 = cv at *
    have e0 := fun d os => cell_regrown c0 d os
    have e2 := fun d os => cell_regrown c2 d os
    go_enter Try.func30, Try.ntmps30
    go_upto_region 27 with (fail)
    refine wp_region_quiet_below (by kernel_rfl) (by kernel_rfl) ?_
    repeat (quiet_step (with_reducible first | exact Q0.out _ _ | exact Q1.out _ _ | exact Q2.out _ _))
    refine wpQuiet_nil ?_
    intro _ hw'
    obtain ⟨⟨dq, osq⟩, hw''⟩ := hw'
    subst hw''
    go_wp2
    go_ret
    exact ⟨ret_int RQ.out.symm, below_regrown w dq osq⟩

end Go.Proofs.Ytfoedbfkddoibaa
