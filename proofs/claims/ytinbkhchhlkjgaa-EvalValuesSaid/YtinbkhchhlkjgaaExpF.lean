/-
  The contracts of the program's argsFit, wellFormed, ValidateExpr.
-/
import Derived.Test.YtinbkhchhlkjgaaExpV
import Derived.Test.YtinbkhchhlkjgaaNam
namespace Go.Proofs.Ytinbkhchhlkjgaa
set_option linter.unusedVariables false
set_option linter.unusedSimpArgs false
open Go.ChangeShapes Go.WideShapes Go.ChangeAt Go.RowKit
open Go.Deep (BT)

set_option maxHeartbeats 2000000 in
theorem argsfit_any (op n : Int) (w : World) :
    Calls Try.prog 115 #[.int .i64 op, .int .i64 n] w fun e w' => e = .returned (.bool (argB op n)) ∧ w = w' := by
  go_enter Try.func115, Try.ntmps115
  go_wp2
  all_goals
    go_ret
    refine ⟨ret_bool ?_, rfl⟩
    simp only [beq_iff_eq, beq_eq_false_iff_ne] at *
    unfold argB
    (repeat' split) <;> first | (exfalso; omega) | rfl | (rw [Bool.eq_iff_iff]; simp)

def WfC (b o : Nat) (a : Nd) (k : Fo) : Prop := ∀ (w : World), ExAt w b o a k → ExOk a k →
  Calls Try.prog 105 #[.agg #[.int .i64 a.op, .int .i64 a.num, .string a.name, .slice a.ptr (len k) a.cap]] w fun e w' => e = .returned (.bool (wfB a (len k) && wfT k)) ∧ Below w.heap.size w w'

theorem wf_false1 (a : Nd) (k : Fo) (n : Int) (h : argB a.op n = false) : (wfB a n && wfT k) = false := by unfold wfB; rw [h]; simp
theorem wf_false2 (a : Nd) (k : Fo) (n : Int) (h : numB a.op a.num = false) : (wfB a n && wfT k) = false := by unfold wfB; rw [h]; simp
theorem wf_false3 (a : Nd) (k : Fo) (n : Int) (h : namB a.op a.name = false) : (wfB a n && wfT k) = false := by unfold wfB; rw [h]; simp
theorem wf_false0 (a : Nd) (k : Fo) (n : Int) (h : ¬ (1 ≤ a.op ∧ a.op ≤ 22)) : (wfB a n && wfT k) = false := by unfold wfB; rw [decide_eq_false h]; simp
theorem wf_true (a : Nd) (k : Fo) (n : Int) (h0 : 1 ≤ a.op ∧ a.op ≤ 22) (h1 : argB a.op n = true) (h2 : numB a.op a.num = true) (h3 : namB a.op a.name = true) : (wfB a n && wfT k) = wfT k := by unfold wfB; rw [decide_eq_true h0, h1, h2, h3]; simp
theorem empty_iff (s : ByteArray) : s.toList.isEmpty = decide (s.size = 0) := by
  rw [Lib.toList_data, ← len_at]
  cases s.data.toList <;> simp

set_option maxHeartbeats 4000000 in
set_option maxRecDepth 100000 in
theorem wf_any (b o : Nat) (a : Nd) (k : Fo) : WfC b o a k := by
  refine tree_of (P := WfC) ?_ b o a k
  clear b o a k
  intro b o a k ih w hx hok
  obtain ⟨op, num, name, ptr, cap⟩ := a
  show Calls Try.prog 105 #[.agg #[.int .i64 op, .int .i64 num, .string name, .slice ptr (len k) cap]] w _
  have IH := Lib.hid ih
  have HX := Lib.hid hx
  have HOK := Lib.hid hok
  clear ih hx hok
  have hk : len k ≤ 9223372036854775807 := HOK.out.1.2.2.2
  have hs : name.size ≤ 9223372036854775807 := HOK.out.1.2.2.1
  have F0 := Lib.hid (wf_false0 ⟨op, num, name, ptr, cap⟩ k (len k))
  have F1 := Lib.hid (wf_false1 ⟨op, num, name, ptr, cap⟩ k (len k))
  have F2 := Lib.hid (wf_false2 ⟨op, num, name, ptr, cap⟩ k (len k))
  have F3 := Lib.hid (wf_false3 ⟨op, num, name, ptr, cap⟩ k (len k))
  have FT := Lib.hid (wf_true ⟨op, num, name, ptr, cap⟩ k (len k))
  dsimp only at F0 F1 F2 F3 FT
  generalize (wfB ⟨op, num, name, ptr, cap⟩ (len k) && wfT k) = RES at *
  by_cases h1 : 1 ≤ op ∧ op ≤ 22
  · cases hA : argB op (len k)
    · have R := Lib.hid (F1.out hA)
      have HA := Lib.hid hA
      clear hA
      obtain ⟨h1, h2⟩ := h1
      go_enter Try.func105, Try.ntmps105
      go_wp2_with (go_at_call 115; refine (argsfit_any _ _ _).mono ?_; rw [HA.out]; rintro e w' ⟨rfl, rfl⟩)
      go_ret
      exact ⟨ret_bool R.out.symm, (Below.refl _ _).alloc (Nat.le_refl _) _⟩
    · have HA := Lib.hid hA
      have H1 := Lib.hid h1
      clear hA
      obtain ⟨h1, h2⟩ := h1
      go_enter Try.func105, Try.ntmps105
      go_upto_block 0 with (go_at_call 115; refine (argsfit_any _ _ _).mono ?_; rw [HA.out]; rintro e w' ⟨rfl, rfl⟩)
      go_cut [2] (fun v wx => v = .bool false ∧ wx = w.alloc (.cells #[.int .i64 op, .int .i64 num, .string name, .slice ptr (len k) cap] 26) ∧ Hid (numB op num = true))
      case first =>
        go_wp2
        all_goals first
          | (go_ret
             refine ⟨ret_bool (F2.out ?_).symm, (Below.refl _ _).alloc (Nat.le_refl _) _⟩
             go_light
             simp only [beq_iff_eq, beq_eq_false_iff_ne, bne_iff_ne] at *
             unfold numB
             (repeat' split) <;> first | (exfalso; omega) | (simp only [decide_eq_false_iff_not]; omega))
          | (go_meet
             refine ⟨rfl, rfl, ?_⟩
             go_light
             simp only [beq_iff_eq, beq_eq_false_iff_ne, bne_eq_false_iff_eq] at *
             unfold Hid numB
             (repeat' split) <;> first | (exfalso; omega) | (simp only [decide_eq_true_eq]; omega))
      case rest =>
        obtain ⟨rfl, rfl, HN⟩ := hcut
        go_upto_if 50 with (fail)
        go_cut [2] (fun v wx => v = .bool false ∧ Hid (Below (w.heap.size + 1) (w.alloc (.cells #[.int .i64 op, .int .i64 num, .string name, .slice ptr (len k) cap] 26)) wx ∧ namB op name = true))
        case first =>
          by_cases h6 : op = 6
          · have b6 : (op == 6) = true := by simp [h6]
            cases hT : attrS name
            · have R := Lib.hid (F3.out (by unfold namB; rw [if_pos h6]; exact hT))
              have HT := Lib.hid hT
              clear hT h6
              go_wp2_with (go_at_call 116; refine (isattr_any _ _ hs).mono ?_; rw [HT.out]; rintro e w1 ⟨rfl, hb⟩)
              go_ret
              exact ⟨ret_bool R.out.symm, ((Below.refl _ _).alloc (Nat.le_refl _) _).trans (hb.mono (by simp))⟩
            · have R : Hid (namB op name = true) := by unfold Hid namB; rw [if_pos h6]; exact hT
              have HT := Lib.hid hT
              clear hT h6
              go_wp2_with (go_at_call 116; refine (isattr_any _ _ hs).mono ?_; rw [HT.out]; rintro e w1 ⟨rfl, hb⟩)
              go_meet
              exact ⟨rfl, hb.mono (by simp), R.out⟩
          · have b6 : (op == 6) = false := by simp [h6]
            have E := empty_iff name
            by_cases h0 : name.size = 0
            · have e1 : name.toList.isEmpty = true := by rw [E]; simp [h0]
              have e2 : (!name.toList.isEmpty) = false := by rw [e1]; rfl
              have R : Hid (namB op name = true) := by unfold Hid namB; rw [if_neg h6]; simp [h0]
              clear E h0 h6
              go_wp2
              go_meet
              exact ⟨rfl, Below.refl _ _, R.out⟩
            · have e1 : name.toList.isEmpty = false := by rw [E]; simp [h0]
              have e2 : (!name.toList.isEmpty) = true := by rw [e1]; rfl
              have R := Lib.hid (F3.out (by unfold namB; rw [if_neg h6]; simp [h0]))
              clear E h0 h6
              go_wp2
              go_ret
              exact ⟨ret_bool R.out.symm, (Below.refl _ _).alloc (Nat.le_refl _) _⟩
        case rest =>
          obtain ⟨rfl, HB⟩ := hcut
          have R := Lib.hid (FT.out H1.out HA.out HN.out HB.out.2)
          have hc3 : wc.cell? ⟨w.heap.size, 3, none⟩ = some (.slice ptr (len k) cap) := by
            rw [HB.out.1.cell (p := ⟨w.heap.size, 3, none⟩) (by simp)]; simp
          have BW : Hid (Below w.heap.size w wc) := ((Below.refl _ _).alloc (Nat.le_refl _) _).trans (HB.out.1.mono (by omega))
          have XW := Lib.hid (HX.out.next BW.out)
          clear F0 F1 F2 F3 FT HN HA H1 h1 h2 HB
          go_wp2_with fail
          go_loopw [4, 61] (fun _ i wr => ∃ (j : Nat) (r : Fo), i = .int .i64 j ∧
            Hid (j + len r = len k ∧ FoAt wr r b (o + j * 4) ∧ FoOk r ∧ AllT WfC r ∧ Below w.heap.size w wr ∧ RES = wfT r)) (fun _ i _ => len k - (intOf i).toNat)
          case atStart =>
            exact ⟨0, k, rfl, by omega, by rw [Nat.zero_mul, Nat.add_zero]; exact XW.out.2, HOK.out.2, IH.out, BW.out, R.out⟩
          case round =>
            obtain ⟨j, r, rfl, HR⟩ := hrel
            cases r with
            | nil =>
              have hj : ¬ (j : Int) < (len k : Int) := by have := HR.out.1; simp [len] at this; omega
              go_wp2
              go_ret
              exact ⟨ret_bool (by rw [HR.out.2.2.2.2.2]; rfl), HR.out.2.2.2.2.1⟩
            | node b1 o1 a1 k1 r1 =>
              have hj : j < len k := by have := HR.out.1; simp [len] at this; omega
              obtain rfl : ptr = some ⟨b, o, none⟩ := HX.out.1 (by rintro rfl; simp [len] at hj)
              obtain ⟨⟨c0, c1, c2, c3⟩, hp1, hk1, hr1⟩ := HR.out.2.1
              have X1 : Hid (ExAt wr b1 o1 a1 k1) := ⟨hp1, hk1⟩
              have N1 := Lib.hid hr1
              clear hp1 hk1 hr1
              have hj1 : (j : Int) < (len k : Int) := by omega
              have hbw := block_lt_of_cell c0
              simp at hbw
              go_wp2_with fail
              refine (HR.out.2.2.2.1.1 _ (X1.out.next ((Below.refl _ _).alloc (Nat.le_refl _) _)) ⟨HR.out.2.2.1.1, HR.out.2.2.1.2.1⟩).mono ?_
              rintro e w1 ⟨he, hb⟩
              have B1 : Hid (Below wr.heap.size wr w1) := ((Below.refl _ _).alloc (Nat.le_refl _) _).trans (hb.mono (by simp))
              have Z : Hid (RES = ((wfB a1 (len k1) && wfT k1) && wfT r1)) := HR.out.2.2.2.2.2
              clear hb c0 c1 c2 c3
              generalize (wfB a1 (len k1) && wfT k1) = y at *
              subst he
              cases y
              · go_wp2
                go_ret
                exact ⟨ret_bool (by rw [Z.out]; rfl), HR.out.2.2.2.2.1.trans (B1.out.mono HR.out.2.2.2.2.1.size)⟩
              · go_wp2
                go_roundw
                case rel =>
                  obtain ⟨q1, -, q3, q4, q5, -⟩ := HR.out
                  simp [len] at q1
                  refine ⟨j + 1, r1, by go_num, by omega, ?_, q3.2.2, q4.2, q5.trans (B1.out.mono q5.size), by rw [Z.out]; rfl⟩
                  rw [Nat.add_mul, Nat.one_mul, ← Nat.add_assoc]; exact N1.out.next B1.out
                case measure => simp [intOf]; omega
  · have R := Lib.hid (F0.out h1)
    have h2 : op < 1 ∨ 22 < op := by omega
    rcases h2 with h2 | h2
    · go_enter Try.func105, Try.ntmps105
      go_wp2
      go_ret
      exact ⟨ret_bool R.out.symm, (Below.refl _ _).alloc (Nat.le_refl _) _⟩
    · have h3 : ¬ op < 1 := by omega
      clear h1
      go_enter Try.func105, Try.ntmps105
      go_wp2
      go_ret
      exact ⟨ret_bool R.out.symm, (Below.refl _ _).alloc (Nat.le_refl _) _⟩

end Go.Proofs.Ytinbkhchhlkjgaa
