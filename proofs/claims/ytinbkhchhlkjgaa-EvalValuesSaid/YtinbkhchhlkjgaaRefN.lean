/-
  The contracts of the reference's arity, node, ValidateExpr.
-/
import Derived.Test.YtinbkhchhlkjgaaRefS
import Derived.Test.YtinbkhchhlkjgaaNamR
import Derived.Test.YtinbkhchhlkjgaaExpF
namespace Go.Proofs.Ytinbkhchhlkjgaa
set_option linter.unusedVariables false
set_option linter.unusedSimpArgs false
open Go.ChangeShapes Go.WideShapes Go.ChangeAt Go.RowKit
open Go.Deep (BT)

def loA (op : Int) : Int := if 1 ≤ op ∧ op ≤ 6 then 0 else if op = 7 ∨ op = 19 then 1 else if op = 12 ∨ op = 13 then 2 else if op = 14 ∨ op = 15 then 3 else 2
def hiA (op : Int) : Int := if 1 ≤ op ∧ op ≤ 6 then 0 else if op = 7 ∨ op = 19 then 1 else if op = 12 ∨ op = 13 then 200 else if op = 14 ∨ op = 15 then 3 else 2
theorem arg_iff (op n : Int) (h : n ≤ 200) : argB op n = (decide (loA op ≤ n) && decide (n ≤ hiA op)) := by
  unfold argB loA hiA
  (repeat' split) <;> (rw [Bool.eq_iff_iff]; simp only [Bool.and_eq_true, decide_eq_true_eq]; omega)
theorem lohi_bd (op : Int) : 0 ≤ loA op ∧ loA op ≤ 3 ∧ 0 ≤ hiA op ∧ hiA op ≤ 200 := by
  unfold loA hiA; (repeat' split) <;> omega

set_option maxHeartbeats 2000000 in
theorem arity_any (op : Int) (w : World) :
    Calls Try.prog 110 #[.int .i64 op] w fun e w' => e = .returned (.tuple #[.int .i64 (loA op), .int .i64 (hiA op)]) ∧ w = w' := by
  go_enter Try.func110, Try.ntmps110
  go_wp2
  all_goals
    go_ret2
    refine ⟨ret_int2 ?_ ?_, rfl⟩
    all_goals
      go_light
      simp only [beq_iff_eq, beq_eq_false_iff_ne] at *
      first | unfold loA | unfold hiA
      (repeat' split) <;> first | rfl | (exfalso; omega)

def mostA (op : Int) : Int := if op = 1 ∨ op = 2 then 1099511627776 else if op = 3 then 1439 else 0
theorem num_iff (op num : Int) : numB op num = (!decide (num < 0) && !decide (mostA op < num)) := by
  unfold numB mostA
  (repeat' split) <;> (rw [Bool.eq_iff_iff]; simp only [Bool.and_eq_true, decide_eq_true_eq, Bool.not_eq_true', decide_eq_false_iff_not]; omega)

def RndC (b o : Nat) (a : Nd) (k : Fo) : Prop := ∀ (w : World), ExAt w b o a k → ExOk a k → sz k ≤ 200 →
  Calls Try.prog 96 #[.agg #[.int .i64 a.op, .int .i64 a.num, .string a.name, .slice a.ptr (len k) a.cap]] w fun e w' => e = .returned (.bool (wfB a (len k) && wfT k)) ∧ Below w.heap.size w w'

set_option maxHeartbeats 4000000 in
set_option maxRecDepth 100000 in
theorem rnode_any (b o : Nat) (a : Nd) (k : Fo) : RndC b o a k := by
  refine tree_of (P := RndC) ?_ b o a k
  clear b o a k
  intro b o a k ih w hx hok hz
  obtain ⟨op, num, name, ptr, cap⟩ := a
  show Calls Try.prog 96 #[.agg #[.int .i64 op, .int .i64 num, .string name, .slice ptr (len k) cap]] w _
  have IH := Lib.hid ih
  have HX := Lib.hid hx
  have HOK := Lib.hid hok
  have HZ := Lib.hid hz
  have hk : len k ≤ 200 := Nat.le_trans (len_le_sz k) hz
  clear ih hx hok hz
  have hs : name.size ≤ 9223372036854775807 := HOK.out.1.2.2.1
  have F0 := Lib.hid (wf_false0 ⟨op, num, name, ptr, cap⟩ k (len k))
  have F1 := Lib.hid (wf_false1 ⟨op, num, name, ptr, cap⟩ k (len k))
  have F2 := Lib.hid (wf_false2 ⟨op, num, name, ptr, cap⟩ k (len k))
  have F3 := Lib.hid (wf_false3 ⟨op, num, name, ptr, cap⟩ k (len k))
  have FT := Lib.hid (wf_true ⟨op, num, name, ptr, cap⟩ k (len k))
  dsimp only at F0 F1 F2 F3 FT
  generalize (wfB ⟨op, num, name, ptr, cap⟩ (len k) && wfT k) = RES at *
  have AI := Lib.hid (arg_iff op (len k) (by omega))
  by_cases h1 : 1 ≤ op ∧ op ≤ 22
  · have H1 := Lib.hid h1
    obtain ⟨h1, h2⟩ := h1
    obtain ⟨l1, l2, l3, l4⟩ := lohi_bd op
    go_enter Try.func96, Try.ntmps96
    go_wp2_with fail
    refine (arity_any _ _).mono ?_
    generalize loA op = lo at *
    generalize hiA op = hi at *
    rintro e w' ⟨rfl, hw⟩
    subst hw
    by_cases g1 : (len k : Int) < lo
    · have R := Lib.hid (F1.out (by rw [AI.out]; simp; omega))
      go_wp2
      go_ret
      exact ⟨ret_bool R.out.symm, (Below.refl _ _).alloc (Nat.le_refl _) _⟩
    · by_cases g2 : hi < (len k : Int)
      · have R := Lib.hid (F1.out (by rw [AI.out]; simp; omega))
        go_wp2
        go_ret
        exact ⟨ret_bool R.out.symm, (Below.refl _ _).alloc (Nat.le_refl _) _⟩
      · have HA : Hid (argB op (len k) = true) := by unfold Hid; rw [AI.out]; simp; omega
        clear AI
        go_upto_block 0 with (fail)
        go_cut [5] (fun v wx => v = .int .i64 (mostA op) ∧ wx = w.alloc (.cells #[.int .i64 op, .int .i64 num, .string name, .slice ptr (len k) cap] 26))
        case first =>
          go_wp2
          all_goals
            go_meet
            refine ⟨?_, rfl⟩
            go_light
            simp only [beq_iff_eq, beq_eq_false_iff_ne] at *
            unfold mostA
            (repeat' split) <;> first | rfl | (exfalso; omega)
        case rest =>
          obtain ⟨rfl, rfl⟩ := hcut
          have NI := Lib.hid (num_iff op num)
          generalize mostA op = most at *
          go_upto_region 13 with (fail)
          go_cut [69] (fun v wx => v = .bool (!(numB op num && namB op name)) ∧ Hid (Below (w.heap.size + 1) (w.alloc (.cells #[.int .i64 op, .int .i64 num, .string name, .slice ptr (len k) cap] 26)) wx))
          case first =>
            by_cases n1 : num < 0
            · have R : Hid (numB op num = false) := by unfold Hid; rw [NI.out]; simp [n1]
              go_wp2
              go_meet
              exact ⟨by rw [R.out]; rfl, Below.refl _ _⟩
            · by_cases n2 : most < num
              · have R : Hid (numB op num = false) := by unfold Hid; rw [NI.out]; simp [n2]
                go_wp2
                go_meet
                exact ⟨by rw [R.out]; rfl, Below.refl _ _⟩
              · have N : Hid (numB op num = true) := by unfold Hid; rw [NI.out]; simp [n1, n2]
                by_cases h6 : op = 6
                · have b6 : (op == 6) = true := by simp [h6]
                  have d6 : (op != 6) = false := by simp [h6]
                  have A : Hid (namB op name = attrS name) := by unfold Hid namB; rw [if_pos h6]
                  clear h6
                  cases hT : attrS name
                  all_goals
                    have HT := Lib.hid hT
                    clear hT
                    go_wp2_with fail
                    refine (rattr_any _ _ hs).mono ?_
                    rw [HT.out]
                    rintro e w1 ⟨rfl, hb⟩
                    have c0 : w1.cell? ⟨w.heap.size, 0, none⟩ = some (.int .i64 op) := by rw [hb.cell (p := ⟨w.heap.size, 0, none⟩) (by simp)]; simp
                    have B1 := Lib.hid hb
                    clear hb
                    go_wp2
                    go_meet
                    exact ⟨by rw [N.out, A.out, HT.out]; rfl, B1.out.mono (by simp)⟩
                · have b6 : (op == 6) = false := by simp [h6]
                  have d6 : (op != 6) = true := by simp [h6]
                  have A : Hid (namB op name = decide (name.size = 0)) := by unfold Hid namB; rw [if_neg h6]
                  have E := empty_iff name
                  rw [← E] at A
                  clear h6 E
                  cases e1 : name.toList.isEmpty
                  · have E1 := Lib.hid e1
                    have e2 : (!name.toList.isEmpty) = true := by rw [e1]; rfl
                    go_wp2
                    go_meet
                    exact ⟨by rw [N.out, A.out, E1.out]; rfl, Below.refl _ _⟩
                  · have E1 := Lib.hid e1
                    have e2 : (!name.toList.isEmpty) = false := by rw [e1]; rfl
                    go_wp2
                    go_meet
                    exact ⟨by rw [N.out, A.out, E1.out]; rfl, Below.refl _ _⟩
          case rest =>
            obtain ⟨rfl, HB⟩ := hcut
            have BW : Hid (Below w.heap.size w wc) := ((Below.refl _ _).alloc (Nat.le_refl _) _).trans (HB.out.mono (by omega))
            cases hg : (numB op num && namB op name)
            · have R : Hid (RES = false) := by
                cases q : numB op num
                · exact F2.out q
                · rw [q] at hg; exact F3.out hg
              clear hg
              go_wp2
              go_ret
              exact ⟨ret_bool R.out.symm, BW.out⟩
            · rw [Bool.and_eq_true] at hg
              have R := Lib.hid (FT.out H1.out HA.out hg.1 hg.2)
              clear hg
              have hc3 : wc.cell? ⟨w.heap.size, 3, none⟩ = some (.slice ptr (len k) cap) := by
                rw [HB.out.cell (p := ⟨w.heap.size, 3, none⟩) (by simp)]; simp
              have hsz : w.heap.size < wc.heap.size := by have := HB.out.size; simp at this; omega
              have XW := Lib.hid (HX.out.next BW.out)
              clear F0 F1 F2 F3 FT HA H1 h1 h2 HB NI
              rw [show (!true) = false from rfl]
              go_wp2_with fail
              go_loopw [6] (fun i wr => ∃ (j : Nat) (r : Fo), i = .int .i64 j ∧ wr.cell? ⟨w.heap.size, 3, none⟩ = some (.slice ptr (len k) cap) ∧ w.heap.size < wr.heap.size ∧
                Hid (j + len r = len k ∧ FoAt wr r b (o + j * 4) ∧ FoOk r ∧ AllT RndC r ∧ Below w.heap.size w wr ∧ RES = wfT r ∧ sz r ≤ 200)) (fun i _ => len k - (intOf i).toNat)
              case atStart =>
                exact ⟨0, k, rfl, hc3, hsz, by omega, by rw [Nat.zero_mul, Nat.add_zero]; exact XW.out.2, HOK.out.2, IH.out, BW.out, R.out, HZ.out⟩
              case round =>
                clear hc3 hsz
                obtain ⟨j, r, rfl, hc, hsz, HR⟩ := hrel
                cases r with
                | nil =>
                  have hj : ¬ (j : Int) < (len k : Int) := by have := HR.out.1; simp [len] at this; omega
                  go_wp2
                  go_ret
                  exact ⟨ret_bool (by rw [HR.out.2.2.2.2.2.1]; rfl), HR.out.2.2.2.2.1⟩
                | node b1 o1 a1 k1 r1 =>
                  have hj : j < len k := by have := HR.out.1; simp [len] at this; omega
                  obtain rfl : ptr = some ⟨b, o, none⟩ := HX.out.1 (by rintro rfl; simp [len] at hj)
                  obtain ⟨⟨c0, c1, c2, c3⟩, hp1, hk1, hr1⟩ := HR.out.2.1
                  have X1 : Hid (ExAt wr b1 o1 a1 k1) := ⟨hp1, hk1⟩
                  have N1 := Lib.hid hr1
                  clear hp1 hk1 hr1
                  have hj1 : (j : Int) < (len k : Int) := by omega
                  have ZZ : Hid (sz k1 ≤ 200 ∧ sz r1 ≤ 200) := by
                    have e1 : sz (BT.node b1 o1 a1 k1 r1) = 1 + sz k1 + sz r1 := rfl
                    have := HR.out.2.2.2.2.2.2
                    rw [e1] at this
                    exact ⟨by omega, by omega⟩
                  go_wp2_with fail
                  refine (HR.out.2.2.2.1.1 _ X1.out ⟨HR.out.2.2.1.1, HR.out.2.2.1.2.1⟩ ZZ.out.1).mono ?_
                  rintro e w1 ⟨he, hb⟩
                  have hc' : w1.cell? ⟨w.heap.size, 3, none⟩ = some (.slice (some ⟨b, o, none⟩) (len k) cap) := by
                    rw [hb.cell (p := ⟨w.heap.size, 3, none⟩) hsz, hc]
                  have hz' : w.heap.size < w1.heap.size := Nat.lt_of_lt_of_le hsz hb.size
                  have B1 := Lib.hid hb
                  have Z : Hid (RES = ((wfB a1 (len k1) && wfT k1) && wfT r1)) := HR.out.2.2.2.2.2.1
                  clear hb c0 c1 c2 c3 hc hsz
                  generalize (wfB a1 (len k1) && wfT k1) = y at *
                  subst he
                  cases y
                  · go_wp2
                    go_ret
                    exact ⟨ret_bool (by rw [Z.out]; rfl), HR.out.2.2.2.2.1.trans (B1.out.mono HR.out.2.2.2.2.1.size)⟩
                  · go_wp2
                    go_roundw
                    case rel =>
                      obtain ⟨q1, -, q3, q4, q5, -, -⟩ := HR.out
                      simp [len] at q1
                      refine ⟨j + 1, r1, by go_num, hc', hz', by omega, ?_, q3.2.2, q4.2, q5.trans (B1.out.mono q5.size), by rw [Z.out]; rfl, ZZ.out.2⟩
                      rw [Nat.add_mul, Nat.one_mul, ← Nat.add_assoc]; exact N1.out.next B1.out
                    case measure => simp [intOf]; omega
  · have R := Lib.hid (F0.out h1)
    have h2 : op < 1 ∨ 22 < op := by omega
    rcases h2 with h2 | h2
    · go_enter Try.func96, Try.ntmps96
      go_wp2
      go_ret
      exact ⟨ret_bool R.out.symm, (Below.refl _ _).alloc (Nat.le_refl _) _⟩
    · have h3 : ¬ op < 1 := by omega
      clear h1
      go_enter Try.func96, Try.ntmps96
      go_wp2
      go_ret
      exact ⟨ret_bool R.out.symm, (Below.refl _ _).alloc (Nat.le_refl _) _⟩

set_option maxHeartbeats 1000000 in
theorem rSize_any (b o : Nat) (op num : Int) (name : ByteArray) (ptr : Option Addr) (cap : Nat) (k : Fo) (w : World) (hx : ExAt w b o ⟨op, num, name, ptr, cap⟩ k) (hok : ExOk ⟨op, num, name, ptr, cap⟩ k) :
    Calls Try.prog 95 #[.agg #[.int .i64 op, .int .i64 num, .string name, .slice ptr (len k) cap]] w (RszPost w 1 k) := by
  have B0 : Below w.heap.size w (w.alloc (.cells #[.int .i64 op, .int .i64 num, .string name, .slice ptr (len k) cap] 26)) := (Below.refl _ _).alloc (Nat.le_refl _) _
  have C := rsz_any b o ⟨op, num, name, ptr, cap⟩ k _ 1 (hx.next B0) hok (by omega) (by omega)
  have HC := Lib.hid C
  have HB := Lib.hid B0
  clear C B0 hx hok
  go_enter Try.func95, Try.ntmps95
  go_wp2_with fail
  refine HC.out.mono ?_
  rintro e w1 ⟨n, d, rfl, n2, n3, n4, n5, n6, n7, hb⟩
  have K := Lib.hid (And.intro n6 n7)
  have B1 := Lib.hid (HB.out.trans (hb.mono (by simp)))
  clear n6 n7 hb
  go_wp2
  go_ret2
  exact ⟨n, d, rfl, n2, n3, n4, n5, K.out.1, K.out.2, B1.out⟩

set_option maxHeartbeats 1000000 in
theorem rvexpr_any (b o : Nat) (op num : Int) (name : ByteArray) (ptr : Option Addr) (cap : Nat) (k : Fo) (w : World) (hx : ExAt w b o ⟨op, num, name, ptr, cap⟩ k) (hok : ExOk ⟨op, num, name, ptr, cap⟩ k) :
    Calls Try.prog 75 #[.agg #[.int .i64 op, .int .i64 num, .string name, .slice ptr (len k) cap]] w fun e w' => e = .returned (.int .i64 (valE ⟨op, num, name, ptr, cap⟩ k)) ∧ Below w.heap.size w w' := by
  have B0 : Below w.heap.size w (w.alloc (.cells #[.int .i64 op, .int .i64 num, .string name, .slice ptr (len k) cap] 26)) := (Below.refl _ _).alloc (Nat.le_refl _) _
  have C := rSize_any b o op num name ptr cap k _ (hx.next B0) hok
  have HC := Lib.hid C
  have HB := Lib.hid B0
  have HX := Lib.hid hx
  have HOK := Lib.hid hok
  clear C B0 hx hok
  have V : Hid (valE ⟨op, num, name, ptr, cap⟩ k = if fitB 0 1 k = true then (if (wfB ⟨op, num, name, ptr, cap⟩ (len k) && wfT k) = true then 0 else 1) else 10) := rfl
  go_enter Try.func75, Try.ntmps75
  go_wp2_with fail
  refine HC.out.mono ?_
  rintro e w1 ⟨n, d, rfl, n2, n3, n4, n5, n6, n7, hb⟩
  have F : Hid (fitB 0 1 k = decide (n ≤ 200 ∧ d ≤ 16)) := by
    unfold Hid fitB
    rw [Bool.eq_iff_iff, decide_eq_true_eq, decide_eq_true_eq]
    omega
  have Z : Hid (fitB 0 1 k = true → sz k ≤ 200) := by
    intro q; unfold fitB at q; rw [decide_eq_true_eq] at q; omega
  have B1 : Below w.heap.size w w1 := HB.out.trans (hb.mono (by simp))
  have hc : ∀ j v, (#[Value.int .i64 op, .int .i64 num, .string name, .slice ptr (len k) cap] : Array Value)[j]? = some v → w1.cell? ⟨w.heap.size, j, none⟩ = some v := by
    intro j v hv
    rw [hb.cell (p := ⟨w.heap.size, j, none⟩) (by simp)]; simp [hv]
  have c0 := hc 0 _ rfl
  have c1 := hc 1 _ rfl
  have c2 := hc 2 _ rfl
  have c3 := hc 3 _ rfl
  clear n6 n7 hb hc HC
  by_cases h1 : 200 < n
  · have HF : Hid (fitB 0 1 k = false) := by unfold Hid; rw [F.out]; simp; omega
    go_wp2
    go_ret
    exact ⟨ret_int (by rw [V.out, HF.out]; rfl), B1⟩
  · by_cases h2 : 16 < d
    · have HF : Hid (fitB 0 1 k = false) := by unfold Hid; rw [F.out]; simp; omega
      go_wp2
      go_ret
      exact ⟨ret_int (by rw [V.out, HF.out]; rfl), B1⟩
    · have HF : Hid (fitB 0 1 k = true) := by unfold Hid; rw [F.out]; simp; omega
      have C2 := rnode_any b o ⟨op, num, name, ptr, cap⟩ k w1 (HX.out.next B1) HOK.out (Z.out HF.out)
      have HW := Lib.hid C2
      clear C2 Z F
      generalize (wfB ⟨op, num, name, ptr, cap⟩ (len k) && wfT k) = y at *
      go_wp2_with fail
      refine HW.out.mono ?_
      rintro e w2 ⟨rfl, hb⟩
      have B2 := B1.trans (hb.mono B1.size)
      clear hb c0 c1 c2 c3
      cases y
      · go_wp2
        go_ret
        exact ⟨ret_int (by rw [V.out, HF.out]; rfl), B2⟩
      · go_wp2
        go_ret
        exact ⟨ret_int (by rw [V.out, HF.out]; rfl), B2⟩

end Go.Proofs.Ytinbkhchhlkjgaa
