/-
  The contract of the program's fits.
-/
import Derived.Test.YtinbkhchhlkjgaaExpW
namespace Go.Proofs.Ytinbkhchhlkjgaa
set_option linter.unusedVariables false
set_option linter.unusedSimpArgs false
open Go.ChangeShapes Go.WideShapes Go.ChangeAt Go.RowKit
open Go.Deep (BT)

theorem gb_refl (w : World) (row : Option Nat) : w.grownBy w row := ⟨rfl, rfl, rfl, Nat.le_refl _, fun _ _ _ => rfl⟩
theorem gb_trans {a b c : World} {row : Option Nat} (h : a.grownBy b row) (g : b.grownBy c row) : a.grownBy c row :=
  ⟨g.os.trans h.os, g.tape.trans h.tape, g.output.trans h.output, Nat.le_trans h.size g.size, fun k hk hr => (g.block k (Nat.lt_of_lt_of_le hk h.size) hr).trans (h.block k hk hr)⟩
theorem gb_alloc {a b : World} {row : Option Nat} (h : a.grownBy b row) (o : Obj) : a.grownBy (b.alloc o) row := gb_trans h (World.grownBy_alloc _ _ _)
theorem gb_setCell {a b : World} {p : Addr} (h : a.grownBy b (some p.block)) (u : Value) : a.grownBy (b.setCell p u) (some p.block) :=
  gb_trans h ⟨rfl, rfl, rfl, by simp [World.setCell], fun k hk hr => Below.heap_setCell _ _ _ _ (fun e => hr (by rw [e]))⟩
theorem gb_drew {a b : World} {row : Option Nat} (h : a.grownBy b row) : a.grownBy b.drew row := ⟨h.os, h.tape, h.output, h.size, h.block⟩
theorem gb_below {a b : World} {nb : Nat} (h : a.grownBy b (some nb)) (hn : nb ≤ a.heap.size) : Below nb a b :=
  ⟨h.os, h.tape, h.output, h.size, fun k hk => h.block k (by omega) (by simp; omega)⟩
theorem gb_of_below {a b : World} (h : Below a.heap.size a b) (row : Option Nat) : a.grownBy b row := ⟨h.os, h.tape, h.output, h.size, fun k hk _ => h.block k hk⟩
theorem FoAt.grown {w w' : World} {T : Fo} {B O nb : Nat} (h : FoAt w T B O) (hl : FoLt nb T B) (hg : w.grownBy w' (some nb)) : FoAt w' T B O := by
  induction T generalizing B O with
  | nil => trivial
  | node b o a k r ihk ihr =>
    obtain ⟨⟨h0, h1, h2, h3⟩, hp, hk, hr⟩ := h
    obtain ⟨l0, lk, lr⟩ := hl
    have hne : some B ≠ some nb := by simp; omega
    exact ⟨⟨hg.cell h0 hne, hg.cell h1 hne, hg.cell h2 hne, hg.cell h3 hne⟩, hp, ihk hk lk, ihr hr lr⟩

/-- What fits leaves: its answer; where it says yes, the count of the nodes. -/
def FitPost (w : World) (nb : Nat) (n lv : Int) (k : Fo) (e : Ending) (w' : World) : Prop :=
  e = .returned (.bool (fitB n lv k)) ∧ (fitB n lv k = true → w'.cell? ⟨nb, 0, none⟩ = some (.int .i64 (n + 1 + sz k))) ∧ w'.frozen? ⟨nb, 0, none⟩ = false ∧ w.grownBy w' (some nb)
def FitC (b o : Nat) (a : Nd) (k : Fo) : Prop := ∀ (w : World) (nb : Nat) (n lv : Int), ExAt w b o a k → ExOk a k → FoLt nb k b → w.cell? ⟨nb, 0, none⟩ = some (.int .i64 n) → w.frozen? ⟨nb, 0, none⟩ = false → 0 ≤ n → n ≤ 200 → 1 ≤ lv → lv ≤ 17 →
  Calls Try.prog 104 #[.agg #[.int .i64 a.op, .int .i64 a.num, .string a.name, .slice a.ptr (len k) a.cap], .int .i64 lv, .pointer (some ⟨nb, 0, none⟩)] w (FitPost w nb n lv k)

theorem fit_step (n lv m : Int) (k k1 r1 : Fo) (b1 o1 : Nat) (a1 : Nd) (h : fitB n lv k = decide (m + sz (BT.node b1 o1 a1 k1 r1) ≤ 200 ∧ lv + dp (BT.node b1 o1 a1 k1 r1) ≤ 16)) :
    (fitB m (lv + 1) k1 = false → fitB n lv k = false) ∧ (fitB m (lv + 1) k1 = true → fitB n lv k = decide (m + 1 + sz k1 + sz r1 ≤ 200 ∧ lv + dp r1 ≤ 16) ∧ m + 1 + sz k1 ≤ 200) := by
  have e1 : sz (BT.node b1 o1 a1 k1 r1) = 1 + sz k1 + sz r1 := rfl
  have e2 : dp (BT.node b1 o1 a1 k1 r1) = max (1 + dp k1) (dp r1) := rfl
  rw [h, e1, e2]
  unfold fitB
  constructor
  · intro q
    rw [decide_eq_false_iff_not] at q ⊢
    omega
  · intro q
    rw [decide_eq_true_eq] at q
    refine ⟨?_, by omega⟩
    rw [Bool.eq_iff_iff, decide_eq_true_eq, decide_eq_true_eq]
    omega

set_option maxHeartbeats 2000000 in
set_option maxRecDepth 100000 in
theorem fits_any (b o : Nat) (a : Nd) (k : Fo) : FitC b o a k := by
  refine tree_of (P := FitC) ?_ b o a k
  clear b o a k
  intro b o a k ih w nb n lv hx hok hlt hc hf h0 h1 h2 h3
  have IH := Lib.hid ih
  have HX := Lib.hid hx
  have HOK := Lib.hid hok
  have HL := Lib.hid hlt
  clear ih hx hok hlt
  have hk : len k ≤ 9223372036854775807 := HOK.out.1.2.2.2
  have hnb := block_lt_of_cell hc
  simp at hnb
  obtain ⟨op, num, name, ptr, cap⟩ := a
  show Calls Try.prog 104 #[.agg #[.int .i64 op, .int .i64 num, .string name, .slice ptr (len k) cap], .int .i64 lv, .pointer (some ⟨nb, 0, none⟩)] w _
  by_cases hn : n + 1 ≤ 200
  · by_cases hv : lv ≤ 16
    · go_enter Try.func104, Try.ntmps104
      go_wp2_with fail
      go_loopw [25] (fun i wr => ∃ (j : Nat) (r : Fo) (m : Int), i = .int .i64 j ∧ wr.cell? ⟨nb, 0, none⟩ = some (.int .i64 m) ∧ wr.frozen? ⟨nb, 0, none⟩ = false ∧ 0 ≤ m ∧ m ≤ 200 ∧ nb < wr.heap.size ∧
        Hid (j + len r = len k ∧ FoAt wr r b (o + j * 4) ∧ FoOk r ∧ AllT FitC r ∧ FoLt nb r b ∧ w.grownBy wr (some nb) ∧ fitB n lv k = decide (m + sz r ≤ 200 ∧ lv + dp r ≤ 16) ∧ m + sz r = n + 1 + sz k)) (fun i _ => len k - (intOf i).toNat)
      case atStart =>
        have G : w.grownBy ((w.setCell ⟨nb, 0, none⟩ (.int .i64 (n + 1))).alloc (.cells #[.int .i64 op, .int .i64 num, .string name, .slice ptr (len k) cap] 26)) (some nb) := gb_alloc (gb_setCell (p := ⟨nb, 0, none⟩) (gb_refl _ _) _) _
        refine ⟨0, k, n + 1, rfl, by simp [go_sem, hc, hnb], by simp [go_sem, hf, hnb], by omega, by omega, by simp; omega, by omega, ?_, HOK.out.2, IH.out, HL.out, G, ?_, rfl⟩
        · rw [Nat.zero_mul, Nat.add_zero]
          exact HX.out.2.grown HL.out G
        · rfl
      case round =>
        obtain ⟨j, r, m, rfl, hcm, hfm, hm0, hm1, hnr, HR⟩ := hrel
        cases r with
        | nil =>
          have hj : ¬ (j : Int) < (len k : Int) := by have := HR.out.1; simp [len] at this; omega
          go_wp2
          go_ret
          obtain ⟨-, -, -, -, -, q1, q2, q3⟩ := HR.out
          have q4 : fitB n lv k = true := by rw [q2]; simp [sz, dp]; omega
          have q5 : m = n + 1 + sz k := by simp [sz] at q3; omega
          exact ⟨ret_bool q4.symm, fun _ => by rw [hcm, q5], hfm, q1⟩
        | node b1 o1 a1 k1 r1 =>
          have hj : j < len k := by have := HR.out.1; simp [len] at this; omega
          obtain rfl : ptr = some ⟨b, o, none⟩ := HX.out.1 (by rintro rfl; simp [len] at hj)
          obtain ⟨⟨c0, c1, c2, c3⟩, hp1, hk1, hr1⟩ := HR.out.2.1
          have X1 : Hid (ExAt wr b1 o1 a1 k1) := ⟨hp1, hk1⟩
          have N1 := Lib.hid hr1
          clear hp1 hk1 hr1
          have hj1 : (j : Int) < (len k : Int) := by omega
          have hbw := block_lt_of_cell c0
          simp at hbw
          have hst := fit_step n lv m k k1 r1 b1 o1 a1 HR.out.2.2.2.2.2.2.1
          have ST := Lib.hid hst
          clear hst
          go_wp2_with fail
          have X2 : ExAt (wr.alloc (.cells #[.int .i64 a1.op, .int .i64 a1.num, .string a1.name, .slice a1.ptr (len k1) a1.cap] 26)) b1 o1 a1 k1 := X1.out.next ((Below.refl _ _).alloc (Nat.le_refl _) _)
          have hcm' : (wr.alloc (.cells #[.int .i64 a1.op, .int .i64 a1.num, .string a1.name, .slice a1.ptr (len k1) a1.cap] 26)).cell? ⟨nb, 0, none⟩ = some (.int .i64 m) := by simp [go_sem, hcm, hnr]
          have hfm' : (wr.alloc (.cells #[.int .i64 a1.op, .int .i64 a1.num, .string a1.name, .slice a1.ptr (len k1) a1.cap] 26)).frozen? ⟨nb, 0, none⟩ = false := by simp [go_sem, hfm, hnr]
          refine (HR.out.2.2.2.1.1 _ nb m (lv + 1) X2 ⟨HR.out.2.2.1.1, HR.out.2.2.1.2.1⟩ HR.out.2.2.2.2.1.2.1 hcm' hfm' hm0 hm1 (by omega) (by omega)).mono ?_
          clear hcm' hfm' X2
          rintro e w1 ⟨he, hcell, hf1, hg1⟩
          cases hfit : fitB m (lv + 1) k1
          · rw [hfit] at he
            subst he
            have ff := ST.out.1 hfit
            have FF := Lib.hid ff
            clear ff hfit hcell
            have G1 := Lib.hid (gb_trans (gb_alloc HR.out.2.2.2.2.2.1 _) hg1)
            clear hg1 c0 c1 c2 c3
            go_wp2
            go_ret
            exact ⟨ret_bool FF.out.symm, fun q => by (rw [FF.out] at q; cases q), hf1, G1.out⟩
          · have hcell' := hcell hfit
            rw [hfit] at he
            subst he
            have ff := ST.out.2 hfit
            have FF := Lib.hid ff
            have HF := Lib.hid hfit
            clear ff hfit
            have G1 := Lib.hid (gb_trans (gb_alloc HR.out.2.2.2.2.2.1 _) hg1)
            have N2 := Lib.hid ((N1.out.next ((Below.refl _ _).alloc (Nat.le_refl _) (.cells #[.int .i64 a1.op, .int .i64 a1.num, .string a1.name, .slice a1.ptr (len k1) a1.cap] 26))).grown HR.out.2.2.2.2.1.2.2 hg1)
            have hz := hg1.size
            simp at hz
            have hz1 : nb < w1.heap.size := by omega
            clear hg1 c0 c1 c2 c3 hz hcell
            go_wp2
            go_roundw
            case rel =>
              obtain ⟨q1, -, q3, q4, q5, -, -, q8⟩ := HR.out
              have z1 := FF.out.2
              simp [len] at q1
              simp [sz] at q8
              refine ⟨j + 1, r1, m + 1 + sz k1, by go_num, hcell', hf1, by omega, by omega, hz1, by omega, ?_, q3.2.2, q4.2, q5.2.2, G1.out, FF.out.1, by omega⟩
              rw [Nat.add_mul, Nat.one_mul, ← Nat.add_assoc]; exact N2.out
            case measure => simp [intOf]; omega
    · have F : Hid (fitB n lv k = false) := by unfold Hid fitB; simp; omega
      go_enter Try.func104, Try.ntmps104
      go_wp2
      go_ret
      exact ⟨ret_bool F.out.symm, fun q => by (rw [F.out] at q; cases q), by simp [go_sem, hf, hnb], gb_alloc (gb_setCell (p := ⟨nb, 0, none⟩) (gb_refl _ _) _) _⟩
  · have F : Hid (fitB n lv k = false) := by unfold Hid fitB; simp; omega
    go_enter Try.func104, Try.ntmps104
    go_wp2
    go_ret
    exact ⟨ret_bool F.out.symm, fun q => by (rw [F.out] at q; cases q), by simp [go_sem, hf, hnb], gb_alloc (gb_setCell (p := ⟨nb, 0, none⟩) (gb_refl _ _) _) _⟩

end Go.Proofs.Ytinbkhchhlkjgaa
