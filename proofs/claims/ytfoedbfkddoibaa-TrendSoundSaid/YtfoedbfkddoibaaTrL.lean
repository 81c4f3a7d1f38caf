/-
  The contract of the compiler's Compile at a tree without names: nothing below changes. Printed by wip/mktrl.py.
-/
import Derived.Test.YtfoedbfkddoibaaTi1
import Derived.Test.YtfoedbfkddoibaaFcm
namespace Go.Proofs.Ytfoedbfkddoibaa
set_option linter.unusedVariables false
set_option linter.unusedSimpArgs false
open Go.ChangeShapes Go.WideShapes Go.ChangeAt Go.RowKit
open Go.Deep (BT)

/-- Every node has at most 200 arguments. -/
def LnB : Fo → Prop
  | .nil => True
  | .node _ _ _ k r => (len k ≤ 200 ∧ LnB k) ∧ LnB r
/-- What Compile leaves. -/
def CPl (w : World) (a : Nd) (k : Fo) (e : Ending) (w' : World) : Prop :=
  ∃ c : FC, e = .returned (.agg #[.int .i64 c.f.op, .int .i64 c.f.num, .slice c.f.ptr (flen c.k) c.f.cap]) ∧ FCAt w' w.heap.size c ∧ CompR 0 (fun _ => 0) a k c ∧ Below w.heap.size w w'
def CmlC (b o : Nat) (a : Nd) (k : Fo) : Prop := ∀ (w : World) (kp : Option Addr), ExAt w b o a k → ExOk a k → (wfB a (len k) && wfT k) = true → len k ≤ 200 → LnB k → a.op ≠ 6 → NamF (fun _ => False) k →
  Calls Try.prog 29 #[.pointer kp, .int .i64 0, .agg #[.int .i64 a.op, .int .i64 a.num, .string a.name, .slice a.ptr (len k) a.cap]] w (CPl w a k)
theorem cpl_store {w wx : World} {a : Nd} {k : Fo} {c : FC} {r : Nat} {u0 u1 u2 : Value} (hg : Below w.heap.size w wx) (hc : FCAt wx (r + 1) c) (hr : CompR 0 (fun _ => 0) a k c) (hw : w.heap.size ≤ r) :
    CPl w a k (.returned (.agg #[.int .i64 c.f.op, .int .i64 c.f.num, .slice c.f.ptr (flen c.k) c.f.cap])) (((wx.setCell ⟨r, 0, none⟩ u0).setCell ⟨r, 1, none⟩ u1).setCell ⟨r, 2, none⟩ u2) := by
  have g := gb_three wx r u0 u1 u2
  exact ⟨c, rfl, (hc.set (Nat.lt_succ_self r) g).mono (by omega), hr, hg.grown g hg.size (fun m hm => by cases hm; exact hw)⟩
theorem cml_call {w wc wr w2 : World} {fb gs : Nat} {op : Int} {m : Nat} {Dn : List FC} {rest : Nat} (h : CmSt w wc wr fb gs op m Dn rest) (hb : Below wr.heap.size wr w2) : CmSt w wc w2 fb gs op m Dn rest := by
  have K : Keeps wr w2 := Keeps.of_below hb
  exact ⟨K _ _ h.c0, K _ _ h.c1, K _ _ h.c2, own_below h.ow hb, fun c hc => (h.ch c hc).keep K, h.rt.next hb, Nat.le_trans h.sz hb.size⟩

set_option maxHeartbeats 16000000 in
set_option maxRecDepth 100000 in
theorem complit_any (b o : Nat) (a : Nd) (k : Fo) : CmlC b o a k := by
  refine tree_of (P := CmlC) ?_ b o a k
  clear b o a k
  intro b o a k ih w kp hxx hok hwf hk hz hq hqk
  obtain ⟨op, num, name, ptr, acap⟩ := a
  obtain ⟨i0, hi, hi0, hi1, hi2⟩ := info_parts Try.infoF
  show Calls Try.prog 29 #[.pointer kp, .int .i64 0, .agg #[.int .i64 op, .int .i64 num, .string name, .slice ptr (len k) acap]] w _
  have IH := Lib.hid ih
  have HE := Lib.hid hxx
  have HOK := Lib.hid hok
  have HW := Lib.hid hwf
  have HZ := Lib.hid hz
  have HQ : Hid (op ≠ 6) := hq
  have HQK := Lib.hid hqk
  have hs : name.size ≤ 9223372036854775807 := hok.1.2.2.1
  have hnum : Hid (i64B num) := hok.1.2.1
  have hopr : 1 ≤ op ∧ op ≤ 22 ∧ argB op (len k) = true := by
    have h := hwf
    unfold wfB at h
    dsimp only at h
    simp only [Bool.and_eq_true, decide_eq_true_eq] at h
    exact ⟨h.1.1.1.1.1, h.1.1.1.1.2, h.1.1.1.2⟩
  have HO := Lib.hid hopr
  clear ih hxx hok hwf hz hq hqk hopr
  have B0 : Hid (Below w.heap.size w ((w.alloc (.cells #[.int .i64 op, .int .i64 num, .string name, .slice ptr (len k) acap] 31)).alloc (.cells #[.int .i64 0, .int .i64 0, .slice none 0 0] 66))) := ((Below.refl _ _).alloc (Nat.le_refl _) _).alloc (by simp) _
  have R0 : Hid (RT ((w.alloc (.cells #[.int .i64 op, .int .i64 num, .string name, .slice ptr (len k) acap] 31)).alloc (.cells #[.int .i64 0, .int .i64 0, .slice none 0 0] 66)) (w.heap.size + 1)) := ⟨⟨_, by simp [go_sem]; rfl⟩, ⟨_, by simp [go_sem]; rfl⟩, ⟨_, by simp [go_sem]; rfl⟩, by simp [go_sem], by simp [go_sem], by simp [go_sem], by simp⟩
  have XC : Hid (∀ wr, Below (w.heap.size + 2) ((w.alloc (.cells #[.int .i64 op, .int .i64 num, .string name, .slice ptr (len k) acap] 31)).alloc (.cells #[.int .i64 0, .int .i64 0, .slice none 0 0] 66)) wr → True) := fun _ _ => trivial
  have x0 : ((w.alloc (.cells #[.int .i64 op, .int .i64 num, .string name, .slice ptr (len k) acap] 31)).alloc (.cells #[.int .i64 0, .int .i64 0, .slice none 0 0] 66)).cell? ⟨w.heap.size, 0, none⟩ = some (.int .i64 op) := by simp [go_sem]
  have x1 : ((w.alloc (.cells #[.int .i64 op, .int .i64 num, .string name, .slice ptr (len k) acap] 31)).alloc (.cells #[.int .i64 0, .int .i64 0, .slice none 0 0] 66)).cell? ⟨w.heap.size, 1, none⟩ = some (.int .i64 num) := by simp [go_sem]
  have x2 : ((w.alloc (.cells #[.int .i64 op, .int .i64 num, .string name, .slice ptr (len k) acap] 31)).alloc (.cells #[.int .i64 0, .int .i64 0, .slice none 0 0] 66)).cell? ⟨w.heap.size, 2, none⟩ = some (.string name) := by simp [go_sem]
  have x3 : ((w.alloc (.cells #[.int .i64 op, .int .i64 num, .string name, .slice ptr (len k) acap] 31)).alloc (.cells #[.int .i64 0, .int .i64 0, .slice none 0 0] 66)).cell? ⟨w.heap.size, 3, none⟩ = some (.slice ptr (len k) acap) := by simp [go_sem]
  have z0 : ((w.alloc (.cells #[.int .i64 op, .int .i64 num, .string name, .slice ptr (len k) acap] 31)).alloc (.cells #[.int .i64 0, .int .i64 0, .slice none 0 0] 66)).heap.size = w.heap.size + 2 := by simp
  go_enter Try.func29, Try.ntmps29
  go_upto_region 2 with (fail)
  generalize (w.alloc (.cells #[.int .i64 op, .int .i64 num, .string name, .slice ptr (len k) acap] 31)).alloc (.cells #[.int .i64 0, .int .i64 0, .slice none 0 0] 66) = w0 at *
  clear XC
  by_cases hlow : op ≤ 5
  · have h5 : op = 1 ∨ op = 2 ∨ op = 3 ∨ op = 4 ∨ op = 5 := by have := HO.out.1; omega
    have GX := B0
    have RX := R0
    obtain ⟨⟨u0, q0⟩, ⟨u1, q1⟩, ⟨u2, q2⟩, f0, f1, f2, rlt⟩ := RX.out
    rcases h5 with rfl | rfl | rfl | rfl | rfl
    · go_wp2
      refine bodyPost_ret (v := .agg #[.int .i64 1, .int .i64 num, .slice none 0 0]) ?_ rfl (cpl_store (c := ⟨0, 0, ⟨1, num, none, 0⟩, .nil⟩) GX.out ⟨fun q => absurd rfl q, trivial, trivial⟩ (comp_leaf 0 (fun _ => 0) _ k num hnum.out (fun vals => rfl)) (Nat.le_succ _))
      rw [results_cell1 rfl]
      go_simp
    · go_wp2
      refine bodyPost_ret (v := .agg #[.int .i64 1, .int .i64 num, .slice none 0 0]) ?_ rfl (cpl_store (c := ⟨0, 0, ⟨1, num, none, 0⟩, .nil⟩) GX.out ⟨fun q => absurd rfl q, trivial, trivial⟩ (comp_leaf 0 (fun _ => 0) _ k num hnum.out (fun vals => rfl)) (Nat.le_succ _))
      rw [results_cell1 rfl]
      go_simp
    · go_wp2
      refine bodyPost_ret (v := .agg #[.int .i64 1, .int .i64 num, .slice none 0 0]) ?_ rfl (cpl_store (c := ⟨0, 0, ⟨1, num, none, 0⟩, .nil⟩) GX.out ⟨fun q => absurd rfl q, trivial, trivial⟩ (comp_leaf 0 (fun _ => 0) _ k num hnum.out (fun vals => rfl)) (Nat.le_succ _))
      rw [results_cell1 rfl]
      go_simp
    · go_wp2
      refine bodyPost_ret (v := .agg #[.int .i64 1, .int .i64 1, .slice none 0 0]) ?_ rfl (cpl_store (c := ⟨0, 0, ⟨1, 1, none, 0⟩, .nil⟩) GX.out ⟨fun q => absurd rfl q, trivial, trivial⟩ (comp_leaf 0 (fun _ => 0) _ k 1 (by unfold i64B; decide) (fun vals => rfl)) (Nat.le_succ _))
      rw [results_cell1 rfl]
      go_simp
    · go_wp2
      refine bodyPost_ret (v := .agg #[.int .i64 1, .int .i64 0, .slice none 0 0]) ?_ rfl (cpl_store (c := ⟨0, 0, ⟨1, 0, none, 0⟩, .nil⟩) GX.out ⟨fun q => absurd rfl q, trivial, trivial⟩ (comp_leaf 0 (fun _ => 0) _ k 0 (by unfold i64B; decide) (fun vals => rfl)) (Nat.le_succ _))
      rw [results_cell1 rfl]
      go_simp
  · by_cases h6 : op = 6
    · exact absurd h6 HQ.out
    · have h7 : Hid (7 ≤ op ∧ op ≤ 22 ∧ argB op (len k) = true) := ⟨by have := HO.out.1; omega, HO.out.2.1, HO.out.2.2⟩
      clear HQ
      have n1 : (op == 1) = false := by simp; omega
      have n2 : (op == 2) = false := by simp; omega
      have n3 : (op == 3) = false := by simp; omega
      have n4 : (op == 4) = false := by simp; omega
      have n5 : (op == 5) = false := by simp; omega
      have n6 : (op == 6) = false := by simp; omega
      clear h6 hlow
      go_upto_region 16 with (fail)
      go_cut [9] (fun v9 wx => ∃ fb gs : Nat, v9 = .pointer (some ⟨fb, 0, none⟩) ∧ Hid (wx.cell? ⟨fb, 0, none⟩ = some (.int .i64 op) ∧ wx.cell? ⟨fb, 1, none⟩ = some (.int .i64 0) ∧ wx.cell? ⟨fb, 2, none⟩ = some (.slice (some ⟨gs, 0, none⟩) (len k) (len k)) ∧
        wx.ownsRow (w.heap.size + 2) 66 3 (.slice (some ⟨gs, 0, none⟩) (len k) (len k)) (len k) (zerosF (len k)) ∧ fb ≠ gs ∧ w.heap.size + 2 ≤ fb ∧ fb < wx.heap.size ∧ Below (w.heap.size + 2) w0 wx))
      case first =>
        have bD : w.heap.size + 2 ≤ w0.drew.heap.size := by show w.heap.size + 2 ≤ w0.heap.size; omega
        obtain ⟨wm, hm, om, gm⟩ := run_make_full (P := Try.prog) w0.drew (w.heap.size + 2) 64 66 i0 (.agg #[.int .i64 0, .int .i64 0, .slice none 0 0]) 3 Try.underlying64 hi hi0 hi1 .i64 .i64 (len k) (by rw [hi2]; omega) (by unfold maxLen; omega) bD
        obtain ⟨wn, hn, on, gn⟩ := run_make_full (P := Try.prog) (w0.alloc (.cells #[.int .i64 0, .int .i64 0, .slice none 0 0] 66)).drew (w.heap.size + 2) 64 66 i0 (.agg #[.int .i64 0, .int .i64 0, .slice none 0 0]) 3 Try.underlying64 hi hi0 hi1 .i64 .i64 (len k) (by rw [hi2]; omega) (by unfold maxLen; omega) (by simp; omega)
        have OM : Hid (wm.ownsRow (w.heap.size + 2) 66 3 (.slice (some ⟨w.heap.size + 2, 0, none⟩) (len k) (len k)) (len k) (zerosF (len k))) := by
          have h := om
          rw [show (Value.agg #[.int .i64 0, .int .i64 0, .slice none 0 0]).cells = #[.int .i64 0, .int .i64 0, .slice none 0 0] from rfl, made_zeros, show w0.drew.heap.size = w.heap.size + 2 from z0] at h
          exact h
        have GM := Lib.hid gm
        have ON : Hid (wn.ownsRow (w.heap.size + 2) 66 3 (.slice (some ⟨w.heap.size + 2 + 1, 0, none⟩) (len k) (len k)) (len k) (zerosF (len k))) := by
          have h := on
          rw [show (Value.agg #[.int .i64 0, .int .i64 0, .slice none 0 0]).cells = #[.int .i64 0, .int .i64 0, .slice none 0 0] from rfl, made_zeros, show (w0.alloc (.cells #[.int .i64 0, .int .i64 0, .slice none 0 0] 66)).drew.heap.size = w.heap.size + 2 + 1 by simp [z0]] at h
          exact h
        have GN := Lib.hid gn
        clear om on
        have hl0 : w.heap.size < w0.heap.size := by omega
        have a0 : wm.cell? ⟨w.heap.size, 0, none⟩ = some (.int .i64 op) := (gb_cell gm (p := ⟨w.heap.size, 0, none⟩) (by show w.heap.size < w0.heap.size; omega) (by simp)).trans x0
        have a3 : wm.cell? ⟨w.heap.size, 3, none⟩ = some (.slice ptr (len k) acap) := (gb_cell gm (p := ⟨w.heap.size, 3, none⟩) (by show w.heap.size < w0.heap.size; omega) (by simp)).trans x3
        have b0 : wn.cell? ⟨w.heap.size, 0, none⟩ = some (.int .i64 op) := (gb_cell gn (p := ⟨w.heap.size, 0, none⟩) (by simp; omega) (by simp)).trans (by simp [go_sem, hl0, x0])
        have b3 : wn.cell? ⟨w.heap.size, 3, none⟩ = some (.slice ptr (len k) acap) := (gb_cell gn (p := ⟨w.heap.size, 3, none⟩) (by simp; omega) (by simp)).trans (by simp [go_sem, hl0, x3])
        have d0 : wn.cell? ⟨w.heap.size + 2, 0, none⟩ = some (.int .i64 0) := (gb_cell gn (p := ⟨w.heap.size + 2, 0, none⟩) (by simp; omega) (by simp)).trans (by rw [← z0]; simp [go_sem])
        have d1 : wn.cell? ⟨w.heap.size + 2, 1, none⟩ = some (.int .i64 0) := (gb_cell gn (p := ⟨w.heap.size + 2, 1, none⟩) (by simp; omega) (by simp)).trans (by rw [← z0]; simp [go_sem])
        have d2 : wn.cell? ⟨w.heap.size + 2, 2, none⟩ = some (.slice none 0 0) := (gb_cell gn (p := ⟨w.heap.size + 2, 2, none⟩) (by simp; omega) (by simp)).trans (by rw [← z0]; simp [go_sem])
        have e0 : wn.frozen? ⟨w.heap.size + 2, 0, none⟩ = false := (gb_frozen gn (p := ⟨w.heap.size + 2, 0, none⟩) (by simp; omega) (by simp)).trans (by rw [← z0]; simp [go_sem])
        have e1 : wn.frozen? ⟨w.heap.size + 2, 1, none⟩ = false := (gb_frozen gn (p := ⟨w.heap.size + 2, 1, none⟩) (by simp; omega) (by simp)).trans (by rw [← z0]; simp [go_sem])
        have e2 : wn.frozen? ⟨w.heap.size + 2, 2, none⟩ = false := (gb_frozen gn (p := ⟨w.heap.size + 2, 2, none⟩) (by simp; omega) (by simp)).trans (by rw [← z0]; simp [go_sem])
        have hlm : w.heap.size < wm.heap.size := by have := gm.size; simp at this; omega
        have hln : w.heap.size < wn.heap.size := by have := gn.size; simp at this; omega
        clear gm gn
        go_region
        · go_wp2
          go_meet
          have hl2 : w.heap.size + 2 < wm.heap.size := (OM.out.lt _ rfl).2
          refine ⟨wm.heap.size, w.heap.size + 2, rfl, by simp [go_sem], by simp [go_sem], by simp [go_sem], OM.out.alloc _, by omega, by omega, by simp, ?_⟩
          exact (((Below.refl _ _).drew).grown GM.out (by simp; omega) (fun m hm => by cases hm)).alloc (by omega) _
        · go_wp2
          go_meet
          have hl2 : w.heap.size + 2 + 1 < wn.heap.size := (ON.out.lt _ rfl).2
          refine ⟨w.heap.size + 2, w.heap.size + 2 + 1, rfl, by simp [go_sem, d0, d1, d2], by simp [go_sem, d0, d1, d2], by simp [go_sem, d0, d1, d2], own_setCell_ne (own_setCell_ne (own_setCell_ne ON.out (by simp [Value.ownBlock]) _) (by simp [Value.ownBlock]) _) (by simp [Value.ownBlock]) _, by omega, by omega, by simp [World.setCell]; omega, ?_⟩
          exact ((((((Below.refl _ _).alloc (by omega) _).drew).grown GN.out (by simp; omega) (fun m hm => by cases hm)).setCell (by simp) _).setCell (by simp) _).setCell (by simp) _
      case rest =>
        obtain ⟨fb, gs, rfl, HF⟩ := hcut
        have BC : Hid (Below w0.heap.size w0 wc) := by unfold Hid; rw [z0]; exact HF.out.2.2.2.2.2.2.2
        have G1 : Hid (Below w.heap.size w wc) := B0.out.trans (BC.out.mono B0.out.size)
        have R1 := Lib.hid (R0.out.next BC.out)
        have hgs := (HF.out.2.2.2.1.lt gs rfl)
        have hfb : w.heap.size + 2 ≤ fb := HF.out.2.2.2.2.2.1
        have hfb2 : fb < wc.heap.size := HF.out.2.2.2.2.2.2.1
        have hne : fb ≠ gs := HF.out.2.2.2.2.1
        have y3 : wc.cell? ⟨w.heap.size, 3, none⟩ = some (.slice ptr (len k) acap) := by rw [BC.out.cell (p := ⟨w.heap.size, 3, none⟩) (by show w.heap.size < w0.heap.size; omega)]; exact x3
        clear x0 x1 x2 x3
        go_wp2_with fail
        clear y3
        go_loopw [65] (fun i wr => ∃ (j : Nat) (r : Fo) (Dn : List FC), i = .int .i64 j ∧ Hid (j + len r = len k ∧ FoAt wr r b (o + j * 4) ∧ FoOk r ∧ AllT CmlC r ∧ wfT r = true ∧ LnB r ∧ NamF (fun _ => False) r ∧ Dn.length = j ∧
            CmSt w wc wr fb gs op (len k) Dn (len r) ∧ (∀ c ∈ Dn, fOk1 (nS 0) c.f (flen c.k) ∧ flen c.k ≤ 200 ∧ fOk (nS 0) c.k) ∧ (∀ vals, (Dn.map fun c => fv1 vals c.f (fvF vals c.k)) ++ evF (nmT 0 vals (fun _ => 0)) r = evF (nmT 0 vals (fun _ => 0)) k) ∧ Below w.heap.size w wr ∧ FoLt w.heap.size r b)) (fun i _ => len k - (intOf i).toNat)
        case atStart =>
          refine ⟨0, k, [], rfl, by omega, ?_, HOK.out.2, IH.out, ?_, HZ.out, HQK.out, rfl, ⟨HF.out.1, HF.out.2.1, HF.out.2.2.1, HF.out.2.2.2.1, (fun c hc => by cases hc), R1.out, Nat.le_refl _⟩, (fun c hc => by cases hc), fun vals => rfl, G1.out, HE.out.2.lt⟩
          · rw [Nat.zero_mul, Nat.add_zero]; exact (HE.out.2.next B0.out).next BC.out
          · have := HW.out; rw [Bool.and_eq_true] at this; exact this.2
        case round =>
          obtain ⟨j, r, Dn, rfl, HR⟩ := hrel
          have ST := Lib.hid HR.out.2.2.2.2.2.2.2.2.1
          cases r with
          | nil =>
            have hj : ¬ (j : Int) < (len k : Int) := by have := HR.out.1; simp [len] at this; omega
            have GX := Lib.hid HR.out.2.2.2.2.2.2.2.2.2.2.2.1
            have RX := Lib.hid ST.out.rt
            have hlen : Hid (Dn.length = len k) := by have h1 := HR.out.1; have h2 := HR.out.2.2.2.2.2.2.2.1; simp [len] at h1; unfold Hid; omega
            have FX : Hid (FCAt wr (w.heap.size + 2) ⟨gs, 0, ⟨op, 0, some ⟨gs, 0, none⟩, len k⟩, frowF Dn⟩) := by
              have h := frowF_at (w := wr) (B0 := w.heap.size + 2) (g := gs) (O := 0) Dn (fun c hc => (ST.out.ch c hc).mono (by omega)) (fun i u hu => by
                have how := ST.out.ow
                simp only [len] at how
                have hi9 : i < len k * 3 := by
                  have h1 := (List.getElem?_eq_some_iff.1 hu).1
                  have h2 := frowC_len Dn
                  have h3 := hlen.out
                  omega
                rw [Nat.zero_add, how.cellAt i hi9, List.getElem?_append_left (by exact (List.getElem?_eq_some_iff.1 hu).1)]; exact hu) hgs.1
              exact ⟨fun _ => rfl, h.1, h.2⟩
            have CR : Hid (CompR 0 (fun _ => 0) ⟨op, num, name, ptr, acap⟩ k ⟨gs, 0, ⟨op, 0, some ⟨gs, 0, none⟩, len k⟩, frowF Dn⟩) := comp_node 0 (fun _ => 0) ⟨op, num, name, ptr, acap⟩ k Dn gs ⟨h7.out.1, h7.out.2.1⟩ h7.out.2.2 hlen.out hk HR.out.2.2.2.2.2.2.2.2.2.1 (fun vals => by have := HR.out.2.2.2.2.2.2.2.2.2.2.1 vals; simpa [evF] using this) _ _
            have t0 := ST.out.c0
            have t1 := ST.out.c1
            have t2 := ST.out.c2
            obtain ⟨⟨u0, q0⟩, ⟨u1, q1⟩, ⟨u2, q2⟩, f0, f1, f2, rlt⟩ := RX.out
            go_wp2
            refine bodyPost_ret (v := .agg #[.int .i64 op, .int .i64 0, .slice (some ⟨gs, 0, none⟩) (len k) (len k)]) ?_ rfl ?_
            · rw [results_cell1 rfl]
              go_simp
            · have h9 := cpl_store (w := w) (r := w.heap.size + 1) (u0 := .int .i64 op) (u1 := .int .i64 0) (u2 := .slice (some ⟨gs, 0, none⟩) (len k) (len k)) GX.out FX.out CR.out (Nat.le_succ _)
              rw [show flen (frowF Dn) = len k by rw [frowF_len]; exact hlen.out] at h9
              exact h9
          | node b1 o1 a1 k1 r1 =>
            have hj : j < len k := by have := HR.out.1; simp [len] at this; omega
            obtain rfl : ptr = some ⟨b, o, none⟩ := HE.out.1 (by rintro rfl; simp [len] at hj)
            obtain ⟨⟨c0, c1, c2, c3⟩, hp1, hk1, hr1⟩ := HR.out.2.1
            have E1 : Hid (ExAt wr b1 o1 a1 k1) := ⟨hp1, hk1⟩
            have N1 := Lib.hid hr1
            clear hp1 hk1 hr1
            have hj1 : (j : Int) < (len k : Int) := by omega
            have hj0 : (0 : Int) ≤ (j : Int) := by omega
            have W1 : Hid ((wfB a1 (len k1) && wfT k1) = true ∧ wfT r1 = true) := by
              have h : ((wfB a1 (len k1) && wfT k1) && wfT r1) = true := HR.out.2.2.2.2.1
              rw [Bool.and_eq_true] at h; exact h
            have Z1 : Hid ((len k1 ≤ 200 ∧ LnB k1) ∧ LnB r1) := HR.out.2.2.2.2.2.1
            go_upto_region 20 with (fail)
            have AB : Hid (Below wr.heap.size wr (wr.alloc (.cells #[.int .i64 a1.op, .int .i64 a1.num, .string a1.name, .slice a1.ptr (len k1) a1.cap] 31)).drew) := ((Below.refl _ _).alloc (Nat.le_refl _) _).drew
            have e0 : (wr.alloc (.cells #[.int .i64 a1.op, .int .i64 a1.num, .string a1.name, .slice a1.ptr (len k1) a1.cap] 31)).cell? ⟨wr.heap.size, 0, none⟩ = some (.int .i64 a1.op) := by simp [go_sem]
            have e1 : (wr.alloc (.cells #[.int .i64 a1.op, .int .i64 a1.num, .string a1.name, .slice a1.ptr (len k1) a1.cap] 31)).cell? ⟨wr.heap.size, 1, none⟩ = some (.int .i64 a1.num) := by simp [go_sem]
            have e2 : (wr.alloc (.cells #[.int .i64 a1.op, .int .i64 a1.num, .string a1.name, .slice a1.ptr (len k1) a1.cap] 31)).cell? ⟨wr.heap.size, 2, none⟩ = some (.string a1.name) := by simp [go_sem]
            have e3 : (wr.alloc (.cells #[.int .i64 a1.op, .int .i64 a1.num, .string a1.name, .slice a1.ptr (len k1) a1.cap] 31)).cell? ⟨wr.heap.size, 3, none⟩ = some (.slice a1.ptr (len k1) a1.cap) := by simp [go_sem]
            have hsz : wc.heap.size ≤ wr.heap.size := ST.out.sz
            have t2 : (wr.alloc (.cells #[.int .i64 a1.op, .int .i64 a1.num, .string a1.name, .slice a1.ptr (len k1) a1.cap] 31)).cell? ⟨fb, 2, none⟩ = some (.slice (some ⟨gs, 0, none⟩) (len k) (len k)) := by
              have hl : fb < wr.heap.size := by omega
              simp [go_sem, ST.out.c2, hl]
            generalize wr.alloc (.cells #[.int .i64 a1.op, .int .i64 a1.num, .string a1.name, .slice a1.ptr (len k1) a1.cap] 31) = wb at *
            have GD : Hid (Below w.heap.size w wb.drew) := HR.out.2.2.2.2.2.2.2.2.2.2.2.1.trans (AB.out.mono HR.out.2.2.2.2.2.2.2.2.2.2.2.1.size)
            have NQ : Hid ((a1.op = 6 → False) ∧ NamF (fun _ => False) k1 ∧ NamF (fun _ => False) r1) := ⟨HR.out.2.2.2.2.2.2.1.1.1, HR.out.2.2.2.2.2.2.1.1.2, HR.out.2.2.2.2.2.2.1.2⟩
            have CC := Lib.hid (HR.out.2.2.2.1.1 wb.drew kp (E1.out.next AB.out) ⟨HR.out.2.2.1.1, HR.out.2.2.1.2.1⟩ W1.out.1 Z1.out.1.1 Z1.out.1.2 NQ.out.1 NQ.out.2.1)
            clear c0 c1 c2 c3
            go_region_with (go_at_call 29; refine CC.out.mono ?_; rintro e w2 ⟨c, rfl, hc, hr, hg2⟩; have CR := Lib.hid hr; have CA := Lib.hid hc; have G2 := Lib.hid hg2; have S2 := Lib.hid (cml_call ST.out (AB.out.trans (hg2.mono AB.out.size))); have m2 := S2.out.c2; obtain ⟨m3, m4, m5⟩ := CmSt.zero (n := len r1) S2.out HR.out.2.2.2.2.2.2.2.1 hj; have m6 := S2.out.ow.frozenAt (j * 3); have m7 := S2.out.ow.frozenAt (j * 3 + 1); have m8 := S2.out.ow.frozenAt (j * 3 + 2); clear hc hr hg2)
            all_goals (
              go_wp2
              have SS := Lib.hid (CmSt.store (n := len r1) (c := c) S2.out HR.out.2.2.2.2.2.2.2.1 hne hgs.1 hgs.2 (CA.out.mono (Nat.le_trans ST.out.sz AB.out.size)))
              go_roundw
              case rel => (
                obtain ⟨q1, -, q3, q4, -, -, -, q8, -, q10, q11, -, q14⟩ := HR.out
                simp [len] at q1
                have GN := (GD.out.trans (G2.out.mono GD.out.size)).size
                refine ⟨j + 1, r1, Dn ++ [c], by go_num, by omega, ?_, q3.2.2, q4.2, W1.out.2, Z1.out.2, NQ.out.2.2, by simp [q8], SS.out.1, ?_, ?_, (GD.out.trans (G2.out.mono GD.out.size)).grown SS.out.2 GN (fun m hm => by cases hm; omega), q14.2.2⟩
                · rw [Nat.add_mul, Nat.one_mul, ← Nat.add_assoc]
                  exact ((N1.out.next AB.out).next G2.out).below (q14.2.2.mono (Nat.le_refl _)) ((Below.refl _ _).grown SS.out.2 GN (fun m hm => by cases hm; omega))
                · intro d hd
                  rcases List.mem_append.1 hd with q | q
                  · exact q10 d q
                  · rw [List.mem_singleton.1 q]; exact ⟨CR.out.o1, CR.out.l, CR.out.o⟩
                · intro vals
                  have := q11 vals
                  rw [List.map_append, List.append_assoc]
                  simp only [List.map_cons, List.map_nil, List.singleton_append]
                  rw [CR.out.v vals]
                  exact this)
              case measure => (simp [intOf]; omega))

end Go.Proofs.Ytfoedbfkddoibaa
