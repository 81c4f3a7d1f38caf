/-
  The contract of the reference's TypeOf.
-/
import Derived.Test.YtfoedbfkddoibaaGreatRtb
namespace Go.Proofs.YtfoedbfkddoibaaGreat
set_option linter.unusedVariables false
set_option linter.unusedSimpArgs false
open Go.ChangeShapes Go.WideShapes Go.ChangeAt Go.RowKit
open Go.Deep (BT)

set_option maxHeartbeats 4000000 in
set_option maxRecDepth 100000 in
theorem rtypeof_any (cs : List Cn) (p : Option Addr) (cap : Nat) (sc : Int) (b o : Nat) (op num : Int) (name : ByteArray) (ptr : Option Addr) (acap : Nat) (k : Fo) (w : World) (hcs : CsV w cs p) (hcap : cs.length ≤ cap)
    (hx : ExAt w b o ⟨op, num, name, ptr, acap⟩ k) (hok : ExOk ⟨op, num, name, ptr, acap⟩ k) :
    Calls Tryz.prog 48 #[.slice p cs.length cap, .int .i64 sc, .agg #[.int .i64 op, .int .i64 num, .string name, .slice ptr (len k) acap]] w
      fun e w' => e = .returned (.tuple #[.int .i64 (typeOfT cs sc ⟨op, num, name, ptr, acap⟩ k).1, .int .i64 (typeOfT cs sc ⟨op, num, name, ptr, acap⟩ k).2]) ∧ Below w.heap.size w w' := by
  have HCS := Lib.hid hcs
  have HX := Lib.hid hx
  have HOK := Lib.hid hok
  have TT : Hid (typeOfT cs sc ⟨op, num, name, ptr, acap⟩ k = if valE ⟨op, num, name, ptr, acap⟩ k = 0 then tyT (lookT cs (tabN cs cs.length)) sc ⟨op, num, name, ptr, acap⟩ k else (0, valE ⟨op, num, name, ptr, acap⟩ k)) := rfl
  have VOK := Lib.hid (val_ok ⟨op, num, name, ptr, acap⟩ k)
  generalize typeOfT cs sc ⟨op, num, name, ptr, acap⟩ k = R at *
  clear hcs hx hok
  go_enter Tryz.func48, Tryz.ntmps48
  go_wp2_with fail
  have B0 : Hid (Below w.heap.size w (w.alloc (.cells #[.int .i64 op, .int .i64 num, .string name, .slice ptr (len k) acap] 25))) := (Below.refl _ _).alloc (Nat.le_refl _) _
  have V := Lib.hid (rvexpr_any b o op num name ptr acap k _ (HX.out.next B0.out) HOK.out)
  refine V.out.mono ?_
  clear V
  rintro e w1 ⟨rfl, hb⟩
  have hc : ∀ i : Nat, w1.cell? ⟨w.heap.size, i, none⟩ = _ := fun i => hb.cell (p := ⟨w.heap.size, i, none⟩) (by simp)
  have c0 : w1.cell? ⟨w.heap.size, 0, none⟩ = some (.int .i64 op) := by rw [hc]; simp [go_sem]
  have c1 : w1.cell? ⟨w.heap.size, 1, none⟩ = some (.int .i64 num) := by rw [hc]; simp [go_sem]
  have c2 : w1.cell? ⟨w.heap.size, 2, none⟩ = some (.string name) := by rw [hc]; simp [go_sem]
  have c3 : w1.cell? ⟨w.heap.size, 3, none⟩ = some (.slice ptr (len k) acap) := by rw [hc]; simp [go_sem]
  have hz : w.heap.size < w1.heap.size := by have := hb.size; simp at this; omega
  have B1 : Hid (Below w.heap.size w w1) := B0.out.trans (hb.mono (by simp))
  clear hc hb
  generalize hv : valE ⟨op, num, name, ptr, acap⟩ k = ve at *
  by_cases h0 : ve = 0
  · have b0 : (ve != 0) = false := by simp [h0]
    have HV := Lib.hid (VOK.out h0)
    have TQ : Hid (R = tyT (lookT cs (tabN cs cs.length)) sc ⟨op, num, name, ptr, acap⟩ k) := by unfold Hid; rw [TT.out, if_pos h0]
    clear h0 hv
    go_upto_region 4 with (fail)
    have B1d : Hid (Below w.heap.size w w1.drew) := B1.out.drew
    go_region_with (first
      | (go_at_call 85; refine (rtab_any cs p cap _ (HCS.out.next B1d.out) hcap).mono ?_; rintro e w2 ⟨kv, ev, rfl, hk, he, hb⟩; have HK := Lib.hid hk; have HE := Lib.hid he; have B2 := Lib.hid (B1d.out.trans (hb.mono B1d.out.size)); have d0 : w2.cell? ⟨w.heap.size, 0, none⟩ = some (.int .i64 op) := (hb.cell (p := ⟨w.heap.size, 0, none⟩) hz).trans c0; have d1 : w2.cell? ⟨w.heap.size, 1, none⟩ = some (.int .i64 num) := (hb.cell (p := ⟨w.heap.size, 1, none⟩) hz).trans c1; have d2 : w2.cell? ⟨w.heap.size, 2, none⟩ = some (.string name) := (hb.cell (p := ⟨w.heap.size, 2, none⟩) hz).trans c2; have d3 : w2.cell? ⟨w.heap.size, 3, none⟩ = some (.slice ptr (len k) acap) := (hb.cell (p := ⟨w.heap.size, 3, none⟩) hz).trans c3; clear hk he hb)
      | (go_at_call 84; have q := rtyped_any b o ⟨op, num, name, ptr, acap⟩ k w2 cs p cap (tabN cs cs.length) kv ev sc (HX.out.next B2.out) HOK.out HV.out.1 HV.out.2 (HCS.out.next B2.out) (by rw [tabN_len]; exact Nat.le_refl _) HK.out HE.out; rw [tabN_len, ← TQ.out] at q; refine q.mono ?_; clear q; rintro e w3 ⟨rfl, hb3⟩))
    all_goals (go_wp2; go_ret2; exact ⟨rfl, B2.out.trans (hb3.mono B2.out.size)⟩)
  · have b0 : (ve != 0) = true := by simp [h0]
    have TQ : Hid (R = (0, ve)) := by unfold Hid; rw [TT.out, if_neg h0]
    clear h0
    go_wp2
    go_ret2
    exact ⟨by rw [TQ.out]; rfl, B1.out⟩

end Go.Proofs.YtfoedbfkddoibaaGreat
