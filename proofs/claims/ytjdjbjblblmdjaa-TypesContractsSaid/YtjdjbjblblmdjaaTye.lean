/-
  The contract of the checker's expect.
-/
import Derived.Test.YtjdjbjblblmdjaaTyo
namespace Go.Proofs.Ytjdjbjblblmdjaa
set_option linter.unusedVariables false
set_option linter.unusedSimpArgs false
open Go.ChangeShapes Go.WideShapes Go.ChangeAt Go.RowKit
open Go.Deep (BT)

set_option maxHeartbeats 4000000 in
set_option maxRecDepth 100000 in
theorem expect_any (n : Nat) (b o : Nat) (op num : Int) (name : ByteArray) (ptr : Option Addr) (acap : Nat) (k : Fo) (w : World) (cs : List Cn) (p : Option Addr) (cap kb ib mb : Nat) (sc kind : Int)
    (hn : n ≤ cs.length) (hch : ChkJ Try.prog w kb ib mb cs cs.length p cap) (hcs : CsV w cs p) (hx : ExAt w b o ⟨op, num, name, ptr, acap⟩ k) (hok : ExOk ⟨op, num, name, ptr, acap⟩ k) :
    Calls Try.prog 14 #[.pointer (some ⟨kb, 0, none⟩), .int .i64 sc, .int .i64 n, .agg #[.int .i64 op, .int .i64 num, .string name, .slice ptr (len k) acap], .int .i64 kind] w
      fun e w' => e = .returned (.int .i64 (if (tofN cs n sc ⟨op, num, name, ptr, acap⟩ k).2 = 0 ∧ (tofN cs n sc ⟨op, num, name, ptr, acap⟩ k).1 ≠ kind then 9 else (tofN cs n sc ⟨op, num, name, ptr, acap⟩ k).2)) ∧ ChkJ Try.prog w' kb ib mb cs cs.length p cap ∧ w.grownBy w' (some mb) := by
  have HX := Lib.hid hx
  have HOK := Lib.hid hok
  have HCS := Lib.hid hcs
  have HCH := Lib.hid hch
  clear hx hok hcs hch
  generalize hQ : (if (tofN cs n sc ⟨op, num, name, ptr, acap⟩ k).2 = 0 ∧ (tofN cs n sc ⟨op, num, name, ptr, acap⟩ k).1 ≠ kind then (9 : Int) else (tofN cs n sc ⟨op, num, name, ptr, acap⟩ k).2) = Q
  have HQ := Lib.hid hQ
  clear hQ
  go_enter Try.func14, Try.ntmps14
  go_wp2_with fail
  have B0 : Hid (Below w.heap.size w (w.alloc (.cells #[.int .i64 op, .int .i64 num, .string name, .slice ptr (len k) acap] 36))) := (Below.refl _ _).alloc (Nat.le_refl _) _
  refine (type_any n b o ⟨op, num, name, ptr, acap⟩ k _ cs p cap kb ib mb sc hn (HCH.out.next B0.out) (HCS.out.next B0.out) (HX.out.next B0.out) HOK.out).mono ?_
  generalize tofN cs n sc ⟨op, num, name, ptr, acap⟩ k = R at *
  obtain ⟨z1, z2⟩ := R
  rintro e w3 ⟨rfl, ch3, g3⟩
  have CH3 := Lib.hid ch3
  have G3 := Lib.hid ((grw_of_below _ B0.out).trans g3)
  clear ch3 g3
  dsimp only at HQ ⊢
  by_cases h0 : z2 = 0
  · have b0 : (z2 == 0) = true := by simp [h0]
    by_cases h1 : z1 = kind
    · have b1 : (z1 != kind) = false := by simp [h1]
      have RQ : Hid (Q = z2) := by unfold Hid; rw [← HQ.out]; simp [h1]
      clear h0 h1 HQ
      go_wp2
      go_ret
      exact ⟨by rw [RQ.out]; rfl, CH3.out, G3.out⟩
    · have b1 : (z1 != kind) = true := by simp [h1]
      have RQ : Hid (Q = 9) := by unfold Hid; rw [← HQ.out]; simp [h0, h1]
      clear h0 h1 HQ
      go_wp2
      go_ret
      exact ⟨by rw [RQ.out]; rfl, CH3.out, G3.out⟩
  · have b0 : (z2 == 0) = false := by simp [h0]
    have RQ : Hid (Q = z2) := by unfold Hid; rw [← HQ.out]; simp [h0]
    clear h0 HQ
    go_wp2
    go_ret
    exact ⟨by rw [RQ.out]; rfl, CH3.out, G3.out⟩

end Go.Proofs.Ytjdjbjblblmdjaa
