/-
  The contracts of pairingbase.At, of the source's next, and of node.
-/
import Derived.Test.YtijbjnbbglcacaaBpl
import Derived.Laws.BitsLemmas
namespace Go.Proofs.Ytijbjnbbglcacaa
set_option linter.unusedVariables false
set_option linter.unusedSimpArgs false
open Go.ChangeShapes Go.WideShapes Go.ChangeAt Go.RowKit
open Go.Deep (BT)

theorem and_ffff (n : Int) : bits .and .i64 n 65535 = n % 65536 := by
  have h127 : (BitVec.ofInt 64 65535).toNat = 2 ^ 16 - 1 := by decide
  have key : (BitVec.ofInt 64 n &&& BitVec.ofInt 64 65535).toNat = (n % ((2 ^ 64 : Nat) : Int)).toNat % 2 ^ 16 := by
    rw [BitVec.toNat_and, BitVec.toNat_ofInt, h127, Nat.and_two_pow_sub_one_eq_mod]
  show IntKind.i64.wrap ((BitVec.ofInt 64 n &&& BitVec.ofInt 64 65535).toNat : Nat) = n % 65536
  rw [key, IntKind.wrap_i64]
  omega

set_option maxHeartbeats 2000000 in
set_option maxRecDepth 100000 in
theorem at_any (v : Value) (n s t : Nat) (T : Int) (w : World) (h : IntsL w v n s) (ht : t ≤ 1099511627776) (hT : T = t) :
    Calls Try.prog 66 #[v, .int .i64 T] w fun e w' => (∃ m : Nat, e = .returned (.int .i64 m)) ∧ Below w.heap.size w w' := by
  obtain ⟨p, cap, rfl, hn, hl⟩ := h
  go_enter Try.func66, Try.ntmps66
  by_cases h0 : n = 0
  · subst h0
    obtain ⟨y, hy⟩ : ∃ y : Nat, bits BinOp.and IntKind.i64 T 65535 = (y : Int) := ⟨t % 65536, by rw [and_ffff]; omega⟩
    clear hT
    go_wp2
    go_ret
    exact ⟨⟨y, rfl⟩, Below.refl _ _⟩
  · obtain ⟨B, O, x, rfl, hB, hc⟩ := hl (t % n) (Nat.mod_lt _ (by omega))
    have q1 : T.tmod (n : Int) = ((t % n : Nat) : Int) := by rw [hT, Int.tmod_eq_emod_of_nonneg (by omega)]; rfl
    have q2 : T.tdiv (n : Int) = ((t / n : Nat) : Int) := by rw [hT, Int.tdiv_eq_ediv_of_nonneg (by omega)]; rfl
    obtain ⟨y, hy⟩ : ∃ y : Nat, bits BinOp.and IntKind.i64 x 65535 = (y : Int) ∧ y ≤ 65535 := ⟨(x % 65536).toNat, by rw [and_ffff]; omega, by omega⟩
    obtain ⟨hy, hy1⟩ := hy
    have hz : t / n ≤ t := Nat.div_le_self _ _
    have hi : t % n < n := Nat.mod_lt _ (by omega)
    generalize t % n = i at *
    generalize t / n = z at *
    have hi1 : (i : Int) < (n : Int) := by omega
    have hi0 : (0 : Int) ≤ (i : Int) := by omega
    have n0 : ¬ (n : Int) = 0 := by omega
    have b0 : ((n : Int) == 0) = false := by simp [h0]
    clear hl hT
    go_upto_region 3 with (fail)
    go_region
    go_wp2
    go_ret
    exact ⟨⟨y + z, by go_num⟩, (Below.refl _ _).drew⟩

set_option maxHeartbeats 2000000 in
set_option maxRecDepth 100000 in
theorem next_any (sb : Nat) (v : Value) (n t k : Nat) (w : World) (h : Src w sb v n t) (ht : t < 1099511627776) (hk : 0 < k) (hk2 : k ≤ 1000) :
    Calls Try.prog 47 #[.pointer (some ⟨sb, 0, none⟩), .int .i64 k] w fun e w' => (∃ r : Nat, r < k ∧ e = .returned (.int .i64 r)) ∧ Src w' sb v n (t + 1) ∧ w.grownBy w' (some sb) := by
  have H := Lib.hid h
  have S := Lib.hid h.step
  have y1 := h.c1
  have y2 := h.f1
  clear h
  have hT : (t : Int) + 1 = ((t + 1 : Nat) : Int) := by omega
  have HT := Lib.hid hT
  have h0 : 0 ≤ (t : Int) ∧ (t : Int) ≤ 1099511627776 := by omega
  generalize (t : Int) = T at *
  obtain ⟨T1, hT1⟩ : ∃ T1, T1 = T + 1 := ⟨_, rfl⟩
  have hw : IntKind.i64.wrap (T + 1) = T1 := by rw [hT1]; exact IntWalk.i64_in _ (by omega)
  rw [← hT1] at S HT
  clear hT hT1 h0
  go_enter Try.func47, Try.ntmps47
  go_upto_region 2 with (fail)
  clear hw y1 y2
  generalize w.setCell ⟨sb, 1, none⟩ (.int .i64 T1) = w1 at *
  have z0 := S.out.1.c0
  have z1 := S.out.1.c1
  rw [← HT.out] at z1
  have k0 : ¬ (k : Int) = 0 := by omega
  have b0 : ((k : Int) == 0) = false := by simp; omega
  have SD := Lib.hid (S.out.1.next (Below.refl _ _).drew)
  go_region_with (go_at_call 66; refine (at_any v n sb (t + 1) T1 _ SD.out.ls (by omega) HT.out).mono ?_; rintro e w2 ⟨⟨m, rfl⟩, hb⟩; have B2 := Lib.hid hb; clear hb)
  all_goals (
    go_wp2
    go_ret
    refine ⟨⟨m % k, Nat.mod_lt _ hk, ?_⟩, SD.out.next B2.out, ?_⟩
    · have q : (m : Int).tmod (k : Int) = ((m % k : Nat) : Int) := by rw [Int.tmod_eq_emod_of_nonneg (by omega)]; rfl
      exact ret_int q
    · exact S.out.2.trans (grw_below (grw_of_below _ (Below.refl _ _).drew) B2.out))

theorem bnode_any (op : Int) (p : Option Addr) (m c : Nat) (w : World) : Calls Try.prog 49 #[.int .i64 op, .slice p m c] w fun e w' => e = .returned (.agg #[.int .i64 op, .int .i64 0, .string ⟨#[]⟩, .slice p m c]) ∧ Below w.heap.size w w' := by
  go_enter Try.func49, Try.ntmps49
  go_wp2
  refine bodyPost_ret (v := .agg #[.int .i64 op, .int .i64 0, .string ⟨#[]⟩, .slice p m c]) ?_ rfl ⟨rfl, (Below.refl _ _).alloc (Nat.le_refl _) _⟩
  rw [results_cell1 rfl]
  go_simp

end Go.Proofs.Ytijbjnbbglcacaa
