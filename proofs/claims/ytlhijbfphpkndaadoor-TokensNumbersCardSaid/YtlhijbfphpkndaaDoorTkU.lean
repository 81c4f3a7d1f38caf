/-
  The walk of TokensNumbers.
-/
import Derived.Test.YtlhijbfphpkndaaDoorTkT
namespace Go.Proofs.YtlhijbfphpkndaaDoor
set_option linter.unusedVariables false
set_option linter.unusedSimpArgs false
open Go.ChangeShapes Go.WideShapes Go.ChangeAt Go.RowKit

theorem and_40 (n : Int) : bits .and .i64 n 1099511627775 = n % 1099511627776 := by
  have h127 : (BitVec.ofInt 64 1099511627775).toNat = 2 ^ 40 - 1 := by decide
  have key : (BitVec.ofInt 64 n &&& BitVec.ofInt 64 1099511627775).toNat = (n % ((2 ^ 64 : Nat) : Int)).toNat % 2 ^ 40 := by
    rw [BitVec.toNat_and, BitVec.toNat_ofInt, h127, Nat.and_two_pow_sub_one_eq_mod]
  show IntKind.i64.wrap ((BitVec.ofInt 64 n &&& BitVec.ofInt 64 1099511627775).toNat : Nat) = n % 1099511627776
  rw [key, IntKind.wrap_i64]
  omega
theorem ttext_num (m : Int) (w : World) (ht : Tab w) (h0 : 0 ≤ m) (h1 : m ≤ 1099511627776) :
    Calls Tryd.prog 6 #[.agg #[.int .i64 2, .string ⟨#[]⟩, .int .i64 m, .int .i64 0]] w fun e w' => (∃ r : ByteArray, e = .returned (.string r) ∧ r.size ≤ 21) ∧ Below w.heap.size w w' := by
  refine (ttext_any 2 ⟨#[]⟩ m 0 w ht (by omega) (by omega) (by decide)).mono ?_
  rintro e w' ⟨⟨r, rfl, hy, hn⟩, hb⟩
  refine ⟨⟨r, rfl, ?_⟩, hb⟩
  by_cases q : OkT (txtR 2 ⟨#[]⟩ m) 2 ⟨#[]⟩ m
  · rw [hy q]
    have : txtR 2 ⟨#[]⟩ m = itoaB m := by unfold txtR; rw [if_neg (by omega), if_pos rfl]
    rw [this]
    exact itoa_size m (by omega) (by omega)
  · rw [hn q]; decide

set_option maxHeartbeats 1000000 in
set_option maxRecDepth 100000 in
theorem walk_tokensNumbers (n f : Int) (w : World) (_ : (Lit.int .i64 n).wf = true) (_ : (Lit.int .i64 f).wf = true) (ht : Tab w) :
    Calls Tryd.prog 3 #[.int .i64 n, .int .i64 f] w fun e w' => e = .returned (.bool true) ∧ Below w.heap.size w w' := by
  have HT := Lib.hid ht
  clear ht
  have AW := Lib.hid tawake_any
  obtain ⟨fm, hfm⟩ : ∃ z, bits BinOp.and IntKind.i64 f 7 = z := ⟨_, rfl⟩
  have MM : Hid (∀ z : Int, 0 ≤ bits BinOp.and IntKind.i64 z 1099511627775 ∧ bits BinOp.and IntKind.i64 z 1099511627775 ≤ 1099511627776) := fun z => by rw [and_40]; omega
  go_enter Tryd.func3, Tryd.ntmps3
  go_upto_if 13 with (fail)
  go_cut [0] (fun v wx => (∃ z : Int, v = .int .i64 z) ∧ wx = w)
  case first =>
    by_cases h : n < 0
    · go_wp2
      go_meet
      exact ⟨⟨_, rfl⟩, rfl⟩
    · go_wp2
      go_meet
      exact ⟨⟨_, rfl⟩, rfl⟩
  case rest =>
    obtain ⟨⟨z, rfl⟩, rfl⟩ := hcut
    obtain ⟨hm0, hm1⟩ := MM.out z
    clear MM
    obtain ⟨m, hm⟩ : ∃ m, bits BinOp.and IntKind.i64 z 1099511627775 = m := ⟨_, rfl⟩
    rw [hm] at hm0 hm1
    go_wp2_with fail
    clear hm
    refine (ttext_num m _ HT.out hm0 hm1).mono ?_
    rintro e w1 ⟨⟨r, rfl, hr⟩, hb⟩
    have B1 := Lib.hid hb
    clear hb
    go_upto_block 0 with (fail)
    go_cut [5] (fun v wx => ∃ S : ByteArray, v = .string S ∧ S.size ≤ 100 ∧ wx = w1)
    case first =>
      clear hfm
      by_cases f0 : fm = 0
      · have q0 : (fm == 0) = true := by simp [f0]
        clear f0
        go_wp2
        go_meet
        exact ⟨_, rfl, by rw [ByteArray.size_append]; show r.size + 3 ≤ 100; omega, rfl⟩
      · have q0 : (fm == 0) = false := by simp [f0]
        by_cases f1 : fm = 1
        · have q1 : (fm == 1) = true := by simp [f1]
          clear f0 f1
          go_wp2
          go_meet
          exact ⟨_, rfl, by rw [ByteArray.size_append, ByteArray.size_append]; show r.size + 2 + r.size ≤ 100; omega, rfl⟩
        · have q1 : (fm == 1) = false := by simp [f1]
          by_cases f2 : fm = 2
          · have q2 : (fm == 2) = true := by simp [f2]
            clear f0 f1 f2
            go_wp2
            go_meet
            exact ⟨_, rfl, by rw [ByteArray.size_append, ByteArray.size_append]; show 1 + r.size + 3 ≤ 100; omega, rfl⟩
          · have q2 : (fm == 2) = false := by simp [f2]
            by_cases f3 : fm = 3
            · have q3 : (fm == 3) = true := by simp [f3]
              clear f0 f1 f2 f3
              go_wp2
              go_meet
              exact ⟨_, rfl, by rw [ByteArray.size_append]; show 1 + r.size ≤ 100; omega, rfl⟩
            · have q3 : (fm == 3) = false := by simp [f3]
              by_cases f4 : fm = 4
              · have q4 : (fm == 4) = true := by simp [f4]
                clear f0 f1 f2 f3 f4
                go_wp2
                go_meet
                exact ⟨_, rfl, by decide, rfl⟩
              · have q4 : (fm == 4) = false := by simp [f4]
                by_cases f5 : fm = 5
                · have q5 : (fm == 5) = true := by simp [f5]
                  clear f0 f1 f2 f3 f4 f5
                  go_wp2
                  go_meet
                  exact ⟨_, rfl, by decide, rfl⟩
                · have q5 : (fm == 5) = false := by simp [f5]
                  by_cases f6 : fm = 6
                  · have q6 : (fm == 6) = true := by simp [f6]
                    clear f0 f1 f2 f3 f4 f5 f6
                    go_wp2
                    go_meet
                    exact ⟨_, rfl, by rw [ByteArray.size_append]; show 5 + r.size ≤ 100; omega, rfl⟩
                  · have q6 : (fm == 6) = false := by simp [f6]
                    clear f0 f1 f2 f3 f4 f5 f6
                    go_wp2
                    go_meet
                    exact ⟨_, rfl, by omega, rfl⟩
    case rest =>
      obtain ⟨S, rfl, hS, rfl⟩ := hcut
      have hS9 : S.size ≤ 9223372036854775807 := by omega
      go_wp2_with fail
      refine (tscan_any S _ hS9).mono ?_
      rintro e w2 ⟨v1, rfl, t1, b1⟩
      have T1 := Lib.hid t1
      have B2 := Lib.hid (B1.out.trans (b1.mono B1.out.size))
      clear t1 b1
      go_wp2_with fail
      refine (rscan_any S w2 hS9).mono ?_
      rintro e w3 ⟨v2, rfl, t2, b2⟩
      have T2 := Lib.hid (T1.out.next b2)
      have U2 := Lib.hid t2
      have B3 := Lib.hid (B2.out.trans (b2.mono B2.out.size))
      clear t2 b2 T1
      generalize Tk.scanT S = R at *
      obtain ⟨D, a, c⟩ := R
      dsimp only at T2 U2 ⊢
      go_wp2_with fail
      refine (same_any D D v1 v2 false w3 T2.out U2.out rfl (fun _ => rfl)).mono ?_
      rintro e w4 ⟨rfl, b3⟩
      have B4 := Lib.hid (B3.out.trans (b3.mono B3.out.size))
      clear b3
      go_wp2_with fail
      refine (AW.out w4).mono ?_
      rintro e w5 ⟨rfl, b4⟩
      have B5 := Lib.hid (B4.out.trans (b4.mono B4.out.size))
      clear b4
      go_wp2
      go_ret
      exact ⟨rfl, B5.out⟩

end Go.Proofs.YtlhijbfphpkndaaDoor
