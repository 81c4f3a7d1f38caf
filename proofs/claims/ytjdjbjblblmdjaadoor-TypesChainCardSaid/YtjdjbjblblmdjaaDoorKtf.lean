/-
  The table that Itoa reads; Itoa, FormatInt, padded, two.
-/
import Derived.Test.YtjdjbjblblmdjaaDoorKtc
namespace Go.Proofs.YtjdjbjblblmdjaaDoor
set_option linter.unusedVariables false
set_option linter.unusedSimpArgs false
open Go.ChangeShapes Go.WideShapes Go.ChangeAt Go.RowKit

/-- The table that Itoa reads lies as the library's text lays it. -/
def Tab (w : World) : Prop := Lib.TabIs Tryd.prog w "internal/strconv.uint64pow10" .u64 Lib.pow10Tab ∧ 0 < w.heap.size
theorem tabG : Tryd.prog.globalNamed "internal/strconv.uint64pow10" = some 0 := by kernel_rfl
theorem Tab.below {B : Nat} {w w' : World} (h : Tab w) (hb : Below B w w') (hB : 0 < B) : Tab w' :=
  ⟨var?_below hb tabG hB h.1, by have := hb.size; have := h.2; omega⟩
theorem Tab.of_tab {w : World} (h : Lib.TabIs Tryd.prog w "internal/strconv.uint64pow10" .u64 Lib.pow10Tab) : Tab w :=
  ⟨h, block_lt_of_cell (Lib.TabIs.cell h tabG 0 (by decide))⟩
theorem Tab.next {w w' : World} (h : Tab w) (hb : Below w.heap.size w w') : Tab w' := h.below hb h.2
theorem Tab.alloc {w : World} (h : Tab w) (o : Obj) : Tab (w.alloc o) := h.next ((Below.refl _ _).alloc (Nat.le_refl _) o)
theorem itoa_any (n : Nat) (w : World) (hn : n ≤ 9223372036854775807) (ht : Tab w) :
    Calls Tryd.prog 7 #[.int .i64 n] w fun e w' => e = .returned (.string ⟨(Lib.decDigits n).toArray⟩) ∧ Below w.heap.size w w' := by
  refine (Tryd.strconv_Itoa (n : Int) (by omega) (by omega) w ht.1).mono ?_
  rintro e w' ⟨rfl, k, os, rfl⟩
  refine ⟨?_, below_grow _ _ _⟩
  have : Lib.itoa (n : Int) = Lib.decDigits n := by unfold Lib.itoa; rw [if_neg (by omega)]; simp
  rw [this]
theorem fmtint_ref (n : Nat) (w : World) (hn : n ≤ 9223372036854775807) (ht : Tab w) :
    Calls Tryd.prog 15 #[.int .i64 n] w fun e w' => e = .returned (.string ⟨(Lib.decDigits n).toArray⟩) ∧ Below w.heap.size w w' := by
  go_enter Tryd.func15, Tryd.ntmps15
  go_wp2_with (go_at_call 7; refine (itoa_any _ _ hn ht).mono ?_; rintro e w1 ⟨rfl, hb⟩)
  go_ret
  exact ⟨rfl, hb⟩
set_option maxHeartbeats 1000000 in
theorem two_any (n k : Nat) (w : World) (hn : n ≤ 9223372036854775807) (hk : k ≤ 100) (ht : Tab w) :
    Calls Tryd.prog 16 #[.int .i64 n, .int .i64 k] w fun e w' => e = .returned (.string ⟨(Txt.pad n k).toArray⟩) ∧ Below w.heap.size w w' := by
  have P : Hid (Txt.pad n k = List.replicate (k - (Lib.decDigits n).length) 48 ++ Lib.decDigits n) := rfl
  obtain ⟨dd, hdd⟩ : ∃ dd, dd = Lib.decDigits n := ⟨_, rfl⟩
  have hd20 : dd.length ≤ 20 := by rw [hdd]; exact Txt.dec_len_le n 20 (by omega) (by omega)
  rw [← hdd] at P
  have D := Lib.hid hdd
  clear hdd
  go_enter Tryd.func16, Tryd.ntmps16
  go_wp2_with fail
  refine (fmtint_ref n _ hn ht).mono ?_
  rw [← D.out]
  rintro e w1 ⟨rfl, hb1⟩
  go_wp2_with fail
  go_loop [5] (fun v => ∃ j : Nat, ∃ l : List UInt8, l.length ≤ 120 ∧ v = .string ⟨l.toArray⟩ ∧ Hid (l = List.replicate j 48 ++ dd ∧ (j = 0 ∨ j + dd.length ≤ k))) (fun v => k - (match v with | .string s => s.size | _ => 0))
  case atStart => exact ⟨0, dd, by omega, rfl, by simp, .inl rfl⟩
  case round =>
    obtain ⟨j, l, hl, rfl, HL⟩ := hrel
    by_cases hlt : l.length < k
    · have h2 : (l.length : Int) < (k : Int) := by omega
      have hs : ¬ 9223372036854775807 < 1 + l.length := by omega
      go_wp2
      go_round
      case rel =>
        obtain ⟨rfl, hj⟩ := HL.out
        simp at hlt
        exact ⟨j + 1, 48 :: (List.replicate j 48 ++ dd), by simp at hl ⊢; omega, congrArg Value.string (ba_app [48] (List.replicate j 48 ++ dd)), by simp [List.replicate_succ], .inr (by omega)⟩
      case measure =>
        simp [ByteArray.size] 
        omega
    · have h2 : ¬ (l.length : Int) < (k : Int) := by omega
      go_wp2
      go_ret
      refine ⟨ret_str ?_, hb1⟩
      obtain ⟨rfl, hj⟩ := HL.out
      simp at hlt
      rw [P.out]
      rcases hj with rfl | hj
      · simp at hlt ⊢; simp [show k - dd.length = 0 from by omega]
      · rw [show k - dd.length = j from by omega]

end Go.Proofs.YtjdjbjblblmdjaaDoor
