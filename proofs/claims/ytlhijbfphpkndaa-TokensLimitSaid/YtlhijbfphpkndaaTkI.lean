/-
  The walk of TokensLimit.
-/
import Derived.Test.YtlhijbfphpkndaaTkA
import Derived.Laws.IdiomStrings
namespace Go.Proofs.Ytlhijbfphpkndaa
set_option linter.unusedVariables false
set_option linter.unusedSimpArgs false
open Go.ChangeShapes Go.WideShapes Go.ChangeAt Go.RowKit

theorem and_1 (n : Int) : bits .and .i64 n 1 = n % 2 := by
  have h127 : (BitVec.ofInt 64 1).toNat = 2 ^ 1 - 1 := by decide
  have key : (BitVec.ofInt 64 n &&& BitVec.ofInt 64 1).toNat = (n % ((2 ^ 64 : Nat) : Int)).toNat % 2 ^ 1 := by
    rw [BitVec.toNat_and, BitVec.toNat_ofInt, h127, Nat.and_two_pow_sub_one_eq_mod]
  show IntKind.i64.wrap ((BitVec.ofInt 64 n &&& BitVec.ofInt 64 1).toNat : Nat) = n % 2
  rw [key, IntKind.wrap_i64]
  omega
theorem Try.infoB : (Try.prog.info? 5).map (fun i => (i.zero, i.size, i.bytes)) = some (some (.int .u8 0), 1, 1) := by kernel_rfl
/-- The bytes, as far as they are written. -/
def plusL (m n : Nat) : List Value := (List.range n).map fun i => .int .u8 (if i < 2 * m then (if i % 2 = 0 then 43 else 32) else 0)
theorem plus_at (m n i : Nat) (h : i < n) : (plusL m n)[i]? = some (.int .u8 (if i < 2 * m then (if i % 2 = 0 then 43 else 32) else 0)) := by
  simp [plusL, h]
theorem plus_set (m n : Nat) (h : 2 * m + 1 < n) : ((plusL m n).set (2 * m) (.int .u8 43)).set (2 * m + 1) (.int .u8 32) = plusL (m + 1) n := by
  apply List.ext_getElem?
  intro i
  by_cases hi : i < n
  · rw [plus_at _ _ _ hi, List.getElem?_set, List.getElem?_set]
    by_cases h1 : 2 * m + 1 = i
    · subst h1
      have e : (if 2 * m + 1 < 2 * (m + 1) then (if (2 * m + 1) % 2 = 0 then (43 : Int) else 32) else 0) = 32 := by rw [if_pos (by omega), if_neg (by omega)]
      rw [e, if_pos rfl, if_pos (by simp [plusL]; omega)]
    · rw [if_neg h1]
      by_cases h2 : 2 * m = i
      · subst h2
        have e : (if 2 * m < 2 * (m + 1) then (if (2 * m) % 2 = 0 then (43 : Int) else 32) else 0) = 43 := by rw [if_pos (by omega), if_pos (by omega)]
        rw [e, if_pos rfl, if_pos (by simp [plusL]; omega)]
      · rw [if_neg h2, plus_at _ _ _ hi]
        have e : (if i < 2 * (m + 1) then (if i % 2 = 0 then (43 : Int) else 32) else 0) = (if i < 2 * m then (if i % 2 = 0 then (43 : Int) else 32) else 0) := by
          by_cases h3 : i < 2 * m
          · rw [if_pos h3, if_pos (by omega)]
          · rw [if_neg h3, if_neg (by omega)]
        rw [e]
  · rw [List.getElem?_eq_none (by simp [plusL]; omega), List.getElem?_eq_none (by simp [plusL]; omega)]
theorem plus_zero (n : Nat) : (madeCells #[Value.int .u8 0] n).toList = plusL 0 n := by
  rw [toList_madeCells_one]
  apply List.ext_getElem?
  intro i
  by_cases hi : i < n
  · rw [plus_at _ _ _ hi, if_neg (by omega)]; simp [hi]
  · rw [List.getElem?_eq_none (by simp; omega), List.getElem?_eq_none (by simp [plusL]; omega)]
def plusB (n : Nat) : List UInt8 := (List.range n).map fun i => if i % 2 = 0 then 43 else 32
theorem plusB_len (n : Nat) : (plusB n).length = n := by simp [plusB]
theorem plusB_at (n i : Nat) (h : i < n) : (plusB n).getD i 0 = if i % 2 = 0 then 43 else 32 := by
  rw [List.getD_eq_getElem?_getD]; simp [plusB, h]
theorem plus_cells {w : World} {base g N n m : Nat} (h : w.ownsRow base 5 1 (.slice (some ⟨g, 0, none⟩) N N) N (plusL m N)) (hn : n ≤ 2 * m) (hN : n ≤ N) : ∀ j (hj : j < (plusB n).length), w.cell? ((⟨g, 0, none⟩ : Addr).add j) = some (.int .u8 ((plusB n)[j].toNat : Int)) := by
  intro j hj
  have hj' : j < n := by rw [plusB_len] at hj; exact hj
  have e : (⟨g, 0, none⟩ : Addr).add j = ⟨g, j, none⟩ := by unfold Addr.add; split <;> simp_all
  rw [e, h.cellAt j (by omega), plus_at _ _ _ (by omega), if_pos (by omega)]
  simp only [plusB, List.getElem_map, List.getElem_range]
  split <;> rfl
theorem pb_size (n : Nat) : (⟨(plusB n).toArray⟩ : ByteArray).size = n := by show (plusB n).toArray.size = n; simp [plusB_len]
theorem pb_scan (n m : Nat) (hm : m ≤ 400) (hn : 2 * m ≤ n) : ∃ D : List Tk.T4, D.length = m ∧ Tk.scanT ⟨(plusB n).toArray⟩ = Tk.scan ⟨(plusB n).toArray⟩ (n - 2 * m) (2 * m) D := by
  obtain ⟨D, h1, h2⟩ := Tk.scan_plus ⟨(plusB n).toArray⟩ m (by rw [pb_size]; exact hn) (fun i hi => by
      show (plusB n).getD (2 * i) 0 = 43
      rw [plusB_at _ _ (by omega), if_pos (by omega)]) (fun i hi => by
      show (plusB n).getD (2 * i + 1) 0 = 32
      rw [plusB_at _ _ (by omega), if_neg (by omega)]) m (Nat.le_refl _) hm
  rw [pb_size] at h2
  exact ⟨D, h1, h2⟩
theorem plus_tok2 (s : ByteArray) (i : Nat) (hi : i < s.size) (h : s.data.toList.getD i 0 = 43) : Tk.tokAt s i = (some ⟨5, s.extract i (i + 1), 0⟩, 1) := by
  have hs : Tk.sgn (s.data.toList.drop i) = 1 := by
    unfold Tk.sgn
    rw [Tk.getD_drop, h, if_neg (fun q => absurd q.1 (by decide)), if_pos ⟨by rw [List.length_drop, len_at]; omega, by decide⟩]
  unfold Tk.tokAt
  rw [h, if_neg (by decide), hs]
  rfl
theorem bang_tok (s : ByteArray) (i : Nat) (h : s.data.toList.getD i 0 = 33) : Tk.tokAt s i = (none, 0) := by
  have hs : Tk.sgn (s.data.toList.drop i) = 0 := by
    unfold Tk.sgn
    rw [Tk.getD_drop, h, if_neg (fun q => absurd q.1 (by decide)), if_neg (fun q => absurd q.2 (by decide))]
  unfold Tk.tokAt
  rw [h, if_neg (by decide), hs]
  rfl
theorem lim_ok : ∃ D : List Tk.T4, D.length = 400 ∧ Tk.scanT ⟨(plusB 800).toArray⟩ = (D, 0, 0) := by
  obtain ⟨D, h1, h2⟩ := pb_scan 800 400 (by omega) (by omega)
  have h3 := Tk.scan_end ⟨(plusB 800).toArray⟩ 800 D (by rw [pb_size]; exact Nat.le_refl _)
  rw [pb_size] at h3
  exact ⟨D, h1, h2.trans h3⟩
theorem lim_more : Tk.scanT ⟨(plusB 802).toArray⟩ = ([], 800, 10) := by
  generalize hN : 802 = N
  have hN2 : N = 802 := hN.symm
  clear hN
  obtain ⟨D, h1, h2⟩ := pb_scan N 400 (by omega) (by omega)
  have h3 := Tk.scan_step ⟨(plusB N).toArray⟩ 800 D (by rw [pb_size]; omega)
  rw [pb_size] at h3
  have g0 : (plusB N).getD 800 0 = 43 := by rw [plusB_at _ _ (by omega), if_pos (by omega)]
  have hp := plus_tok2 ⟨(plusB N).toArray⟩ 800 (by rw [pb_size]; omega) g0
  have g1 : (⟨(plusB N).toArray⟩ : ByteArray).data.toList.getD 800 0 = 43 := g0
  rw [g1, if_neg (by decide), if_neg (by decide), hp] at h3
  dsimp only at h3
  rw [if_pos h1] at h3
  exact h2.trans h3
theorem lim_bad (N : Nat) (hN : N = 800) : Tk.scanT ⟨(plusB N ++ [33]).toArray⟩ = ([], 800, 1) := by
  have hz : (⟨(plusB N ++ [33]).toArray⟩ : ByteArray).size = N + 1 := by show (plusB N ++ [33]).toArray.size = N + 1; simp [plusB_len]
  have ga : ∀ i, i < N → (plusB N ++ [33]).getD i 0 = (plusB N).getD i 0 := fun i hi => by
    rw [List.getD_eq_getElem?_getD, List.getD_eq_getElem?_getD, List.getElem?_append_left (by rw [plusB_len]; exact hi)]
  obtain ⟨D, h1, h2⟩ := Tk.scan_plus ⟨(plusB N ++ [33]).toArray⟩ 400 (by rw [hz]; omega) (fun i hi => by
      show (plusB N ++ [33]).getD (2 * i) 0 = 43
      rw [ga _ (by omega), plusB_at _ _ (by omega), if_pos (by omega)]) (fun i hi => by
      show (plusB N ++ [33]).getD (2 * i + 1) 0 = 32
      rw [ga _ (by omega), plusB_at _ _ (by omega), if_neg (by omega)]) 400 (Nat.le_refl _) (Nat.le_refl _)
  have h3 := Tk.scan_step ⟨(plusB N ++ [33]).toArray⟩ N D (by rw [hz]; omega)
  rw [hz] at h2 h3
  have g0 : (plusB N ++ [33]).getD N 0 = 33 := by
    rw [List.getD_eq_getElem?_getD, List.getElem?_append_right (by rw [plusB_len]; exact Nat.le_refl _), plusB_len]; simp
  have g1 : (⟨(plusB N ++ [33]).toArray⟩ : ByteArray).data.toList.getD N 0 = 33 := g0
  have ht := bang_tok ⟨(plusB N ++ [33]).toArray⟩ N g1
  rw [g1, if_neg (by decide), if_neg (by decide), ht] at h3
  rw [h2, show 2 * 400 = N by omega, h3, hN]
  rfl
theorem plus_cellsB {w : World} {base g N n m : Nat} {b : List UInt8} (hb : b = plusB n) (h : w.ownsRow base 5 1 (.slice (some ⟨g, 0, none⟩) N N) N (plusL m N)) (hn : n ≤ 2 * m) (hN : n ≤ N) : ∀ j (hj : j < b.length), w.cell? ((⟨g, 0, none⟩ : Addr).add j) = some (.int .u8 (b[j].toNat : Int)) := by
  subst hb; exact plus_cells h hn hN
theorem plusB_ex (n : Nat) : ∃ b, b = plusB n := ⟨_, rfl⟩

set_option maxHeartbeats 2000000 in
set_option maxRecDepth 100000 in
theorem walk_tokensLimit (n : Int) (w : World) (_ : (Lit.int .i64 n).wf = true) : Calls Try.prog 4 #[.int .i64 n] w fun e w' => e = .returned (.bool true) ∧ Below w.heap.size w w' := by
  have AW := Lib.hid tawake_any
  obtain ⟨i0, hi, hi0, hi1, hi2⟩ := info_parts Try.infoB
  have HI2 := Lib.hid hi2
  by_cases hk : n % 2 = 0
  · obtain ⟨bN, hbN⟩ := plusB_ex 800
    obtain ⟨b8, hb8⟩ := plusB_ex 800
    have LN : Hid (bN.length = 800) := by unfold Hid; rw [hbN, plusB_len]
    have L8 : Hid (b8.length = 800) := by unfold Hid; rw [hb8, plusB_len]
    have HN := Lib.hid hbN
    have H8 := Lib.hid hb8
    obtain ⟨S8, hS8⟩ : ∃ S : ByteArray, S = ⟨(b8 ++ [33]).toArray⟩ := ⟨_, rfl⟩
    have SB : Hid (Tk.scanT S8 = ([], 800, 1)) := by unfold Hid; rw [hS8, hb8]; exact lim_bad 800 rfl
    have E2 : Hid ((⟨b8.toArray⟩ : ByteArray) ++ ⟨#[33]⟩ = S8) := by unfold Hid; rw [hS8]; exact ba_app b8 [33]
    have HZ2 : Hid (S8.size ≤ 9223372036854775807) := by unfold Hid; rw [hS8]; show (b8 ++ [33]).toArray.size ≤ _; have := L8.out; simp; omega
    clear hS8
    have SN : Hid (∃ D : List Tk.T4, D.length = 400 ∧ Tk.scanT ⟨bN.toArray⟩ = (D, 0, 0)) := by unfold Hid; rw [hbN]; exact lim_ok
    clear hbN hb8
    have hb0 : bits BinOp.and IntKind.i64 n 1 = 0 := by rw [and_1]; exact hk
    clear hk
    go_enter Try.func4, Try.ntmps4
    go_wp2_with (refine wpList_make_full _ rfl _ _ 29 rfl w.heap.size 5 i0 (.int .u8 0) 1 Try.underlying29 hi hi0 hi1 .i64 .i64 _ _ 800 rfl rfl (by first | rfl | decide | simp) (by first | rfl | decide | simp) ?m1 ?m2 ?m3 ?_)
    case m1 => rw [hi2]; decide
    case m2 => unfold maxLen; omega
    case m3 => exact Nat.le_refl _
    intro w1 hown hg
    rw [plus_zero] at hown
    have O1 := Lib.hid hown
    have B1 : Hid (Below w.heap.size w w1) := ⟨hg.os, hg.tape, hg.output, hg.size, fun i hi => hg.block i hi (by simp)⟩
    have hz1 : w.heap.size < w1.heap.size := (hown.lt _ rfl).2
    clear hown hg hb0
    go_wp2_with fail
    go_loopw [5] (fun i wr => ∃ (j m : Nat), i = .int .i64 j ∧ j ≤ 800 ∧ w.heap.size < wr.heap.size ∧ Hid (j = 2 * m ∧ wr.ownsRow w.heap.size 5 1 (.slice (some ⟨w.heap.size, 0, none⟩) 800 800) 800 (plusL m 800) ∧ Below w.heap.size w wr)) (fun i _ => 800 - (intOf i).toNat)
    case atStart => exact ⟨0, 0, rfl, by omega, hz1, rfl, O1.out, B1.out⟩
    case round =>
      obtain ⟨j, m, rfl, hj, hsz, HR⟩ := hrel
      by_cases hlt : j < 800
      · have hj' : (j : Int) < 800 := by omega
        have hj1 : j + 1 < 800 := by have := HR.out.1; omega
        have c0 := HR.out.2.1.cellAt j (by omega)
        have c1 := HR.out.2.1.cellAt (j + 1) (by omega)
        rw [plus_at _ _ _ hlt] at c0
        rw [plus_at _ _ _ hj1] at c1
        have f0 := HR.out.2.1.frozenAt j
        have f1 := HR.out.2.1.frozenAt (j + 1)
        have S1 := HR.out.2.1.stored j (.int .u8 43)
        have S2 := S1.1.stored (j + 1) (.int .u8 32)
        have O2 : Hid (((wr.setCell ⟨w.heap.size, j, none⟩ (.int .u8 43)).setCell ⟨w.heap.size, j + 1, none⟩ (.int .u8 32)).ownsRow w.heap.size 5 1 (.slice (some ⟨w.heap.size, 0, none⟩) 800 800) 800 (plusL (m + 1) 800)) := by
          have := S2.1
          rw [show j = 2 * m from HR.out.1] at this ⊢
          rw [plus_set m 800 (by have := HR.out.1; omega)] at this
          exact this
        have B2 : Hid (Below w.heap.size w ((wr.setCell ⟨w.heap.size, j, none⟩ (.int .u8 43)).setCell ⟨w.heap.size, j + 1, none⟩ (.int .u8 32))) := (HR.out.2.2.setCell (p := ⟨w.heap.size, j, none⟩) (Nat.le_refl _) _).setCell (p := ⟨w.heap.size, j + 1, none⟩) (Nat.le_refl _) _
        have hwj : IntKind.i64.wrap ((j : Int) + 1) = (j : Int) + 1 := IntWalk.i64_in _ (by omega)
        have hj1i : (j : Int) + 1 < 800 := by omega
        have hj0i : (0 : Int) ≤ (j : Int) + 1 := by omega
        clear S1 S2
        go_wp2
        go_roundw
        case rel => exact ⟨j + 2, m + 1, by go_num, by omega, by simpa using hsz, by have := HR.out.1; omega, O2.out, B2.out⟩
        case measure => simp [intOf]; omega
      · have hj' : ¬ (j : Int) < 800 := by omega
        obtain rfl : j = 800 := by omega
        obtain rfl : m = 400 := by have := HR.out.1; omega
        have K1 := run_convert_bytes_back (P := Try.prog) wr 29 9 5 ⟨w.heap.size, 0, none⟩ 800 bN Try.underlying29 Try.underlying5 Try.underlying9 (plus_cellsB HN.out HR.out.2.1 (by omega) (by omega))
        rw [LN.out] at K1
        have HZ1 : Hid ((⟨bN.toArray⟩ : ByteArray).size ≤ 9223372036854775807) := by show bN.toArray.size ≤ _; have := LN.out; simp; omega
        have B2 := Lib.hid HR.out.2.2
        have O2 := Lib.hid HR.out.2.1
        clear HR hj hlt hj'
        go_wp2_with fail
        refine (tscan_any ⟨bN.toArray⟩ wr HZ1.out).mono ?_
        rintro e w2 ⟨v2, rfl, ht, hb⟩
        have O3 : Hid (w2.ownsRow w.heap.size 5 1 (.slice (some ⟨w.heap.size, 0, none⟩) 800 800) 800 (plusL 400 800)) := own_next O2.out hb
        have B3 := Lib.hid (B2.out.trans (hb.mono B2.out.size))
        have T3 := Lib.hid ht
        clear hb ht K1
        have K2 := run_convert_bytes_back (P := Try.prog) w2 29 9 5 ⟨w.heap.size, 0, none⟩ 800 b8 Try.underlying29 Try.underlying5 Try.underlying9 (plus_cellsB H8.out O3.out (by omega) (by omega))
        rw [L8.out] at K2
        have hl8 : b8.length + 1 ≤ 9223372036854775807 := by have := L8.out; omega
        go_wp2_with fail
        rw [E2.out]
        refine (tscan_any S8 w2 HZ2.out).mono ?_
        rintro e w3 ⟨v3, rfl, ht3, hb⟩
        have B4 := Lib.hid (B3.out.trans (hb.mono B3.out.size))
        have T4 := Lib.hid (T3.out.next hb)
        clear hb ht3 K2 T3
        rw [SB.out]
        obtain ⟨D, hD, hR⟩ := SN.out
        rw [hR] at T4 ⊢
        obtain ⟨q, cq, rfl, -, -, -⟩ := T4.out
        rw [hD]
        clear hD hR T4
        go_wp2_with fail
        refine (AW.out w3).mono ?_
        rintro e w4 ⟨rfl, hb⟩
        have B5 := Lib.hid (B4.out.trans (hb.mono B4.out.size))
        clear hb
        go_wp2
        go_ret
        exact ⟨rfl, B5.out⟩
  · have hk : n % 2 = 1 := by omega
    obtain ⟨bN, hbN⟩ := plusB_ex 802
    obtain ⟨b8, hb8⟩ := plusB_ex 800
    have LN : Hid (bN.length = 802) := by unfold Hid; rw [hbN, plusB_len]
    have L8 : Hid (b8.length = 800) := by unfold Hid; rw [hb8, plusB_len]
    have HN := Lib.hid hbN
    have H8 := Lib.hid hb8
    obtain ⟨S8, hS8⟩ : ∃ S : ByteArray, S = ⟨(b8 ++ [33]).toArray⟩ := ⟨_, rfl⟩
    have SB : Hid (Tk.scanT S8 = ([], 800, 1)) := by unfold Hid; rw [hS8, hb8]; exact lim_bad 800 rfl
    have E2 : Hid ((⟨b8.toArray⟩ : ByteArray) ++ ⟨#[33]⟩ = S8) := by unfold Hid; rw [hS8]; exact ba_app b8 [33]
    have HZ2 : Hid (S8.size ≤ 9223372036854775807) := by unfold Hid; rw [hS8]; show (b8 ++ [33]).toArray.size ≤ _; have := L8.out; simp; omega
    clear hS8
    have SN : Hid (Tk.scanT ⟨bN.toArray⟩ = ([], 800, 10)) := by unfold Hid; rw [hbN]; exact lim_more
    clear hbN hb8
    have hb0 : bits BinOp.and IntKind.i64 n 1 = 1 := by rw [and_1]; exact hk
    clear hk
    go_enter Try.func4, Try.ntmps4
    go_wp2_with (refine wpList_make_full _ rfl _ _ 29 rfl w.heap.size 5 i0 (.int .u8 0) 1 Try.underlying29 hi hi0 hi1 .i64 .i64 _ _ 802 rfl rfl (by first | rfl | decide | simp) (by first | rfl | decide | simp) ?m1 ?m2 ?m3 ?_)
    case m1 => rw [hi2]; decide
    case m2 => unfold maxLen; omega
    case m3 => exact Nat.le_refl _
    intro w1 hown hg
    rw [plus_zero] at hown
    have O1 := Lib.hid hown
    have B1 : Hid (Below w.heap.size w w1) := ⟨hg.os, hg.tape, hg.output, hg.size, fun i hi => hg.block i hi (by simp)⟩
    have hz1 : w.heap.size < w1.heap.size := (hown.lt _ rfl).2
    clear hown hg hb0
    go_wp2_with fail
    go_loopw [5] (fun i wr => ∃ (j m : Nat), i = .int .i64 j ∧ j ≤ 802 ∧ w.heap.size < wr.heap.size ∧ Hid (j = 2 * m ∧ wr.ownsRow w.heap.size 5 1 (.slice (some ⟨w.heap.size, 0, none⟩) 802 802) 802 (plusL m 802) ∧ Below w.heap.size w wr)) (fun i _ => 802 - (intOf i).toNat)
    case atStart => exact ⟨0, 0, rfl, by omega, hz1, rfl, O1.out, B1.out⟩
    case round =>
      obtain ⟨j, m, rfl, hj, hsz, HR⟩ := hrel
      by_cases hlt : j < 802
      · have hj' : (j : Int) < 802 := by omega
        have hj1 : j + 1 < 802 := by have := HR.out.1; omega
        have c0 := HR.out.2.1.cellAt j (by omega)
        have c1 := HR.out.2.1.cellAt (j + 1) (by omega)
        rw [plus_at _ _ _ hlt] at c0
        rw [plus_at _ _ _ hj1] at c1
        have f0 := HR.out.2.1.frozenAt j
        have f1 := HR.out.2.1.frozenAt (j + 1)
        have S1 := HR.out.2.1.stored j (.int .u8 43)
        have S2 := S1.1.stored (j + 1) (.int .u8 32)
        have O2 : Hid (((wr.setCell ⟨w.heap.size, j, none⟩ (.int .u8 43)).setCell ⟨w.heap.size, j + 1, none⟩ (.int .u8 32)).ownsRow w.heap.size 5 1 (.slice (some ⟨w.heap.size, 0, none⟩) 802 802) 802 (plusL (m + 1) 802)) := by
          have := S2.1
          rw [show j = 2 * m from HR.out.1] at this ⊢
          rw [plus_set m 802 (by have := HR.out.1; omega)] at this
          exact this
        have B2 : Hid (Below w.heap.size w ((wr.setCell ⟨w.heap.size, j, none⟩ (.int .u8 43)).setCell ⟨w.heap.size, j + 1, none⟩ (.int .u8 32))) := (HR.out.2.2.setCell (p := ⟨w.heap.size, j, none⟩) (Nat.le_refl _) _).setCell (p := ⟨w.heap.size, j + 1, none⟩) (Nat.le_refl _) _
        have hwj : IntKind.i64.wrap ((j : Int) + 1) = (j : Int) + 1 := IntWalk.i64_in _ (by omega)
        have hj1i : (j : Int) + 1 < 802 := by omega
        have hj0i : (0 : Int) ≤ (j : Int) + 1 := by omega
        clear S1 S2
        go_wp2
        go_roundw
        case rel => exact ⟨j + 2, m + 1, by go_num, by omega, by simpa using hsz, by have := HR.out.1; omega, O2.out, B2.out⟩
        case measure => simp [intOf]; omega
      · have hj' : ¬ (j : Int) < 802 := by omega
        obtain rfl : j = 802 := by omega
        obtain rfl : m = 401 := by have := HR.out.1; omega
        have K1 := run_convert_bytes_back (P := Try.prog) wr 29 9 5 ⟨w.heap.size, 0, none⟩ 802 bN Try.underlying29 Try.underlying5 Try.underlying9 (plus_cellsB HN.out HR.out.2.1 (by omega) (by omega))
        rw [LN.out] at K1
        have HZ1 : Hid ((⟨bN.toArray⟩ : ByteArray).size ≤ 9223372036854775807) := by show bN.toArray.size ≤ _; have := LN.out; simp; omega
        have B2 := Lib.hid HR.out.2.2
        have O2 := Lib.hid HR.out.2.1
        clear HR hj hlt hj'
        go_wp2_with fail
        refine (tscan_any ⟨bN.toArray⟩ wr HZ1.out).mono ?_
        rintro e w2 ⟨v2, rfl, ht, hb⟩
        have O3 : Hid (w2.ownsRow w.heap.size 5 1 (.slice (some ⟨w.heap.size, 0, none⟩) 802 802) 802 (plusL 401 802)) := own_next O2.out hb
        have B3 := Lib.hid (B2.out.trans (hb.mono B2.out.size))
        have T3 := Lib.hid ht
        clear hb ht K1
        have K2 := run_convert_bytes_back (P := Try.prog) w2 29 9 5 ⟨w.heap.size, 0, none⟩ 802 b8 Try.underlying29 Try.underlying5 Try.underlying9 (plus_cellsB H8.out O3.out (by omega) (by omega))
        rw [L8.out] at K2
        have hl8 : b8.length + 1 ≤ 9223372036854775807 := by have := L8.out; omega
        go_wp2_with fail
        rw [E2.out]
        refine (tscan_any S8 w2 HZ2.out).mono ?_
        rintro e w3 ⟨v3, rfl, ht3, hb⟩
        have B4 := Lib.hid (B3.out.trans (hb.mono B3.out.size))
        have T4 := Lib.hid (T3.out.next hb)
        clear hb ht3 K2 T3
        rw [SB.out]
        rw [SN.out] at T4 ⊢
        obtain ⟨q, cq, rfl, -, -, -⟩ := T4.out
        clear T4
        dsimp only [List.length_nil]
        go_wp2_with fail
        refine (AW.out w3).mono ?_
        rintro e w4 ⟨rfl, hb⟩
        have B5 := Lib.hid (B4.out.trans (hb.mono B4.out.size))
        clear hb
        go_wp2
        go_ret
        exact ⟨rfl, B5.out⟩

end Go.Proofs.Ytlhijbfphpkndaa
