/-
  The contract of pairingref11.FormatTokens.
-/
import Derived.Test.YtlhijbfphpkndaaDoorTvF
namespace Go.Proofs.YtlhijbfphpkndaaDoor
set_option linter.unusedVariables false
set_option linter.unusedSimpArgs false
open Go.ChangeShapes Go.WideShapes Go.ChangeAt Go.RowKit

theorem jn_take (D : List Tk.T4) (j : Nat) (t : Tk.T4) (h : D[j]? = some t) : jn (D.take (j + 1)) = if j = 0 then tx t else jn (D.take j) ++ ⟨#[32]⟩ ++ tx t := by
  rw [List.take_add_one, h]
  show jn (D.take j ++ [t]) = _
  rw [jn_snoc]
  have hj := (List.getElem?_eq_some_iff.1 h).1
  by_cases h0 : j = 0
  · rw [if_pos (by rw [h0]; rfl), if_pos h0]
  · rw [if_neg (by intro q; have := congrArg List.length q; rw [List.length_take, List.length_nil] at this; omega), if_neg h0]

set_option maxHeartbeats 2000000 in
set_option maxRecDepth 100000 in
theorem rformat_any (D : List Tk.T4) (p : Option Addr) (cap : Nat) (w : World) (hD : TkAt w D (.slice p D.length cap)) (hok : TkOk D) (ht : Tab w) : Calls Tryd.prog 12 #[.slice p D.length cap] w (FP D w) := by
  have HD := Lib.hid hD
  have HO := Lib.hid hok
  have HT := Lib.hid ht
  go_enter Tryd.func12, Tryd.ntmps12
  go_wp2_with fail
  refine (rvalidate_any D p cap w hD hok ht).mono ?_
  clear hD hok ht
  rintro e w1 ⟨⟨c, rfl, hve⟩, hb⟩
  have V := Lib.hid hve
  have B0 := Lib.hid hb
  clear hve hb
  by_cases hc : c = 0
  · obtain ⟨hn4, hall⟩ := V.out.zero.1 hc
    have AL := Lib.hid hall
    have hn : D.length ≤ 400 := by omega
    subst hc
    clear hall hn4
    go_wp2_with fail
    go_loopw [5, 6] (fun s i wr => ∃ (S : ByteArray) (j : Nat), s = .string S ∧ i = .int .i64 j ∧ j ≤ D.length ∧ S.size ≤ 201 * j ∧ Hid (S = jn (D.take j) ∧ Below w.heap.size w wr)) (fun _ i _ => D.length - (intOf i).toNat)
    case atStart => exact ⟨_, 0, rfl, rfl, Nat.zero_le _, by decide, rfl, B0.out⟩
    case round =>
      obtain ⟨S, j, rfl, rfl, hj, hS, HR⟩ := hrel
      by_cases hlt : j < D.length
      · have hj' : (j : Int) < (D.length : Int) := by omega
        have hj0 : (0 : Int) ≤ (j : Int) := by omega
        obtain ⟨t, htD⟩ : ∃ t, D[j]? = some t := ⟨_, List.getElem?_eq_getElem hlt⟩
        obtain ⟨g, O, rfl, c0, c1, c2, c3⟩ := (HD.out.next HR.out.2).get htD
        have TM := Lib.hid (HO.out t (List.mem_of_getElem? htD))
        have VT1 := AL.out t (List.mem_of_getElem? htD)
        have OK := (valid_ok t.t.kind t.t.text t.t.num).2 VT1
        have hts := vt_size VT1
        have JT := Lib.hid (jn_take D j t htD)
        have T1 := Lib.hid (HT.out.next HR.out.2)
        have TX : Hid (∀ w', Tab w' → Calls Tryd.prog 6 #[.agg #[.int .i64 t.t.kind, .string t.t.text, .int .i64 t.t.num, .int .i64 t.at']] w' fun e w'' => e = .returned (.string (tx t)) ∧ Below w'.heap.size w' w'') := by
          intro w' htab
          refine (ttext_any t.t.kind t.t.text t.t.num t.at' w' htab TM.out.1.1 TM.out.1.2 TM.out.2).mono ?_
          rintro e w'' ⟨⟨r, rfl, hy, -⟩, hb⟩
          exact ⟨by rw [hy OK]; rfl, hb⟩
        clear htD VT1 OK
        by_cases h0 : j = 0
        · have j0 : ¬ 0 < j := by omega
          have E0 : Hid (S ++ tx t = jn (D.take (j + 1))) := by
            unfold Hid
            rw [JT.out, if_pos h0, HR.out.1, h0]
            show (⟨#[]⟩ : ByteArray) ++ tx t = tx t
            apply ByteArray.ext
            simp
          clear h0
          go_wp2_with fail
          refine (TX.out _ T1.out).mono ?_
          rintro e w2 ⟨rfl, hb⟩
          have B2 := Lib.hid (HR.out.2.trans (hb.mono HR.out.2.size))
          clear hb
          generalize tx t = r at *
          go_wp2
          go_roundw
          case rel => exact ⟨_, j + 1, rfl, by go_num, by omega, by rw [ByteArray.size_append]; omega, E0.out, B2.out⟩
          case measure => simp [intOf]; omega
        · have j0 : 0 < j := by omega
          have E0 : Hid (S ++ ⟨#[32]⟩ ++ tx t = jn (D.take (j + 1))) := by
            unfold Hid
            rw [JT.out, if_neg h0, HR.out.1]
          clear h0
          go_wp2_with fail
          refine (TX.out _ T1.out).mono ?_
          rintro e w2 ⟨rfl, hb⟩
          have B2 := Lib.hid (HR.out.2.trans (hb.mono HR.out.2.size))
          clear hb
          generalize tx t = r at *
          go_wp2
          go_roundw
          case rel => exact ⟨_, j + 1, rfl, by go_num, by omega, by rw [ByteArray.size_append, ByteArray.size_append]; show S.size + 1 + r.size ≤ _; omega, E0.out, B2.out⟩
          case measure => simp [intOf]; omega
      · have hj' : ¬ (j : Int) < (D.length : Int) := by omega
        have E0 : Hid (S = jn D) := by have := HR.out.1; rw [List.take_of_length_le (by omega)] at this; exact this
        go_wp2
        go_ret2
        exact fp_yes V.out E0.out HR.out.2
  · have hcB : (c != 0) = true := by simp [hc]
    have HC := Lib.hid hc
    clear hc
    go_wp2
    go_ret2
    exact fp_no V.out HC.out B0.out

end Go.Proofs.YtlhijbfphpkndaaDoor
