/-
  Valid tokens, plain: every token that is scanned is valid, and the text of a valid token is scanned as that token.
-/
import Derived.Test.YtjdjbjblblmdjaaDoorTkT
import Derived.Test.YtjdjbjblblmdjaaDoorTkP
import Derived.Test.YtjdjbjblblmdjaaDoorKtj
namespace Go.Proofs.YtjdjbjblblmdjaaDoor
set_option linter.unusedVariables false
set_option linter.unusedSimpArgs false
open Go.ChangeShapes Go.WideShapes Go.ChangeAt Go.RowKit

theorem inW_ne {b : UInt8} (h : Tk.inW b = true) : b.toNat ≠ 32 ∧ b.toNat ≠ 35 := by
  unfold Tk.inW at h; rw [decide_eq_true_eq] at h; omega
theorem wl_all (l : List UInt8) (h : ∀ b ∈ l, Tk.inW b = true) : Tk.wl l = l.length := by
  induction l with
  | nil => rfl
  | cons c l ih =>
    rw [Tk.wl_cons, if_pos (h c (List.mem_cons_self ..)), ih (fun b hb => h b (List.mem_cons_of_mem _ hb))]
    rfl
theorem ext_all (s : ByteArray) : s.extract 0 s.size = s := by
  apply ByteArray.ext
  simp
theorem getD_mem {l : List UInt8} {i : Nat} (h : i < l.length) : l.getD i 0 ∈ l := by
  rw [List.getD_eq_getElem?_getD, List.getElem?_eq_getElem h]; exact List.getElem_mem _
theorem has_no {l : List UInt8} (h : ∀ b ∈ l, b.toNat ≠ 35) : Tk.has l 35 = false := by
  unfold Tk.has
  rw [List.any_eq_false]
  intro b hb
  simpa using h b hb
/-- One token at the beginning that is as long as the text. -/
theorem scan_one {s : ByteArray} {t : Tk.T3} (hs : 0 < s.size) (h1 : (s.data.toList.getD 0 0).toNat ≠ 32) (h2 : (s.data.toList.getD 0 0).toNat ≠ 35) (h : Tk.tokAt s 0 = (some t, s.size)) : Tk.scanT s = ([⟨t, 0⟩], 0, 0) := by
  have q := Tk.scan_step s 0 [] hs
  rw [Nat.sub_zero, if_neg h2, if_neg h1, h] at q
  dsimp only at q
  rw [if_neg (by decide), Nat.zero_add, Tk.scan_end s s.size _ (Nat.le_refl _)] at q
  exact q
theorem okT_word {s : ByteArray} {k : Int} {x : ByteArray} {n : Int} (hs : 0 < s.size) (hw : ∀ b ∈ s.data.toList, Tk.inW b = true) (h : Tk.word s = some ⟨k, x, n⟩) : OkT s k x n := by
  have g : ∀ i, i < s.size → Tk.inW (s.data.toList.getD i 0) = true := fun i hi => hw _ (getD_mem (by rw [len_atT]; exact hi))
  have ht : Tk.tokAt s 0 = (some ⟨k, x, n⟩, s.size) := by
    unfold Tk.tokAt
    rw [if_pos (g 0 hs), List.drop_zero, wl_all _ hw, len_atT, Nat.zero_add, ext_all, h]
  have hq := scan_one hs (inW_ne (g 0 hs)).1 (inW_ne (g 0 hs)).2 ht
  exact ⟨hs, (inW_ne (g 0 hs)).1, (inW_ne (g 0 hs)).2, by rw [hq], ⟨0, by rw [hq]⟩, (inW_ne (g (s.size - 1) (by omega))).1, has_no fun b hb => (inW_ne (hw b hb)).2⟩
theorem allD_inW {l : List UInt8} (h : Txt.allD l = true) : ∀ b ∈ l, Tk.inW b = true ∧ b.toNat ≠ 58 ∧ b.toNat < 97 ∧ b.toNat ≠ 64 := by
  intro b hb
  have := (Txt.isD_iff b).1 (List.all_eq_true.1 h b hb)
  refine ⟨?_, by omega, by omega, by omega⟩
  unfold Tk.inW; rw [decide_eq_true_eq]; omega
theorem okT_num (n : Int) (h0 : 0 ≤ n) (h1 : n ≤ 1099511627776) : OkT (itoaB n) 2 ⟨#[]⟩ n := by
  have e : (itoaB n).data.toList = Lib.decDigits n.toNat := by unfold itoaB Lib.itoa; rw [if_neg (by omega)]
  have hd := Txt.dec_allD n.toNat
  have hp := dec_ne n.toNat
  have hz : (itoaB n).size = (Lib.decDigits n.toNat).length := by rw [← len_atT, e]
  have hw : ∀ b ∈ (itoaB n).data.toList, Tk.inW b = true := by rw [e]; exact fun b hb => (allD_inW hd b hb).1
  refine okT_word (by omega) hw ?_
  have hlt : 0 < (itoaB n).size := by omega
  have g0 : (itoaB n)[0] ∈ Lib.decDigits n.toNat := by rw [← e, ← getD_atT _ 0 hlt]; exact getD_mem (by rw [len_atT]; exact hlt)
  have f0 := allD_inW hd _ g0
  have hh : Tk.has (itoaB n).data.toList 58 = false := by
    rw [e]; unfold Tk.has; rw [List.any_eq_false]; intro b hb; simpa using (allD_inW hd b hb).2.1
  rw [word_num hlt (by omega) f0.2.2.2 hh, e]
  have hl := Txt.dec_len_le n.toNat 13 (by omega) (by omega)
  have hv : Txt.num (Lib.decDigits n.toNat) = n := by rw [Txt.dec_num]; omega
  rw [numO_yes ⟨hp, hl, hd, ?_, by rw [hv]; exact h1⟩, hv]
  rintro ⟨q1, q2⟩
  by_cases hn : n.toNat = 0
  · rw [hn] at q2
    have := Txt.dec_len_le 0 1 (by omega) (by omega)
    omega
  · exact dec_head n.toNat (by omega) q1
end Go.Proofs.YtjdjbjblblmdjaaDoor
