/-
  Valid tokens, plain: every token that is scanned is valid, and the text of a valid token is scanned as that token.
-/
import Derived.Test.YtlhijbfphpkndaaDoorTkT
import Derived.Test.YtlhijbfphpkndaaDoorKtj
namespace Go.Proofs.YtlhijbfphpkndaaDoor
set_option linter.unusedVariables false
set_option linter.unusedSimpArgs false
open Go.ChangeShapes Go.WideShapes Go.ChangeAt Go.RowKit

/-- A token that the program calls valid. -/
def VT (t : Tk.T3) : Prop :=
  (t.kind = 1 ∧ (∀ b ∈ t.text.data.toList, Tk.inW b = true) ∧ Tk.word t.text = some ⟨1, t.text, 0⟩ ∧ t.num = 0) ∨
  ((t.kind = 2 ∨ t.kind = 3) ∧ t.text = ⟨#[]⟩ ∧ 0 ≤ t.num ∧ t.num ≤ 1099511627776) ∨
  (t.kind = 4 ∧ t.text = ⟨#[]⟩ ∧ 0 ≤ t.num ∧ t.num ≤ 1439) ∨
  (t.kind = 5 ∧ 0 < t.text.size ∧ Tk.sgn t.text.data.toList = t.text.size ∧ t.num = 0)
theorem duR_plain {l : List UInt8} (h : ∀ b ∈ l, Tk.inW b = true) : Txt.duNeg l = false := by
  cases hq : Txt.duNeg l with
  | false => rfl
  | true =>
    obtain ⟨t, rfl⟩ := (Txt.dash_iff l).1 hq
    have := h 45 (List.mem_cons_self ..)
    revert this; decide
theorem word_valid {s : ByteArray} {t : Tk.T3} (hw : ∀ b ∈ s.data.toList, Tk.inW b = true) (h : Tk.word s = some t) : VT t := by
  have h' := h
  unfold Tk.word at h
  split at h
  · split at h
    · cases h
    · obtain rfl := Option.some.inj h
      exact .inl ⟨rfl, hw, h', rfl⟩
  · split at h
    · split at h
      · rename_i hpe
        obtain rfl := Option.some.inj h
        refine .inr (.inr (.inl ⟨rfl, rfl, ?_⟩))
        dsimp only
        unfold pcE at hpe
        unfold pcV
        split at hpe
        · rename_i hf
          split at hpe
          · rename_i hb
            rw [if_pos hf, if_pos hb]
            obtain ⟨hl, -, h1, h2⟩ := (fits5 _).1 hf
            rw [len_at] at hl h2
            rw [← ext_list] at h1 h2
            have m1 := numB_bd ((s.extract 1 s.size).extract 0 2) 2 (by rw [ByteArray.size_extract]; omega) h1
            have m2 := numB_bd ((s.extract 1 s.size).extract 3 (s.extract 1 s.size).size) 2 (by rw [ByteArray.size_extract]; omega) h2
            unfold pcB at hb
            rw [decide_eq_true_eq] at hb
            unfold pcH pcM at hb ⊢
            omega
          · cases hpe
        · cases hpe
      · cases h
    · split at h
      · split at h
        · rename_i hdu
          obtain rfl := Option.some.inj h
          refine .inr (.inl ⟨.inr rfl, rfl, ?_⟩)
          dsimp only
          have hn := duR_plain hw
          unfold Txt.duV
          rw [if_pos hdu, hn, if_neg (by simp)]
          unfold Txt.duE at hdu
          split at hdu
          · rename_i hb
            split at hdu
            · rename_i hq
              refine ⟨?_, hq.2⟩
              unfold Txt.duB at hb
              rw [decide_eq_true_eq] at hb
              have b1 := (Txt.num_bd _ hb.2.2.2.1).1
              have b2 := (Txt.num_bd _ hb.2.2.2.2.1).1
              unfold Txt.duN
              omega
            · cases hdu
          · cases hdu
        · cases h
      · split at h
        · rename_i hno
          obtain rfl := Option.some.inj h
          unfold Tk.numOk at hno
          rw [decide_eq_true_eq] at hno
          exact .inr (.inl ⟨.inl rfl, rfl, (Txt.num_bd _ hno.2.2.1).1, hno.2.2.2.2⟩)
        · cases h
theorem sgn_take (l : List UInt8) (h : Tk.sgn l ≠ 0) : Tk.sgn (l.take (Tk.sgn l)) = Tk.sgn l := by
  unfold Tk.sgn at h ⊢
  by_cases h2 : (l.getD 0 0).toNat = 60 ∧ (l.getD 1 0).toNat = 61
  · rw [if_pos h2]
    match l, h2 with
    | [], h2 => simp at h2
    | [a], h2 => simp at h2
    | a :: b :: l, h2 => exact if_pos h2
  · rw [if_neg h2] at h ⊢
    by_cases h1 : 1 ≤ l.length ∧ Tk.inS (l.getD 0 0) = true
    · rw [if_pos h1]
      match l, h1 with
      | [], h1 => simp at h1
      | a :: l, h1 => simpa using h1.2
    · rw [if_neg h1] at h; exact absurd rfl h
theorem tok_valid {s : ByteArray} {i m : Nat} {t : Tk.T3} (hi : i < s.size) (h : Tk.tokAt s i = (some t, m)) : VT t := by
  unfold Tk.tokAt at h
  by_cases hw : Tk.inW (s.data.toList.getD i 0) = true
  · rw [if_pos hw] at h
    exact word_valid (Tk.word_bytes s i) (Prod.mk.inj h).1
  · rw [if_neg hw] at h
    obtain ⟨h1, h2⟩ := Prod.mk.inj h
    by_cases hg : Tk.sgn (s.data.toList.drop i) = 0
    · rw [if_pos hg] at h1; cases h1
    · rw [if_neg hg] at h1
      obtain rfl := Option.some.inj h1
      have hle := Tk.sgn_le (s.data.toList.drop i)
      rw [List.length_drop, len_at] at hle
      have hz : (s.extract i (i + Tk.sgn (s.data.toList.drop i))).size = Tk.sgn (s.data.toList.drop i) := by rw [ByteArray.size_extract]; omega
      refine .inr (.inr (.inr ⟨rfl, by dsimp only; omega, ?_, rfl⟩))
      dsimp only
      rw [hz, ext_list, List.drop_take, show i + Tk.sgn (s.data.toList.drop i) - i = Tk.sgn (s.data.toList.drop i) by omega]
      exact sgn_take _ hg
/-- Every token that is scanned is valid. -/
theorem scan_valid (s : ByteArray) : ∀ (n i : Nat) (D : List Tk.T4), (∀ t ∈ D, VT t.t) → ∀ t ∈ (Tk.scan s n i D).1, VT t.t := by
  intro n
  induction n with
  | zero => intro i D h; exact h
  | succ n ih =>
    intro i D h
    rw [Tk.scan]
    by_cases h1 : s.size ≤ i
    · rw [if_pos h1]; exact h
    · rw [if_neg h1]
      split
      · exact h
      · split
        · exact ih _ _ h
        · split
          · intro t ht; cases ht
          · rename_i t m hq
            split
            · intro t ht; cases ht
            · refine ih _ _ ?_
              intro u hu
              rcases List.mem_append.1 hu with hu | hu
              · exact h u hu
              · rw [List.mem_singleton.1 hu]; exact tok_valid (by omega) hq
theorem scanT_valid (s : ByteArray) : ∀ t ∈ (Tk.scanT s).1, VT t.t := scan_valid s _ _ _ (fun t ht => by cases ht)
theorem inW_ne {b : UInt8} (h : Tk.inW b = true) : b.toNat ≠ 32 ∧ b.toNat ≠ 35 := by
  unfold Tk.inW at h; rw [decide_eq_true_eq] at h; omega
theorem inS_ne {b : UInt8} (h : Tk.inS b = true) : b.toNat ≠ 32 ∧ b.toNat ≠ 35 ∧ Tk.inW b = false := by
  unfold Tk.inS at h; rw [decide_eq_true_eq] at h
  refine ⟨by omega, by omega, ?_⟩
  unfold Tk.inW; rw [decide_eq_false_iff_not]; omega
theorem wl_all (l : List UInt8) (h : ∀ b ∈ l, Tk.inW b = true) : Tk.wl l = l.length := by
  induction l with
  | nil => rfl
  | cons c l ih =>
    rw [Tk.wl_cons, if_pos (h c (List.mem_cons_self ..)), ih (fun b hb => h b (List.mem_cons_of_mem _ hb))]
    rfl
theorem ext_all (s : ByteArray) : s.extract 0 s.size = s := by
  apply ByteArray.ext
  simp
theorem getD_mem {l : List UInt8} {i : Nat} (h : i < l.length) : l.getD i 0 ∈ l := by
  rw [List.getD_eq_getElem?_getD, List.getElem?_eq_getElem h]; exact List.getElem_mem _
theorem has_no {l : List UInt8} (h : ∀ b ∈ l, b.toNat ≠ 35) : Tk.has l 35 = false := by
  unfold Tk.has
  rw [List.any_eq_false]
  intro b hb
  simpa using h b hb
/-- One token at the beginning that is as long as the text. -/
theorem scan_one {s : ByteArray} {t : Tk.T3} (hs : 0 < s.size) (h1 : (s.data.toList.getD 0 0).toNat ≠ 32) (h2 : (s.data.toList.getD 0 0).toNat ≠ 35) (h : Tk.tokAt s 0 = (some t, s.size)) : Tk.scanT s = ([⟨t, 0⟩], 0, 0) := by
  have q := Tk.scan_step s 0 [] hs
  rw [Nat.sub_zero, if_neg h2, if_neg h1, h] at q
  dsimp only at q
  rw [if_neg (by decide), Nat.zero_add, Tk.scan_end s s.size _ (Nat.le_refl _)] at q
  exact q
theorem okT_word {s : ByteArray} {k : Int} {x : ByteArray} {n : Int} (hs : 0 < s.size) (hw : ∀ b ∈ s.data.toList, Tk.inW b = true) (h : Tk.word s = some ⟨k, x, n⟩) : OkT s k x n := by
  have g : ∀ i, i < s.size → Tk.inW (s.data.toList.getD i 0) = true := fun i hi => hw _ (getD_mem (by rw [len_at]; exact hi))
  have ht : Tk.tokAt s 0 = (some ⟨k, x, n⟩, s.size) := by
    unfold Tk.tokAt
    rw [if_pos (g 0 hs), List.drop_zero, wl_all _ hw, len_at, Nat.zero_add, ext_all, h]
  have hq := scan_one hs (inW_ne (g 0 hs)).1 (inW_ne (g 0 hs)).2 ht
  exact ⟨hs, (inW_ne (g 0 hs)).1, (inW_ne (g 0 hs)).2, by rw [hq], ⟨0, by rw [hq]⟩, (inW_ne (g (s.size - 1) (by omega))).1, has_no fun b hb => (inW_ne (hw b hb)).2⟩
theorem sgn_bytes {l : List UInt8} (h : Tk.sgn l = l.length) (hp : 0 < l.length) : (∀ b ∈ l, Tk.inS b = true) := by
  unfold Tk.sgn at h
  by_cases h2 : (l.getD 0 0).toNat = 60 ∧ (l.getD 1 0).toNat = 61
  · rw [if_pos h2] at h
    match l, h, h2 with
    | [a, b], _, h2 =>
      intro c hc
      have ha : a.toNat = 60 := by simpa using h2.1
      have hb : b.toNat = 61 := by simpa using h2.2
      simp only [List.mem_cons, List.not_mem_nil, or_false] at hc
      unfold Tk.inS
      rw [decide_eq_true_eq]
      rcases hc with rfl | rfl <;> omega
  · rw [if_neg h2] at h
    by_cases h1 : 1 ≤ l.length ∧ Tk.inS (l.getD 0 0) = true
    · rw [if_pos h1] at h
      match l, h, h1 with
      | [a], _, h1 =>
        intro c hc
        rw [List.mem_singleton.1 hc]
        simpa using h1.2
    · rw [if_neg h1] at h; omega
theorem okT_sign {s : ByteArray} (hs : 0 < s.size) (h : Tk.sgn s.data.toList = s.size) : OkT s 5 s 0 := by
  have hb := sgn_bytes (by rw [h, len_at]) (by rw [len_at]; exact hs)
  have g : ∀ i, i < s.size → Tk.inS (s.data.toList.getD i 0) = true := fun i hi => hb _ (getD_mem (by rw [len_at]; exact hi))
  have ht : Tk.tokAt s 0 = (some ⟨5, s, 0⟩, s.size) := by
    unfold Tk.tokAt
    rw [if_neg (by rw [(inS_ne (g 0 hs)).2.2]; simp), List.drop_zero, h, if_neg (by omega), Nat.zero_add, ext_all]
  have hq := scan_one hs (inS_ne (g 0 hs)).1 (inS_ne (g 0 hs)).2.1 ht
  exact ⟨hs, (inS_ne (g 0 hs)).1, (inS_ne (g 0 hs)).2.1, by rw [hq], ⟨0, by rw [hq]⟩, (inS_ne (g (s.size - 1) (by omega))).1, has_no fun b hb' => (inS_ne (hb b hb')).2.1⟩
theorem allD_inW {l : List UInt8} (h : Txt.allD l = true) : ∀ b ∈ l, Tk.inW b = true ∧ b.toNat ≠ 58 ∧ b.toNat < 97 ∧ b.toNat ≠ 64 := by
  intro b hb
  have := (Txt.isD_iff b).1 (List.all_eq_true.1 h b hb)
  refine ⟨?_, by omega, by omega, by omega⟩
  unfold Tk.inW; rw [decide_eq_true_eq]; omega
theorem okT_num (n : Int) (h0 : 0 ≤ n) (h1 : n ≤ 1099511627776) : OkT (itoaB n) 2 ⟨#[]⟩ n := by
  have e : (itoaB n).data.toList = Lib.decDigits n.toNat := by unfold itoaB Lib.itoa; rw [if_neg (by omega)]
  have hd := Txt.dec_allD n.toNat
  have hp := dec_ne n.toNat
  have hz : (itoaB n).size = (Lib.decDigits n.toNat).length := by rw [← len_at, e]
  have hw : ∀ b ∈ (itoaB n).data.toList, Tk.inW b = true := by rw [e]; exact fun b hb => (allD_inW hd b hb).1
  refine okT_word (by omega) hw ?_
  have hlt : 0 < (itoaB n).size := by omega
  have g0 : (itoaB n)[0] ∈ Lib.decDigits n.toNat := by rw [← e, ← getD_at _ 0 hlt]; exact getD_mem (by rw [len_at]; exact hlt)
  have f0 := allD_inW hd _ g0
  have hh : Tk.has (itoaB n).data.toList 58 = false := by
    rw [e]; unfold Tk.has; rw [List.any_eq_false]; intro b hb; simpa using (allD_inW hd b hb).2.1
  rw [word_num hlt (by omega) f0.2.2.2 hh, e]
  have hl := Txt.dec_len_le n.toNat 13 (by omega) (by omega)
  have hv : Txt.num (Lib.decDigits n.toNat) = n := by rw [Txt.dec_num]; omega
  rw [numO_yes ⟨hp, hl, hd, ?_, by rw [hv]; exact h1⟩, hv]
  rintro ⟨q1, q2⟩
  by_cases hn : n.toNat = 0
  · rw [hn] at q2
    have := Txt.dec_len_le 0 1 (by omega) (by omega)
    omega
  · exact dec_head n.toNat (by omega) q1
theorem okT_time (n : Int) (h0 : 0 ≤ n) (h1 : n ≤ 1099511627776) : OkT (fuV n) 3 ⟨#[]⟩ n := by
  have hb : fuB n = true := by unfold fuB; rw [decide_eq_true_eq]; omega
  have ev : fuV n = fuS n := by unfold fuV; rw [if_pos hb]
  rw [ev]
  obtain ⟨d1, d2⟩ := dur_back n hb
  have e := fuS_list n
  rw [if_neg (by simp; omega), List.nil_append] at e
  have hA : absI n = n := by unfold absI; rw [if_neg (by omega)]
  rw [hA] at e
  have hd := Txt.dec_allD (n / 60).toNat
  have hpd := Txt.pad_allD (n % 60).toNat 2
  have hp := dec_ne (n / 60).toNat
  have i58 : Tk.inW 58 = true := by decide
  have hw : ∀ b ∈ (fuS n).data.toList, Tk.inW b = true := by
    rw [e]
    intro b hb'
    rcases List.mem_append.1 hb' with q | q
    · exact (allD_inW hd b q).1
    · rcases List.mem_append.1 q with q | q
      · rw [List.mem_singleton.1 q]; exact i58
      · exact (allD_inW hpd b q).1
  have hz : 0 < (fuS n).size := by rw [← len_at, e, List.length_append]; omega
  refine okT_word hz hw ?_
  have g0 : (fuS n)[0] ∈ Lib.decDigits (n / 60).toNat := by
    rw [← getD_at _ 0 hz, e, List.getD_eq_getElem?_getD, List.getElem?_append_left (by omega), ← List.getD_eq_getElem?_getD]
    exact getD_mem (by omega)
  have f0 := allD_inW hd _ g0
  have hh : Tk.has (fuS n).data.toList 58 = true := by
    rw [e]; unfold Tk.has; rw [List.any_eq_true]
    exact ⟨58, List.mem_append.2 (.inr (List.mem_append.2 (.inl (List.mem_singleton.2 rfl)))), by decide⟩
  rw [word_time hz (by omega) f0.2.2.2 hh, if_pos d1, d2]
theorem okT_clock (n : Int) (h0 : 0 ≤ n) (h1 : n ≤ 1439) : OkT (⟨#[64]⟩ ++ fcV n) 4 ⟨#[]⟩ n := by
  have hb : fcB n = true := by unfold fcB; rw [decide_eq_true_eq]; omega
  have ev : fcV n = fcS n := by unfold fcV; rw [if_pos hb]
  rw [ev]
  obtain ⟨d1, d2⟩ := clock_back_all n hb
  have e : (⟨#[64]⟩ ++ fcS n : ByteArray).data.toList = 64 :: (fcS n).data.toList := by rw [app_list]; rfl
  have e2 := fcS_list n
  have i58 : Tk.inW 58 = true := by decide
  have i64 : Tk.inW 64 = true := by decide
  have hw : ∀ b ∈ (⟨#[64]⟩ ++ fcS n : ByteArray).data.toList, Tk.inW b = true := by
    rw [e, e2]
    intro b hb'
    rcases List.mem_cons.1 hb' with rfl | q
    · exact i64
    · rcases List.mem_append.1 q with q | q
      · rcases List.mem_append.1 q with q | q
        · exact (allD_inW (Txt.pad_allD _ 2) b q).1
        · rw [List.mem_singleton.1 q]; exact i58
      · exact (allD_inW (Txt.pad_allD _ 2) b q).1
  have hz : 0 < (⟨#[64]⟩ ++ fcS n : ByteArray).size := by rw [← len_at, e]; simp
  refine okT_word hz hw ?_
  have g0 : (⟨#[64]⟩ ++ fcS n : ByteArray)[0].toNat = 64 := by
    rw [← getD_at _ 0 hz, e]; rfl
  have ex : (⟨#[64]⟩ ++ fcS n : ByteArray).extract 1 (⟨#[64]⟩ ++ fcS n : ByteArray).size = fcS n := by
    apply ByteArray.ext
    apply Array.toList_inj.1
    show ((⟨#[64]⟩ ++ fcS n : ByteArray).extract 1 (⟨#[64]⟩ ++ fcS n : ByteArray).size).data.toList = (fcS n).data.toList
    rw [ext_list, List.take_of_length_le (by rw [len_at]; exact Nat.le_refl _), e]; rfl
  rw [word_clock hz g0, ex, if_pos d1, d2]
/-- A token is valid if and only if its text is read as it. -/
theorem valid_ok (k : Int) (x : ByteArray) (n : Int) : OkT (txtR k x n) k x n ↔ VT ⟨k, x, n⟩ := by
  constructor
  · intro h
    obtain ⟨p, hp⟩ := h.one
    have := scanT_valid (txtR k x n) ⟨⟨k, x, n⟩, p⟩ (by rw [hp]; exact List.mem_singleton.2 rfl)
    exact this
  · rintro (⟨h1, h2, h3, h4⟩ | ⟨h1, h2, h3, h4⟩ | ⟨h1, h2, h3, h4⟩ | ⟨h1, h2, h3, h4⟩)
    · dsimp only at h1 h2 h3 h4
      subst h1 h4
      have e : txtR 1 x 0 = x := by unfold txtR; rw [if_pos (.inl rfl)]
      rw [e]
      refine okT_word ?_ h2 h3
      by_cases hz : x.size = 0
      · rw [word_nil hz] at h3; cases h3
      · omega
    · dsimp only at h1 h2 h3 h4
      subst h2
      rcases h1 with rfl | rfl
      · have e : txtR 2 ⟨#[]⟩ n = itoaB n := by unfold txtR; rw [if_neg (by omega), if_pos rfl]
        rw [e]; exact okT_num n h3 h4
      · have e : txtR 3 ⟨#[]⟩ n = fuV n := by unfold txtR; rw [if_neg (by omega), if_neg (by omega), if_pos rfl]
        rw [e]; exact okT_time n h3 h4
    · dsimp only at h1 h2 h3 h4
      subst h1 h2
      have e : txtR 4 ⟨#[]⟩ n = ⟨#[64]⟩ ++ fcV n := by unfold txtR; rw [if_neg (by omega), if_neg (by omega), if_neg (by omega), if_pos rfl]
      rw [e]; exact okT_clock n h3 h4
    · dsimp only at h1 h2 h3 h4
      subst h1 h4
      have e : txtR 5 x 0 = x := by unfold txtR; rw [if_pos (.inr rfl)]
      rw [e]; exact okT_sign h2 h3

end Go.Proofs.YtlhijbfphpkndaaDoor
