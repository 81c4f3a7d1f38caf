/-
  Every token that is scanned is valid. Plain.
-/
import Derived.Test.YtgcjkfkfdehpcaaGreatTkP
namespace Go.Proofs.YtgcjkfkfdehpcaaGreat
set_option linter.unusedVariables false
set_option linter.unusedSimpArgs false
open Go.ChangeShapes Go.WideShapes Go.ChangeAt Go.RowKit

/-- A token that the program calls valid. -/
def VT (t : Tk.T3) : Prop :=
  (t.kind = 1 ∧ (∀ b ∈ t.text.data.toList, Tk.inW b = true) ∧ Tk.word t.text = some ⟨1, t.text, 0⟩ ∧ t.num = 0) ∨
  ((t.kind = 2 ∨ t.kind = 3) ∧ t.text = ⟨#[]⟩ ∧ 0 ≤ t.num ∧ t.num ≤ 1099511627776) ∨
  (t.kind = 4 ∧ t.text = ⟨#[]⟩ ∧ 0 ≤ t.num ∧ t.num ≤ 1439) ∨
  (t.kind = 5 ∧ 0 < t.text.size ∧ Tk.sgn t.text.data.toList = t.text.size ∧ t.num = 0)
theorem duR_plain {l : List UInt8} (h : ∀ b ∈ l, Tk.inW b = true) : Txt.duNeg l = false := by
  cases hq : Txt.duNeg l with
  | false => rfl
  | true =>
    obtain ⟨t, rfl⟩ := (Txt.dash_iff l).1 hq
    have := h 45 (List.mem_cons_self ..)
    revert this; decide
theorem word_valid {s : ByteArray} {t : Tk.T3} (hw : ∀ b ∈ s.data.toList, Tk.inW b = true) (h : Tk.word s = some t) : VT t := by
  have h' := h
  unfold Tk.word at h
  split at h
  · split at h
    · cases h
    · obtain rfl := Option.some.inj h
      exact .inl ⟨rfl, hw, h', rfl⟩
  · split at h
    · split at h
      · rename_i hpe
        obtain rfl := Option.some.inj h
        refine .inr (.inr (.inl ⟨rfl, rfl, ?_⟩))
        dsimp only
        unfold pcE at hpe
        unfold pcV
        split at hpe
        · rename_i hf
          split at hpe
          · rename_i hb
            rw [if_pos hf, if_pos hb]
            obtain ⟨hl, -, h1, h2⟩ := (fits5 _).1 hf
            rw [len_atT] at hl h2
            rw [← ext_list] at h1 h2
            have m1 := numB_bd ((s.extract 1 s.size).extract 0 2) 2 (by rw [ByteArray.size_extract]; omega) h1
            have m2 := numB_bd ((s.extract 1 s.size).extract 3 (s.extract 1 s.size).size) 2 (by rw [ByteArray.size_extract]; omega) h2
            unfold pcB at hb
            rw [decide_eq_true_eq] at hb
            unfold pcH pcM at hb ⊢
            omega
          · cases hpe
        · cases hpe
      · cases h
    · split at h
      · split at h
        · rename_i hdu
          obtain rfl := Option.some.inj h
          refine .inr (.inl ⟨.inr rfl, rfl, ?_⟩)
          dsimp only
          have hn := duR_plain hw
          unfold Txt.duV
          rw [if_pos hdu, hn, if_neg (by simp)]
          unfold Txt.duE at hdu
          split at hdu
          · rename_i hb
            split at hdu
            · rename_i hq
              refine ⟨?_, hq.2⟩
              unfold Txt.duB at hb
              rw [decide_eq_true_eq] at hb
              have b1 := (Txt.num_bd _ hb.2.2.2.1).1
              have b2 := (Txt.num_bd _ hb.2.2.2.2.1).1
              unfold Txt.duN
              omega
            · cases hdu
          · cases hdu
        · cases h
      · split at h
        · rename_i hno
          obtain rfl := Option.some.inj h
          unfold Tk.numOk at hno
          rw [decide_eq_true_eq] at hno
          exact .inr (.inl ⟨.inl rfl, rfl, (Txt.num_bd _ hno.2.2.1).1, hno.2.2.2.2⟩)
        · cases h
theorem sgn_take (l : List UInt8) (h : Tk.sgn l ≠ 0) : Tk.sgn (l.take (Tk.sgn l)) = Tk.sgn l := by
  unfold Tk.sgn at h ⊢
  by_cases h2 : (l.getD 0 0).toNat = 60 ∧ (l.getD 1 0).toNat = 61
  · rw [if_pos h2]
    match l, h2 with
    | [], h2 => simp at h2
    | [a], h2 => simp at h2
    | a :: b :: l, h2 => exact if_pos h2
  · rw [if_neg h2] at h ⊢
    by_cases h1 : 1 ≤ l.length ∧ Tk.inS (l.getD 0 0) = true
    · rw [if_pos h1]
      match l, h1 with
      | [], h1 => simp at h1
      | a :: l, h1 => simpa using h1.2
    · rw [if_neg h1] at h; exact absurd rfl h
theorem tok_valid {s : ByteArray} {i m : Nat} {t : Tk.T3} (hi : i < s.size) (h : Tk.tokAt s i = (some t, m)) : VT t := by
  unfold Tk.tokAt at h
  by_cases hw : Tk.inW (s.data.toList.getD i 0) = true
  · rw [if_pos hw] at h
    exact word_valid (Tk.word_bytes s i) (Prod.mk.inj h).1
  · rw [if_neg hw] at h
    obtain ⟨h1, h2⟩ := Prod.mk.inj h
    by_cases hg : Tk.sgn (s.data.toList.drop i) = 0
    · rw [if_pos hg] at h1; cases h1
    · rw [if_neg hg] at h1
      obtain rfl := Option.some.inj h1
      have hle := Tk.sgn_le (s.data.toList.drop i)
      rw [List.length_drop, len_atT] at hle
      have hz : (s.extract i (i + Tk.sgn (s.data.toList.drop i))).size = Tk.sgn (s.data.toList.drop i) := by rw [ByteArray.size_extract]; omega
      refine .inr (.inr (.inr ⟨rfl, by dsimp only; omega, ?_, rfl⟩))
      dsimp only
      rw [hz, ext_list, List.drop_take, show i + Tk.sgn (s.data.toList.drop i) - i = Tk.sgn (s.data.toList.drop i) by omega]
      exact sgn_take _ hg
/-- Every token that is scanned is valid. -/
theorem scan_valid (s : ByteArray) : ∀ (n i : Nat) (D : List Tk.T4), (∀ t ∈ D, VT t.t) → ∀ t ∈ (Tk.scan s n i D).1, VT t.t := by
  intro n
  induction n with
  | zero => intro i D h; exact h
  | succ n ih =>
    intro i D h
    rw [Tk.scan]
    by_cases h1 : s.size ≤ i
    · rw [if_pos h1]; exact h
    · rw [if_neg h1]
      split
      · exact h
      · split
        · exact ih _ _ h
        · split
          · intro t ht; cases ht
          · rename_i t m hq
            split
            · intro t ht; cases ht
            · refine ih _ _ ?_
              intro u hu
              rcases List.mem_append.1 hu with hu | hu
              · exact h u hu
              · rw [List.mem_singleton.1 hu]; exact tok_valid (by omega) hq
theorem scanT_valid (s : ByteArray) : ∀ t ∈ (Tk.scanT s).1, VT t.t := scan_valid s _ _ _ (fun t ht => by cases ht)

end Go.Proofs.YtgcjkfkfdehpcaaGreat
