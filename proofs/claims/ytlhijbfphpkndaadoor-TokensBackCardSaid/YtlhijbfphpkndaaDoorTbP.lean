/-
  Texts of valid tokens with blanks between them are scanned as those tokens, plain. Printed by wip/mktbp.py.
-/
import Derived.Test.YtlhijbfphpkndaaDoorTvG
namespace Go.Proofs.YtlhijbfphpkndaaDoor
set_option linter.unusedVariables false
set_option linter.unusedSimpArgs false
open Go.ChangeShapes Go.WideShapes Go.ChangeAt Go.RowKit

/-- A text that is the word of a token. -/
def WT (s : ByteArray) (t : Tk.T3) : Prop := 0 < s.size ∧ (∀ b ∈ s.data.toList, Tk.inW b = true) ∧ Tk.word s = some t
theorem wrd_num (n : Int) (h0 : 0 ≤ n) (h1 : n ≤ 1099511627776) : WT (itoaB n) ⟨2, ⟨#[]⟩, n⟩ := by
  have e : (itoaB n).data.toList = Lib.decDigits n.toNat := by unfold itoaB Lib.itoa; rw [if_neg (by omega)]
  have hd := Txt.dec_allD n.toNat
  have hp := dec_ne n.toNat
  have hz : (itoaB n).size = (Lib.decDigits n.toNat).length := by rw [← len_at, e]
  have hw : ∀ b ∈ (itoaB n).data.toList, Tk.inW b = true := by rw [e]; exact fun b hb => (allD_inW hd b hb).1
  refine ⟨by omega, hw, ?_⟩
  have hlt : 0 < (itoaB n).size := by omega
  have g0 : (itoaB n)[0] ∈ Lib.decDigits n.toNat := by rw [← e, ← getD_at _ 0 hlt]; exact getD_mem (by rw [len_at]; exact hlt)
  have f0 := allD_inW hd _ g0
  have hh : Tk.has (itoaB n).data.toList 58 = false := by
    rw [e]; unfold Tk.has; rw [List.any_eq_false]; intro b hb; simpa using (allD_inW hd b hb).2.1
  rw [word_num hlt (by omega) f0.2.2.2 hh, e]
  have hl := Txt.dec_len_le n.toNat 13 (by omega) (by omega)
  have hv : Txt.num (Lib.decDigits n.toNat) = n := by rw [Txt.dec_num]; omega
  rw [numO_yes ⟨hp, hl, hd, ?_, by rw [hv]; exact h1⟩, hv]
  rintro ⟨q1, q2⟩
  by_cases hn : n.toNat = 0
  · rw [hn] at q2
    have := Txt.dec_len_le 0 1 (by omega) (by omega)
    omega
  · exact dec_head n.toNat (by omega) q1
theorem wrd_time (n : Int) (h0 : 0 ≤ n) (h1 : n ≤ 1099511627776) : WT (fuV n) ⟨3, ⟨#[]⟩, n⟩ := by
  have hb : fuB n = true := by unfold fuB; rw [decide_eq_true_eq]; omega
  have ev : fuV n = fuS n := by unfold fuV; rw [if_pos hb]
  rw [ev]
  obtain ⟨d1, d2⟩ := dur_back n hb
  have e := fuS_list n
  rw [if_neg (by simp; omega), List.nil_append] at e
  have hA : absI n = n := by unfold absI; rw [if_neg (by omega)]
  rw [hA] at e
  have hd := Txt.dec_allD (n / 60).toNat
  have hpd := Txt.pad_allD (n % 60).toNat 2
  have hp := dec_ne (n / 60).toNat
  have i58 : Tk.inW 58 = true := by decide
  have hw : ∀ b ∈ (fuS n).data.toList, Tk.inW b = true := by
    rw [e]
    intro b hb'
    rcases List.mem_append.1 hb' with q | q
    · exact (allD_inW hd b q).1
    · rcases List.mem_append.1 q with q | q
      · rw [List.mem_singleton.1 q]; exact i58
      · exact (allD_inW hpd b q).1
  have hz : 0 < (fuS n).size := by rw [← len_at, e, List.length_append]; omega
  refine ⟨hz, hw, ?_⟩
  have g0 : (fuS n)[0] ∈ Lib.decDigits (n / 60).toNat := by
    rw [← getD_at _ 0 hz, e, List.getD_eq_getElem?_getD, List.getElem?_append_left (by omega), ← List.getD_eq_getElem?_getD]
    exact getD_mem (by omega)
  have f0 := allD_inW hd _ g0
  have hh : Tk.has (fuS n).data.toList 58 = true := by
    rw [e]; unfold Tk.has; rw [List.any_eq_true]
    exact ⟨58, List.mem_append.2 (.inr (List.mem_append.2 (.inl (List.mem_singleton.2 rfl)))), by decide⟩
  rw [word_time hz (by omega) f0.2.2.2 hh, if_pos d1, d2]
theorem wrd_clock (n : Int) (h0 : 0 ≤ n) (h1 : n ≤ 1439) : WT (⟨#[64]⟩ ++ fcV n) ⟨4, ⟨#[]⟩, n⟩ := by
  have hb : fcB n = true := by unfold fcB; rw [decide_eq_true_eq]; omega
  have ev : fcV n = fcS n := by unfold fcV; rw [if_pos hb]
  rw [ev]
  obtain ⟨d1, d2⟩ := clock_back_all n hb
  have e : (⟨#[64]⟩ ++ fcS n : ByteArray).data.toList = 64 :: (fcS n).data.toList := by rw [app_list]; rfl
  have e2 := fcS_list n
  have i58 : Tk.inW 58 = true := by decide
  have i64 : Tk.inW 64 = true := by decide
  have hw : ∀ b ∈ (⟨#[64]⟩ ++ fcS n : ByteArray).data.toList, Tk.inW b = true := by
    rw [e, e2]
    intro b hb'
    rcases List.mem_cons.1 hb' with rfl | q
    · exact i64
    · rcases List.mem_append.1 q with q | q
      · rcases List.mem_append.1 q with q | q
        · exact (allD_inW (Txt.pad_allD _ 2) b q).1
        · rw [List.mem_singleton.1 q]; exact i58
      · exact (allD_inW (Txt.pad_allD _ 2) b q).1
  have hz : 0 < (⟨#[64]⟩ ++ fcS n : ByteArray).size := by rw [← len_at, e]; simp
  refine ⟨hz, hw, ?_⟩
  have g0 : (⟨#[64]⟩ ++ fcS n : ByteArray)[0].toNat = 64 := by
    rw [← getD_at _ 0 hz, e]; rfl
  have ex : (⟨#[64]⟩ ++ fcS n : ByteArray).extract 1 (⟨#[64]⟩ ++ fcS n : ByteArray).size = fcS n := by
    apply ByteArray.ext
    apply Array.toList_inj.1
    show ((⟨#[64]⟩ ++ fcS n : ByteArray).extract 1 (⟨#[64]⟩ ++ fcS n : ByteArray).size).data.toList = (fcS n).data.toList
    rw [ext_list, List.take_of_length_le (by rw [len_at]; exact Nat.le_refl _), e]; rfl
  rw [word_clock hz g0, ex, if_pos d1, d2]

theorem vt_text {t : Tk.T4} (h : VT t.t) : WT (tx t) t.t ∨ (t.t = ⟨5, tx t, 0⟩ ∧ 0 < (tx t).size ∧ Tk.sgn (tx t).data.toList = (tx t).size) := by
  obtain ⟨⟨k, x, n⟩, a⟩ := t
  unfold tx
  rcases h with ⟨h1, h2, h3, h4⟩ | ⟨h1, h2, h3, h4⟩ | ⟨h1, h2, h3, h4⟩ | ⟨h1, h2, h3, h4⟩
  · dsimp only at h1 h2 h3 h4 ⊢
    subst h1 h4
    have e : txtR 1 x 0 = x := by unfold txtR; rw [if_pos (.inl rfl)]
    rw [e]
    refine .inl ⟨?_, h2, h3⟩
    by_cases hz : x.size = 0
    · rw [word_nil hz] at h3; cases h3
    · omega
  · dsimp only at h1 h2 h3 h4 ⊢
    subst h2
    rcases h1 with rfl | rfl
    · have e : txtR 2 ⟨#[]⟩ n = itoaB n := by unfold txtR; rw [if_neg (by omega), if_pos rfl]
      rw [e]; exact .inl (wrd_num n h3 h4)
    · have e : txtR 3 ⟨#[]⟩ n = fuV n := by unfold txtR; rw [if_neg (by omega), if_neg (by omega), if_pos rfl]
      rw [e]; exact .inl (wrd_time n h3 h4)
  · dsimp only at h1 h2 h3 h4 ⊢
    subst h1 h2
    have e : txtR 4 ⟨#[]⟩ n = ⟨#[64]⟩ ++ fcV n := by unfold txtR; rw [if_neg (by omega), if_neg (by omega), if_neg (by omega), if_pos rfl]
    rw [e]; exact .inl (wrd_clock n h3 h4)
  · dsimp only at h1 h2 h3 h4 ⊢
    subst h1 h4
    have e : txtR 5 x 0 = x := by unfold txtR; rw [if_pos (.inr rfl)]
    rw [e]; exact .inr ⟨rfl, h2, h3⟩
/-- What follows a token: nothing, or a blank. -/
def Gap (r : List UInt8) : Prop := r = [] ∨ ∃ l, r = 32 :: l
theorem wl_app (l r : List UInt8) (h : ∀ b ∈ l, Tk.inW b = true) (hr : Gap r) : Tk.wl (l ++ r) = l.length := by
  induction l with
  | nil =>
    rcases hr with rfl | ⟨l, rfl⟩
    · rfl
    · rfl
  | cons c l ih =>
    rw [List.cons_append, Tk.wl_cons, if_pos (h c (List.mem_cons_self ..)), ih (fun b hb => h b (List.mem_cons_of_mem _ hb))]
    rfl
theorem sgn_app (l r : List UInt8) (h : Tk.sgn l = l.length) (hp : 0 < l.length) (hr : Gap r) : Tk.sgn (l ++ r) = l.length := by
  unfold Tk.sgn at h
  by_cases h2 : (l.getD 0 0).toNat = 60 ∧ (l.getD 1 0).toNat = 61
  · rw [if_pos h2] at h
    match l, h, h2 with
    | [a, b], _, h2 =>
      unfold Tk.sgn
      exact if_pos h2
  · rw [if_neg h2] at h
    by_cases h1 : 1 ≤ l.length ∧ Tk.inS (l.getD 0 0) = true
    · rw [if_pos h1] at h
      match l, h, h1 with
      | [a], _, h1 =>
        have hs : Tk.inS a = true := h1.2
        unfold Tk.sgn
        rcases hr with rfl | ⟨l, rfl⟩
        · exact (if_neg (fun q => by have h9 : (0 : UInt8).toNat = 61 := q.2; revert h9; decide)).trans (if_pos ⟨by simp, hs⟩)
        · exact (if_neg (fun q => by have h9 : (32 : UInt8).toNat = 61 := q.2; revert h9; decide)).trans (if_pos ⟨by simp, hs⟩)
    · rw [if_neg h1] at h; omega
theorem ext_drop (S s : ByteArray) (i : Nat) (r : List UInt8) (h : S.data.toList.drop i = s.data.toList ++ r) : S.extract i (i + s.size) = s := by
  apply ByteArray.ext
  apply Array.toList_inj.1
  show (S.extract i (i + s.size)).data.toList = s.data.toList
  rw [ext_list, List.drop_take, show i + s.size - i = s.size by omega, h, List.take_append_of_le_length (by rw [len_at]; exact Nat.le_refl _), List.take_of_length_le (by rw [len_at]; exact Nat.le_refl _)]
theorem tok_at {S : ByteArray} {t : Tk.T4} {i : Nat} {r : List UInt8} (hv : VT t.t) (h : S.data.toList.drop i = (tx t).data.toList ++ r) (hr : Gap r) :
    Tk.tokAt S i = (some t.t, (tx t).size) ∧ (S.data.toList.getD i 0).toNat ≠ 35 ∧ (S.data.toList.getD i 0).toNat ≠ 32 ∧ 0 < (tx t).size := by
  have g : S.data.toList.getD i 0 = ((tx t).data.toList ++ r).getD 0 0 := by rw [← h, Tk.getD_drop]
  have g2 : 0 < (tx t).size → S.data.toList.getD i 0 = (tx t).data.toList.getD 0 0 := fun hp => by
    rw [g, List.getD_eq_getElem?_getD, List.getElem?_append_left (by rw [len_at]; exact hp), ← List.getD_eq_getElem?_getD]
  rcases vt_text hv with ⟨hp, hw, ho⟩ | ⟨he, hp, hs⟩
  · have h0 : Tk.inW ((tx t).data.toList.getD 0 0) = true := hw _ (getD_mem (by rw [len_at]; exact hp))
    rw [g2 hp]
    refine ⟨?_, (inW_ne h0).2, (inW_ne h0).1, hp⟩
    unfold Tk.tokAt
    rw [g2 hp, if_pos h0, h, wl_app _ _ hw hr, len_at, ext_drop S (tx t) i r h, ho]
  · have hb := sgn_bytes (by rw [hs, len_at]) (by rw [len_at]; exact hp)
    have h0 : Tk.inS ((tx t).data.toList.getD 0 0) = true := hb _ (getD_mem (by rw [len_at]; exact hp))
    rw [g2 hp]
    refine ⟨?_, (inS_ne h0).2.1, (inS_ne h0).1, hp⟩
    unfold Tk.tokAt
    rw [g2 hp, if_neg (by rw [(inS_ne h0).2.2]; simp), h, sgn_app _ _ (by rw [hs, len_at]) (by rw [len_at]; exact hp) hr, len_at, if_neg (by omega), ext_drop S (tx t) i r h, ← he]
theorem lt_of_drop {S : ByteArray} {i : Nat} {c : UInt8} {l : List UInt8} (h : S.data.toList.drop i = c :: l) : i < S.size ∧ S.data.toList.getD i 0 = c ∧ S.data.toList.drop (i + 1) = l := by
  have hl := congrArg List.length h
  rw [List.length_drop, len_at] at hl
  simp at hl
  refine ⟨by omega, by rw [← Tk.getD_drop, h]; rfl, ?_⟩
  rw [← List.drop_drop, h]; rfl
theorem scan_blank {S : ByteArray} {i : Nat} {l : List UInt8} (D : List Tk.T4) (h : S.data.toList.drop i = 32 :: l) : Tk.scan S (S.size - i) i D = Tk.scan S (S.size - (i + 1)) (i + 1) D := by
  obtain ⟨h1, h2, -⟩ := lt_of_drop h
  rw [Tk.scan_step S i D h1, h2, if_neg (by decide), if_pos (by decide)]
theorem scan_tok {S : ByteArray} {t : Tk.T4} {i : Nat} {r : List UInt8} (D : List Tk.T4) (hv : VT t.t) (h : S.data.toList.drop i = (tx t).data.toList ++ r) (hr : Gap r) (hD : D.length ≠ 400) :
    Tk.scan S (S.size - i) i D = Tk.scan S (S.size - (i + (tx t).size)) (i + (tx t).size) (D ++ [⟨t.t, (i : Int)⟩]) ∧ S.data.toList.drop (i + (tx t).size) = r := by
  obtain ⟨h1, h2, h3, h4⟩ := tok_at hv h hr
  have hl := congrArg List.length h
  rw [List.length_drop, len_at, List.length_append, len_at] at hl
  constructor
  · rw [Tk.scan_step S i D (by omega), if_neg h2, if_neg h3, h1]
    dsimp only
    rw [if_neg hD]
  · rw [← List.drop_drop, h, List.drop_append_of_le_length (by rw [len_at]; exact Nat.le_refl _), List.drop_of_length_le (by rw [len_at]; exact Nat.le_refl _)]
    rfl
theorem jnL_cons (t u : Tk.T4) (D : List Tk.T4) : jnL (t :: u :: D) = (tx t).data.toList ++ (32 :: jnL (u :: D)) := by
  unfold jnL
  simp only [List.map_cons]
  rw [Lib.join_cons, Lib.join_cons]
  simp [Lib.joinTail]
theorem jnL_one (t : Tk.T4) : jnL [t] = (tx t).data.toList := Lib.join_one _ _
/-- The texts of valid tokens are scanned as these tokens. -/
theorem scan_join {S : ByteArray} (r : List UInt8) (hr : Gap r) : ∀ (D : List Tk.T4) (i : Nat) (A : List Tk.T4), (∀ t ∈ D, VT t.t) → S.data.toList.drop i = jnL D ++ r → A.length + D.length ≤ 400 →
    ∃ (j : Nat) (E : List Tk.T4), E.map (fun t => t.t) = D.map (fun t => t.t) ∧ Tk.scan S (S.size - i) i A = Tk.scan S (S.size - j) j (A ++ E) ∧ S.data.toList.drop j = r := by
  intro D
  induction D with
  | nil => intro i A _ h _; exact ⟨i, [], rfl, by rw [List.append_nil], h⟩
  | cons t D ih =>
    intro i A hv h hl
    have hvt := hv t (List.mem_cons_self ..)
    rw [List.length_cons] at hl
    cases D with
    | nil =>
      rw [jnL_one] at h
      obtain ⟨h1, h2⟩ := scan_tok A hvt h hr (by omega)
      exact ⟨_, [⟨t.t, i⟩], rfl, h1, h2⟩
    | cons u D =>
      rw [jnL_cons, List.append_assoc, List.cons_append] at h
      obtain ⟨h1, h2⟩ := scan_tok A hvt h (.inr ⟨_, rfl⟩) (by omega)
      obtain ⟨-, -, h3⟩ := lt_of_drop h2
      obtain ⟨j, E, e1, e2, e3⟩ := ih (i + (tx t).size + 1) (A ++ [⟨t.t, (i : Int)⟩]) (fun v hv' => hv v (List.mem_cons_of_mem _ hv')) h3 (by rw [List.length_append]; simp at hl ⊢; omega)
      refine ⟨j, ⟨t.t, i⟩ :: E, by rw [List.map_cons, List.map_cons, e1], ?_, e3⟩
      rw [h1, scan_blank _ h2, e2, List.append_assoc]
      rfl
theorem scan_len (s : ByteArray) : ∀ (n i : Nat) (D : List Tk.T4), D.length ≤ 400 → (Tk.scan s n i D).1.length ≤ 400 := by
  intro n
  induction n with
  | zero => intro i D h; exact h
  | succ n ih =>
    intro i D h
    rw [Tk.scan]
    by_cases h1 : s.size ≤ i
    · rw [if_pos h1]; exact h
    · rw [if_neg h1]
      split
      · exact h
      · split
        · exact ih _ _ h
        · split
          · exact Nat.zero_le _
          · split
            · exact Nat.zero_le _
            · refine ih _ _ ?_
              rw [List.length_append]; simp; omega
theorem back_plain (D : List Tk.T4) (hv : ∀ t ∈ D, VT t.t) (hl : D.length ≤ 400) : ∃ E : List Tk.T4, E.map (fun t => t.t) = D.map (fun t => t.t) ∧ Tk.scanT (jn D) = (E, 0, 0) := by
  obtain ⟨j, E, h1, h2, h3⟩ := scan_join (S := jn D) [] (.inl rfl) D 0 [] hv (by rw [List.append_nil]; rfl) (by simpa using hl)
  refine ⟨E, h1, ?_⟩
  have hj := congrArg List.length h3
  rw [List.length_drop, len_at] at hj
  simp at hj
  have := h2.trans (Tk.scan_end (jn D) j _ (by omega))
  rw [Nat.sub_zero, List.nil_append] at this
  exact this
theorem back_more (D : List Tk.T4) (hv : ∀ t ∈ D, VT t.t) (hl : D.length ≤ 400) (s : ByteArray) : ∃ E : List Tk.T4, E.map (fun t => t.t) = D.map (fun t => t.t) ∧ Tk.scanT (⟨#[32, 32]⟩ ++ jn D ++ ⟨#[32, 32, 32, 35, 32]⟩ ++ s) = (E, 0, 0) := by
  obtain ⟨S, hS⟩ : ∃ S, ⟨#[32, 32]⟩ ++ jn D ++ ⟨#[32, 32, 32, 35, 32]⟩ ++ s = S := ⟨_, rfl⟩
  rw [hS]
  have e : S.data.toList = 32 :: 32 :: (jnL D ++ (32 :: 32 :: 32 :: 35 :: 32 :: s.data.toList)) := by
    rw [← hS, app_list, app_list, app_list]
    show [32, 32] ++ (jnL D) ++ [32, 32, 32, 35, 32] ++ s.data.toList = _
    simp
  have d0 : S.data.toList.drop 0 = 32 :: 32 :: (jnL D ++ (32 :: 32 :: 32 :: 35 :: 32 :: s.data.toList)) := by rw [List.drop_zero, e]
  have d1 := (lt_of_drop d0).2.2
  have d2 := (lt_of_drop d1).2.2
  obtain ⟨j, E, h1, h2, h3⟩ := scan_join (S := S) _ (.inr ⟨_, rfl⟩) D 2 [] hv d2 (by simpa using hl)
  have j1 := (lt_of_drop h3).2.2
  have j2 := (lt_of_drop j1).2.2
  have j3 := (lt_of_drop j2).2.2
  obtain ⟨k1, k2, -⟩ := lt_of_drop j3
  refine ⟨E, h1, ?_⟩
  have q := scan_blank [] d0
  rw [Nat.sub_zero] at q
  show Tk.scan S S.size 0 [] = _
  rw [q, scan_blank [] d1, h2, List.nil_append, scan_blank E h3, scan_blank E j1, scan_blank E j2, Tk.scan_step S _ E k1, k2, if_pos (by decide)]
theorem vt_tk {D : List Tk.T4} (h : ∀ t ∈ D, VT t.t) : TkOk D := by
  intro t ht
  have hv := h t ht
  have hz := vt_size hv
  obtain ⟨⟨k, x, n⟩, a⟩ := t
  unfold tx at hz
  rcases hv with ⟨h1, h2, h3, h4⟩ | ⟨h1, h2, h3, h4⟩ | ⟨h1, h2, h3, h4⟩ | ⟨h1, h2, h3, h4⟩
  · dsimp only at h1 h4 hz ⊢
    subst h1 h4
    have e : txtR 1 x 0 = x := by unfold txtR; rw [if_pos (.inl rfl)]
    rw [e] at hz
    exact ⟨by omega, by omega⟩
  · dsimp only at h2 h3 h4 ⊢
    subst h2
    exact ⟨by omega, by decide⟩
  · dsimp only at h2 h3 h4 ⊢
    subst h2
    exact ⟨by omega, by decide⟩
  · dsimp only at h1 h4 hz ⊢
    subst h1 h4
    have e : txtR 5 x 0 = x := by unfold txtR; rw [if_pos (.inr rfl)]
    rw [e] at hz
    exact ⟨by omega, by omega⟩

end Go.Proofs.YtlhijbfphpkndaaDoor
