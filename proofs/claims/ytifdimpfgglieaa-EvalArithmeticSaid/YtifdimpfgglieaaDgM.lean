/-
  Numbers as lists of digits to the base 2^32: plain.
-/
import Derived.WalkKit
namespace Go.Proofs.Ytifdimpfgglieaa
set_option linter.unusedVariables false

/-- The number that digits denote, the lowest first. -/
def val : List Nat → Nat
  | [] => 0
  | d :: l => d + 4294967296 * val l
def pw : Nat → Nat
  | 0 => 1
  | n + 1 => 4294967296 * pw n
def DgL (l : List Nat) : Prop := ∀ d ∈ l, d < 4294967296
/-- The digits of a number, no leading zero. -/
def dgs (v : Nat) : List Nat := if h : v = 0 then [] else v % 4294967296 :: dgs (v / 4294967296)
termination_by v
decreasing_by omega
theorem dgs_zero : dgs 0 = [] := by rw [dgs]; simp
theorem dgs_pos {v : Nat} (h : 0 < v) : dgs v = v % 4294967296 :: dgs (v / 4294967296) := by rw [dgs, dif_neg (by omega)]
theorem val_dgs (v : Nat) : val (dgs v) = v := by
  induction v using Nat.strongRecOn with
  | _ v ih =>
    rcases Nat.eq_zero_or_pos v with h | h
    · subst h; rw [dgs_zero]; rfl
    · rw [dgs_pos h, val, ih _ (by omega)]; omega
theorem dgs_dg (v : Nat) : DgL (dgs v) := by
  induction v using Nat.strongRecOn with
  | _ v ih =>
    rcases Nat.eq_zero_or_pos v with h | h
    · subst h; rw [dgs_zero]; intro d hd; cases hd
    · rw [dgs_pos h]
      intro d hd
      rcases List.mem_cons.1 hd with rfl | hd
      · omega
      · exact ih _ (by omega) d hd
theorem pw_pos (n : Nat) : 0 < pw n := by induction n with | zero => decide | succ n ih => unfold pw; omega
theorem pw_two (n : Nat) : pw n = 2 ^ (32 * n) := by
  induction n with
  | zero => rfl
  | succ n ih => rw [pw, ih, show 32 * (n + 1) = 32 + 32 * n by omega, Nat.pow_add]
theorem pw_add (a b : Nat) : pw (a + b) = pw a * pw b := by rw [pw_two, pw_two, pw_two, Nat.mul_add, Nat.pow_add]
theorem pw_le {a b : Nat} (h : a ≤ b) : pw a ≤ pw b := by rw [pw_two, pw_two]; exact Nat.pow_le_pow_right (by decide) (by omega)
theorem val_lt (l : List Nat) (h : DgL l) : val l < pw l.length := by
  induction l with
  | nil => decide
  | cons d l ih =>
    have h1 := h d (List.mem_cons_self ..)
    have h2 := ih (fun x hx => h x (List.mem_cons_of_mem _ hx))
    show d + 4294967296 * val l < 4294967296 * pw l.length
    omega
theorem dgs_len_le (u v : Nat) (h : u ≤ v) : (dgs u).length ≤ (dgs v).length := by
  induction v using Nat.strongRecOn generalizing u with
  | _ v ih =>
    rcases Nat.eq_zero_or_pos u with hu | hu
    · subst hu; rw [dgs_zero]; simp
    · rw [dgs_pos hu, dgs_pos (v := v) (by omega), List.length_cons, List.length_cons]
      have := ih (v / 4294967296) (by omega) (u / 4294967296) (Nat.div_le_div_right h)
      omega
theorem dgs_len_lt (u v : Nat) (h : (dgs u).length < (dgs v).length) : u < v := by
  rcases Nat.lt_or_ge u v with q | q
  · exact q
  · have := dgs_len_le v u q; omega
theorem dgs_len_of (v n : Nat) (h : v < pw n) : (dgs v).length ≤ n := by
  induction n generalizing v with
  | zero => have : v = 0 := by simp [pw] at h; omega
            subst this; rw [dgs_zero]; simp
  | succ n ih =>
    rcases Nat.eq_zero_or_pos v with hv | hv
    · subst hv; rw [dgs_zero]; simp
    · rw [dgs_pos hv, List.length_cons]
      have := ih (v / 4294967296) (by unfold pw at h; omega)
      omega
theorem val_ne (l : List Nat) (j : Nat) (h : l.getD j 0 ≠ 0) : val l ≠ 0 := by
  induction l generalizing j with
  | nil => simp at h
  | cons d l ih =>
    rw [val]
    cases j with
    | zero => simp at h; omega
    | succ j => have := ih j (by simpa using h); omega
theorem val_all0 (l : List Nat) (h : ∀ j, l.getD j 0 = 0) : val l = 0 := by
  induction l with
  | nil => rfl
  | cons d l ih =>
    rw [val, ih (fun j => by simpa using h (j + 1))]
    have := h 0; simp at this; omega
/-- What trim leaves. -/
theorem take_dgs (l : List Nat) (n : Nat) (hd : DgL l) (h0 : ∀ j, n ≤ j → l.getD j 0 = 0) (h1 : n = 0 ∨ l.getD (n - 1) 0 ≠ 0) : l.take n = dgs (val l) := by
  induction n generalizing l with
  | zero => rw [val_all0 l (fun j => h0 j (by omega)), dgs_zero]; rfl
  | succ n ih =>
    cases l with
    | nil => simp at h1
    | cons d l =>
      have hl := ih l (fun x hx => hd x (List.mem_cons_of_mem _ hx)) (fun j hj => by simpa using h0 (j + 1) (by omega)) (by
        rcases Nat.eq_zero_or_pos n with h | h
        · exact Or.inl h
        · refine Or.inr ?_
          have := h1.resolve_left (by omega)
          rw [show n + 1 - 1 = (n - 1) + 1 by omega] at this
          simpa using this)
      have hv : 0 < val (d :: l) := Nat.pos_of_ne_zero (val_ne _ n (by simpa using h1.resolve_left (by omega)))
      have hd0 := hd d (List.mem_cons_self ..)
      rw [dgs_pos hv, List.take_succ_cons, hl, val]
      rw [show (d + 4294967296 * val l) % 4294967296 = d by omega, show (d + 4294967296 * val l) / 4294967296 = val l by omega]
/-- The number of the first i digits. -/
def pv (l : List Nat) (i : Nat) : Nat := val (l.take i)
theorem val_app (a b : List Nat) : val (a ++ b) = val a + pw a.length * val b := by
  induction a with
  | nil => simp [val, pw]
  | cons d a ih =>
    show d + 4294967296 * val (a ++ b) = d + 4294967296 * val a + 4294967296 * pw a.length * val b
    rw [ih]; grind
theorem pv_zero (l : List Nat) : pv l 0 = 0 := by simp [pv, val]
theorem getD_lt (l : List Nat) (h : DgL l) (i : Nat) : l.getD i 0 < 4294967296 := by
  rw [List.getD_eq_getElem?_getD]
  rcases Nat.lt_or_ge i l.length with q | q
  · rw [List.getElem?_eq_getElem q]; exact h _ (List.getElem_mem ..)
  · rw [List.getElem?_eq_none q]; decide
theorem pv_end (l : List Nat) (i : Nat) (h : l.length ≤ i) : pv l i = val l := by unfold pv; rw [List.take_of_length_le h]
theorem pv_succ (l : List Nat) (i : Nat) : pv l (i + 1) = pv l i + l.getD i 0 * pw i := by
  rcases Nat.lt_or_ge i l.length with q | q
  · unfold pv
    rw [List.take_succ_eq_append_getElem q, val_app, List.length_take, Nat.min_eq_left (by omega), List.getD_eq_getElem?_getD, List.getElem?_eq_getElem q]
    simp [val]; grind
  · rw [pv_end l i q, pv_end l (i + 1) (by omega), List.getD_eq_getElem?_getD, List.getElem?_eq_none q]; simp
theorem pv_lt (l : List Nat) (h : DgL l) (i : Nat) : pv l i < pw i := by
  induction i with
  | zero => simp [pv, val, pw]
  | succ i ih =>
    rw [pv_succ, pw]
    have h1 := getD_lt l h i
    have h2 : l.getD i 0 * pw i ≤ 4294967295 * pw i := Nat.mul_le_mul_right _ (by omega)
    omega
theorem DgL.set {l : List Nat} (h : DgL l) (i d : Nat) (hd : d < 4294967296) : DgL (l.set i d) := by
  intro x hx
  rcases List.mem_or_eq_of_mem_set hx with q | rfl
  · exact h x q
  · exact hd
theorem getD_set (l : List Nat) (i j d : Nat) (hi : i < l.length) : (l.set i d).getD j 0 = if j = i then d else l.getD j 0 := by
  rw [List.getD_eq_getElem?_getD, List.getElem?_set, List.getD_eq_getElem?_getD]
  by_cases h : i = j
  · subst h; simp [hi]
  · rw [if_neg h, if_neg (fun q => h q.symm)]
theorem pv_set (l : List Nat) (i d : Nat) (hi : i < l.length) (j : Nat) (hj : j ≤ i) : pv (l.set i d) j = pv l j := by
  induction j with
  | zero => rw [pv_zero, pv_zero]
  | succ j ih => rw [pv_succ, pv_succ, ih (by omega), getD_set l i j d hi, if_neg (by omega)]
theorem val_set (l : List Nat) (i d : Nat) (hi : i < l.length) : val (l.set i d) + l.getD i 0 * pw i = val l + d * pw i := by
  induction l generalizing i with
  | nil => simp at hi
  | cons x l ih =>
    cases i with
    | zero => simp [val, pw]; omega
    | succ i =>
      have := ih i (by simpa using hi)
      simp only [List.set_cons_succ, val, pw, List.getD_cons_succ]
      grind
theorem getD_end (l : List Nat) (i : Nat) (h : l.length ≤ i) : l.getD i 0 = 0 := by rw [List.getD_eq_getElem?_getD, List.getElem?_eq_none h]; rfl
/-! Addition. -/
structure AddI (a b s : List Nat) (n i c : Nat) : Prop where
  len : s.length = n
  dg : DgL s
  sum : pv s i + c * pw i = pv a i + pv b i
  c1 : c ≤ 1
theorem AddI.start (a b : List Nat) (n : Nat) : AddI a b (List.replicate n 0) n 0 0 :=
  ⟨by simp, fun d hd => by rw [(List.mem_replicate.1 hd).2]; decide, by rw [pv_zero, pv_zero, pv_zero]; rfl, by omega⟩
theorem AddI.next {a b s : List Nat} {n i c : Nat} (h : AddI a b s n i c) (ha : DgL a) (hb : DgL b) (hi : i < n) :
    AddI a b (s.set i ((c + a.getD i 0 + b.getD i 0) % 4294967296)) n (i + 1) ((c + a.getD i 0 + b.getD i 0) / 4294967296) := by
  have h1 := getD_lt a ha i
  have h2 := getD_lt b hb i
  have h3 := h.c1
  refine ⟨by rw [List.length_set]; exact h.len, h.dg.set _ _ (by omega), ?_, by omega⟩
  have hl : i < s.length := by rw [h.len]; exact hi
  rw [pv_succ, pv_set s i _ hl i (Nat.le_refl _), getD_set s i i _ hl, if_pos rfl, pv_succ, pv_succ, pw]
  have hs := h.sum
  have hm : (c + a.getD i 0 + b.getD i 0) % 4294967296 + 4294967296 * ((c + a.getD i 0 + b.getD i 0) / 4294967296) = c + a.getD i 0 + b.getD i 0 := by omega
  generalize (c + a.getD i 0 + b.getD i 0) % 4294967296 = x at *
  generalize (c + a.getD i 0 + b.getD i 0) / 4294967296 = y at *
  grind
theorem AddI.done {a b s : List Nat} {n c : Nat} (h : AddI a b s n n c) (ha : DgL a) (hb : DgL b) (hn : n = max a.length b.length + 1) : val s = val a + val b := by
  have h1 := h.sum
  rw [pv_end s n (by rw [h.len]; omega), pv_end a n (by omega), pv_end b n (by omega)] at h1
  have h2 := Nat.lt_of_lt_of_le (val_lt a ha) (pw_le (a := a.length) (b := n - 1) (by omega))
  have h3 := Nat.lt_of_lt_of_le (val_lt b hb) (pw_le (a := b.length) (b := n - 1) (by omega))
  have h4 : pw n = 4294967296 * pw (n - 1) := by rw [hn]; rfl
  have h5 := h.c1
  rcases Nat.eq_zero_or_pos c with h6 | h6
  · subst h6; omega
  · have : c = 1 := by omega
    subst this; omega
/-! Subtraction. -/
structure SubJ (a b s : List Nat) (n i c : Nat) : Prop where
  len : s.length = n
  dg : DgL s
  sum : pv s i + pv b i + c * 0 = pv a i + c * pw i
  c1 : c ≤ 1
theorem SubJ.start (a b : List Nat) (n : Nat) : SubJ a b (List.replicate n 0) n 0 0 :=
  ⟨by simp, fun d hd => by rw [(List.mem_replicate.1 hd).2]; decide, by rw [pv_zero, pv_zero, pv_zero]; rfl, by omega⟩
theorem SubJ.next {a b s : List Nat} {n i c x : Nat} (h : SubJ a b s n i c) (ha : DgL a) (hb : DgL b) (hi : i < n) (hx : x = a.getD i 0 + 4294967296 - b.getD i 0 - c) :
    SubJ a b (s.set i (x % 4294967296)) n (i + 1) (1 - x / 4294967296) := by
  have h1 := getD_lt a ha i
  have h2 := getD_lt b hb i
  have h3 := h.c1
  refine ⟨by rw [List.length_set]; exact h.len, h.dg.set _ _ (by omega), ?_, by omega⟩
  have hl : i < s.length := by rw [h.len]; exact hi
  rw [pv_succ, pv_set s i _ hl i (Nat.le_refl _), getD_set s i i _ hl, if_pos rfl, pv_succ, pv_succ, pw]
  have hs := h.sum
  have hm : x % 4294967296 + b.getD i 0 + c = a.getD i 0 + 4294967296 * (1 - x / 4294967296) := by
    have key : ∀ u v c x : Nat, u < 4294967296 → v < 4294967296 → c ≤ 1 → x = u + 4294967296 - v - c → x % 4294967296 + v + c = u + 4294967296 * (1 - x / 4294967296) := by intros; omega
    exact key _ _ _ _ h1 h2 h3 hx
  generalize x % 4294967296 = u at *
  generalize 1 - x / 4294967296 = y at *
  grind
theorem SubJ.done {a b s : List Nat} {n c : Nat} (h : SubJ a b s n n c) (ha : DgL a) (hb : DgL b) (hn : n = a.length) (hbl : b.length ≤ n) (hle : val b ≤ val a) : val s = val a - val b := by
  have h1 := h.sum
  rw [pv_end s n (by rw [h.len]; omega), pv_end a n (by omega), pv_end b n (by omega)] at h1
  have h2 := val_lt s h.dg
  rw [h.len] at h2
  have h5 := h.c1
  rcases Nat.eq_zero_or_pos c with h6 | h6
  · subst h6; omega
  · have : c = 1 := by omega
    subst this; omega
/-! Multiplication. -/
/-- i rows are done, of row i the first k places; r: the rest of what is to be carried. -/
structure MulI (a b s : List Nat) (i k c : Nat) : Prop where
  len : s.length = a.length + b.length
  dg : DgL s
  hi : ∀ j, i + b.length ≤ j → s.getD j 0 = 0
  sum : val s + c * pw (i + k) = pv a i * val b + a.getD i 0 * pw i * pv b k
  c1 : c < 4294967296
theorem MulI.next {a b s : List Nat} {i k c t : Nat} (h : MulI a b s i k c) (ha : DgL a) (hb : DgL b) (hi : i < a.length) (hk : k < b.length) (ht : t = c + s.getD (i + k) 0 + a.getD i 0 * b.getD k 0) :
    MulI a b (s.set (i + k) (t % 4294967296)) i (k + 1) (t / 4294967296) := by
  have h1 := getD_lt a ha i
  have h2 := getD_lt b hb k
  have h3 := h.c1
  have h4 := getD_lt s h.dg (i + k)
  have h5 : a.getD i 0 * b.getD k 0 ≤ 4294967295 * 4294967295 := Nat.mul_le_mul (by omega) (by omega)
  have hl : i + k < s.length := by rw [h.len]; omega
  refine ⟨by rw [List.length_set]; exact h.len, h.dg.set _ _ (by omega), fun j hj => by rw [getD_set s _ j _ hl, if_neg (by omega)]; exact h.hi j hj, ?_, by omega⟩
  have hv := val_set s (i + k) (t % 4294967296) hl
  have hs := h.sum
  have hm : t % 4294967296 + 4294967296 * (t / 4294967296) = t := by omega
  rw [pv_succ, ← Nat.add_assoc, pw]
  have hp := pw_add i k
  generalize t % 4294967296 = u at *
  generalize t / 4294967296 = y at *
  generalize pw (i + k) = q at *
  grind
theorem MulI.row {a b s : List Nat} {i c : Nat} (h : MulI a b s i b.length c) (hi : i < a.length) : MulI a b (s.set (i + b.length) c) (i + 1) 0 0 := by
  have hl : i + b.length < s.length := by rw [h.len]; omega
  refine ⟨by rw [List.length_set]; exact h.len, h.dg.set _ _ h.c1, fun j hj => by rw [getD_set s _ j _ hl, if_neg (by omega)]; exact h.hi j (by omega), ?_, by omega⟩
  have hv := val_set s (i + b.length) c hl
  have hs := h.sum
  have h0 := h.hi (i + b.length) (Nat.le_refl _)
  rw [h0] at hv
  rw [pv_end b _ (Nat.le_refl _)] at hs
  rw [pv_zero, pv_succ]
  grind
theorem MulI.start (a b : List Nat) : MulI a b (List.replicate (a.length + b.length) 0) 0 0 0 :=
  ⟨by simp, fun d hd => by rw [(List.mem_replicate.1 hd).2]; decide, fun j hj => (by rw [List.getD_eq_getElem?_getD, List.getElem?_replicate]; split <;> rfl), by
    rw [pv_zero, pv_zero, val_all0 _ (fun j => by rw [List.getD_eq_getElem?_getD, List.getElem?_replicate]; split <;> rfl)]; simp, by omega⟩
theorem MulI.done {a b s : List Nat} {c : Nat} (h : MulI a b s a.length 0 0) : val s = val a * val b := by
  have hs := h.sum
  rw [pv_zero, pv_end a _ (Nat.le_refl _)] at hs
  simpa using hs
/-! Shifts. -/
structure ShlI (a s : List Nat) (n i : Nat) : Prop where
  len : s.length = a.length + n / 32 + 1
  dg : DgL s
  hi : ∀ j, i + n / 32 < j → s.getD j 0 = 0
  lo : s.getD (i + n / 32) 0 < 2 ^ (n % 32)
  sum : val s = pv a i * 2 ^ n
theorem ShlI.start (a : List Nat) (n : Nat) : ShlI a (List.replicate (a.length + n / 32 + 1) 0) n 0 := by
  have h0 : ∀ j, (List.replicate (a.length + n / 32 + 1) 0).getD j 0 = 0 := fun j => by rw [List.getD_eq_getElem?_getD, List.getElem?_replicate]; split <;> rfl
  exact ⟨by simp, fun d hd => by rw [(List.mem_replicate.1 hd).2]; decide, fun j hj => h0 j, by rw [h0]; exact Nat.pow_pos (by decide), by rw [pv_zero, val_all0 _ h0]; simp⟩
theorem shl_hi (d m : Nat) (h : d < 4294967296) (hm : m < 32) : d * 2 ^ m / 4294967296 < 2 ^ m := by
  rw [Nat.div_lt_iff_lt_mul (by decide), Nat.mul_comm (2 ^ m)]
  exact Nat.mul_lt_mul_of_pos_right h (Nat.pow_pos (by decide))
theorem shl_lo (d m : Nat) (hm : m < 32) : ∃ q, d * 2 ^ m % 4294967296 = 2 ^ m * q ∧ 2 ^ m * q + 2 ^ m ≤ 4294967296 := by
  have h32 : (4294967296 : Nat) = 2 ^ m * 2 ^ (32 - m) := by rw [← Nat.pow_add, show m + (32 - m) = 32 by omega]
  refine ⟨d % 2 ^ (32 - m), ?_, ?_⟩
  · rw [h32, Nat.mul_comm d, Nat.mul_mod_mul_left]
  · rw [h32]
    have : d % 2 ^ (32 - m) + 1 ≤ 2 ^ (32 - m) := Nat.mod_lt _ (Nat.pow_pos (by decide))
    calc 2 ^ m * (d % 2 ^ (32 - m)) + 2 ^ m = 2 ^ m * (d % 2 ^ (32 - m) + 1) := by rw [Nat.mul_add, Nat.mul_one]
      _ ≤ _ := Nat.mul_le_mul_left _ this
theorem or_add (x q m : Nat) (hx : x < 2 ^ m) : x ||| (2 ^ m * q) = x + 2 ^ m * q := by
  rw [Nat.or_comm, ← Nat.two_pow_add_eq_or_of_lt hx q, Nat.add_comm]
/-- The lower word of a round: or is a sum. -/
theorem ShlI.or_eq {a s : List Nat} {n i : Nat} (h : ShlI a s n i) : s.getD (i + n / 32) 0 ||| (a.getD i 0 * 2 ^ (n % 32) % 4294967296) = s.getD (i + n / 32) 0 + a.getD i 0 * 2 ^ (n % 32) % 4294967296 := by
  obtain ⟨q, h1, -⟩ := shl_lo (a.getD i 0) (n % 32) (by omega)
  rw [h1]; exact or_add _ _ _ h.lo
theorem ShlI.next {a s : List Nat} {n i : Nat} (h : ShlI a s n i) (ha : DgL a) (hi : i < a.length) :
    ShlI a ((s.set (i + n / 32) (s.getD (i + n / 32) 0 + a.getD i 0 * 2 ^ (n % 32) % 4294967296)).set (i + n / 32 + 1) (a.getD i 0 * 2 ^ (n % 32) / 4294967296)) n (i + 1) := by
  have h1 := getD_lt a ha i
  obtain ⟨q, h2, h3⟩ := shl_lo (a.getD i 0) (n % 32) (by omega)
  have h4 := shl_hi (a.getD i 0) (n % 32) h1 (by omega)
  have h5 := h.lo
  have hl : i + n / 32 < s.length := by rw [h.len]; omega
  have hl2 : i + n / 32 + 1 < (s.set (i + n / 32) (s.getD (i + n / 32) 0 + a.getD i 0 * 2 ^ (n % 32) % 4294967296)).length := by rw [List.length_set, h.len]; omega
  have h6 : 2 ^ (n % 32) ≤ 2 ^ 31 := Nat.pow_le_pow_right (by decide) (by omega)
  refine ⟨by rw [List.length_set, List.length_set]; exact h.len, (h.dg.set _ _ (by omega)).set _ _ (by omega), fun j hj => ?_, ?_, ?_⟩
  · rw [getD_set _ _ j _ hl2, if_neg (by omega), getD_set _ _ j _ hl, if_neg (by omega)]; exact h.hi j (by omega)
  · rw [show i + 1 + n / 32 = i + n / 32 + 1 by omega, getD_set _ _ _ _ hl2, if_pos rfl]; exact h4
  · have e1 := val_set s (i + n / 32) (s.getD (i + n / 32) 0 + a.getD i 0 * 2 ^ (n % 32) % 4294967296) hl
    have e2 := val_set _ (i + n / 32 + 1) (a.getD i 0 * 2 ^ (n % 32) / 4294967296) hl2
    rw [getD_set _ _ _ _ hl, if_neg (by omega), h.hi (i + n / 32 + 1) (by omega)] at e2
    have hs := h.sum
    have hn : (2 : Nat) ^ n = pw (n / 32) * 2 ^ (n % 32) := by rw [pw_two, ← Nat.pow_add]; congr 1; omega
    have hp := pw_add i (n / 32)
    have hm : a.getD i 0 * 2 ^ (n % 32) % 4294967296 + 4294967296 * (a.getD i 0 * 2 ^ (n % 32) / 4294967296) = a.getD i 0 * 2 ^ (n % 32) := by omega
    rw [pw] at e2
    rw [pv_succ, Nat.add_mul, ← hs]
    generalize a.getD i 0 * 2 ^ (n % 32) % 4294967296 = u at *
    generalize a.getD i 0 * 2 ^ (n % 32) / 4294967296 = y at *
    generalize pw (i + n / 32) = p at *
    grind
theorem ShlI.done {a s : List Nat} {n : Nat} (h : ShlI a s n a.length) : val s = val a * 2 ^ n := by
  rw [h.sum, pv_end a _ (Nat.le_refl _)]
/-- Half: one bit to the right. -/
structure ShrI (a s : List Nat) (i : Nat) : Prop where
  len : s.length = a.length
  dg : DgL s
  sum : 2 * pv s i + a.getD 0 0 % 2 = pv a i + (a.getD i 0 % 2) * pw i
theorem ShrI.start (a : List Nat) : ShrI a (List.replicate a.length 0) 0 :=
  ⟨by simp, fun d hd => by rw [(List.mem_replicate.1 hd).2]; decide, by rw [pv_zero, pv_zero]; simp [pw]⟩
theorem shr_or (x y : Nat) (h : x < 4294967296) : x / 2 ||| y * 2147483648 % 4294967296 = x / 2 + (y % 2) * 2147483648 := by
  have e : y * 2147483648 % 4294967296 = 2 ^ 31 * (y % 2) := by omega
  rw [e, or_add (x / 2) (y % 2) 31 (by omega)]; omega
theorem ShrI.next {a s : List Nat} {i : Nat} (h : ShrI a s i) (ha : DgL a) (hi : i < a.length) : ShrI a (s.set i (a.getD i 0 / 2 + (a.getD (i + 1) 0 % 2) * 2147483648)) (i + 1) := by
  have h1 := getD_lt a ha i
  have hl : i < s.length := by rw [h.len]; exact hi
  refine ⟨by rw [List.length_set]; exact h.len, h.dg.set _ _ (by omega), ?_⟩
  rw [pv_succ, pv_set s i _ hl i (Nat.le_refl _), getD_set s i i _ hl, if_pos rfl, pv_succ, pw]
  have hs := h.sum
  have hm : 2 * (a.getD i 0 / 2) + a.getD i 0 % 2 = a.getD i 0 := by omega
  generalize a.getD i 0 / 2 = u at *
  generalize a.getD i 0 % 2 = y at *
  grind
theorem ShrI.done {a s : List Nat} (h : ShrI a s a.length) : val s = val a / 2 := by
  have hs := h.sum
  rw [pv_end a _ (Nat.le_refl _), pv_end s _ (by rw [h.len]; exact Nat.le_refl _), getD_end a _ (Nat.le_refl _)] at hs
  omega
/-! Comparing. -/
theorem val_split (l : List Nat) (i : Nat) (h : i ≤ l.length) : val l = pv l i + pw i * val (l.drop i) := by
  conv => lhs; rw [← List.take_append_drop i l]
  rw [val_app, List.length_take, Nat.min_eq_left h]; rfl
theorem cmp_digit {a b : List Nat} (ha : DgL a) (hb : DgL b) (hl : a.length = b.length) (i : Nat) (hi : i < a.length) (hd : a.drop (i + 1) = b.drop (i + 1)) (h : a.getD i 0 < b.getD i 0) : val a < val b := by
  rw [val_split a (i + 1) (by omega), val_split b (i + 1) (by omega), hd, pv_succ, pv_succ]
  have h1 := pv_lt a ha i
  have h2 : (a.getD i 0 + 1) * pw i ≤ b.getD i 0 * pw i := Nat.mul_le_mul_right _ h
  rw [Nat.add_mul, Nat.one_mul] at h2
  omega
theorem drop_step {a b : List Nat} (hl : a.length = b.length) (i : Nat) (hi : i < a.length) (hd : a.drop (i + 1) = b.drop (i + 1)) (h : a.getD i 0 = b.getD i 0) : a.drop i = b.drop i := by
  rw [List.drop_eq_getElem_cons hi, List.drop_eq_getElem_cons (show i < b.length by omega), hd]
  rw [List.getD_eq_getElem?_getD, List.getD_eq_getElem?_getD, List.getElem?_eq_getElem hi, List.getElem?_eq_getElem (show i < b.length by omega)] at h
  simp only [Option.getD_some] at h
  rw [h]
def cmpN (a b : Nat) : Int := if a < b then -1 else if b < a then 1 else 0
/-! The number of bits. -/
def blN (v : Nat) : Nat := if v = 0 then 0 else Nat.log2 v + 1
theorem blN_of (v k : Nat) (h1 : 2 ^ k ≤ v) (h2 : v < 2 ^ (k + 1)) : blN v = k + 1 := by
  have : v ≠ 0 := by have := Nat.pow_pos (a := 2) (n := k) (by decide); omega
  unfold blN
  rw [if_neg this, (Nat.log2_eq_iff this).2 ⟨h1, h2⟩]
theorem blN_lt (v : Nat) : v < 2 ^ blN v := by
  unfold blN
  by_cases h : v = 0
  · subst h; decide
  · rw [if_neg h]; exact ((Nat.log2_eq_iff h).1 rfl).2
theorem blN_ge (v : Nat) (h : v ≠ 0) : 2 ^ (blN v - 1) ≤ v := by
  unfold blN
  rw [if_neg h]
  exact ((Nat.log2_eq_iff h).1 rfl).1
theorem blN_pos (v : Nat) (h : v ≠ 0) : 0 < blN v := by unfold blN; rw [if_neg h]; omega
theorem blN_top (l : List Nat) (m x : Nat) (hd : DgL l) (hn : l ≠ []) (hx : l.getD (l.length - 1) 0 = x) (hm : 0 < m) (h1 : 2 ^ (m - 1) ≤ x) (h2 : x < 2 ^ m) : blN (val l) = 32 * (l.length - 1) + m := by
  have hl : 0 < l.length := by cases l with | nil => exact absurd rfl hn | cons => simp
  have e : val l = pv l (l.length - 1) + x * pw (l.length - 1) := by
    rw [← hx, ← pv_succ, pv_end _ _ (by omega)]
  have h3 := pv_lt l hd (l.length - 1)
  rw [show 32 * (l.length - 1) + m = 32 * (l.length - 1) + (m - 1) + 1 by omega]
  apply blN_of
  · rw [e, Nat.pow_add, ← pw_two]
    have := Nat.mul_le_mul_left (pw (l.length - 1)) h1
    rw [Nat.mul_comm x]; omega
  · rw [e, show 32 * (l.length - 1) + (m - 1) + 1 = 32 * (l.length - 1) + m by omega, Nat.pow_add, ← pw_two]
    have : pw (l.length - 1) * (x + 1) ≤ pw (l.length - 1) * 2 ^ m := Nat.mul_le_mul_left _ h2
    rw [Nat.mul_add] at this
    rw [Nat.mul_comm x]; omega
/-! Division. -/
theorem val_digit (l : List Nat) (h : DgL l) (j : Nat) : l.getD j 0 = val l / pw j % 4294967296 := by
  induction l generalizing j with
  | nil => simp [val]
  | cons d l ih =>
    have hd := h d (List.mem_cons_self ..)
    cases j with
    | zero => simp [val, pw]; omega
    | succ j =>
      rw [List.getD_cons_succ, ih (fun x hx => h x (List.mem_cons_of_mem _ hx)) j, val, pw, ← Nat.div_div_eq_div_mul]
      rw [show (d + 4294967296 * val l) / 4294967296 = val l by omega]
structure DivI (va vb n : Nat) (q : List Nat) (R i : Nat) : Prop where
  len : q.length = n / 32 + 1
  dg : DgL q
  div : ∃ t, val q = 2 ^ i * t
  eq : va = val q * vb + R
  lt : R < vb * 2 ^ i
theorem DivI.start (va vb : Nat) (hb : vb ≠ 0) (n : Nat) (hn : n + blN vb = blN va) : DivI va vb n (List.replicate (n / 32 + 1) 0) va (n + 1) := by
  have h0 : ∀ j, (List.replicate (n / 32 + 1) 0).getD j 0 = 0 := fun j => by rw [List.getD_eq_getElem?_getD, List.getElem?_replicate]; split <;> rfl
  refine ⟨by simp, fun d hd => by rw [(List.mem_replicate.1 hd).2]; decide, ⟨0, by rw [val_all0 _ h0]; rfl⟩, by rw [val_all0 _ h0]; omega, ?_⟩
  have h1 := blN_lt va
  have h2 := blN_ge vb hb
  have h3 := blN_pos vb hb
  rw [← hn] at h1
  calc va < 2 ^ (n + blN vb) := h1
    _ = 2 ^ (blN vb - 1) * 2 ^ (n + 1) := by rw [← Nat.pow_add]; congr 1; omega
    _ ≤ vb * 2 ^ (n + 1) := Nat.mul_le_mul_right _ h2
theorem DivI.skip {va vb n : Nat} {q : List Nat} {R i : Nat} (h : DivI va vb n q R (i + 1)) (hlt : R < vb * 2 ^ i) : DivI va vb n q R i := by
  obtain ⟨t, ht⟩ := h.div
  exact ⟨h.len, h.dg, ⟨2 * t, by rw [ht, Nat.pow_succ]; grind⟩, h.eq, hlt⟩
theorem div_digit {t i : Nat} : ∃ u, 2 ^ (i + 1) * t / pw (i / 32) % 4294967296 = 2 ^ (i % 32) * (2 * u) ∧ 2 ^ (i % 32) * (2 * u) + 2 ^ (i % 32) < 4294967296 := by
  have e1 : (2 : Nat) ^ (i + 1) = pw (i / 32) * (2 ^ (i % 32) * 2) := by
    rw [pw_two, ← Nat.pow_succ, ← Nat.pow_add]; congr 1; omega
  have h32 : (4294967296 : Nat) = 2 ^ (i % 32) * 2 * 2 ^ (31 - i % 32) := by
    rw [← Nat.pow_succ, ← Nat.pow_add, show i % 32 + 1 + (31 - i % 32) = 32 by omega]
  refine ⟨t % 2 ^ (31 - i % 32), ?_, ?_⟩
  · rw [e1, Nat.mul_assoc, Nat.mul_div_cancel_left _ (pw_pos _)]
    conv => lhs; rw [h32]
    rw [Nat.mul_mod_mul_left]; grind
  · have h1 : t % 2 ^ (31 - i % 32) + 1 ≤ 2 ^ (31 - i % 32) := Nat.mod_lt _ (Nat.pow_pos (by decide))
    have h2 := Nat.mul_le_mul_left (2 ^ (i % 32) * 2) h1
    rw [← h32] at h2
    have h3 : 0 < 2 ^ (i % 32) := Nat.pow_pos (by decide)
    grind
theorem DivI.or_eq {va vb n : Nat} {q : List Nat} {R i : Nat} (h : DivI va vb n q R (i + 1)) : q.getD (i / 32) 0 ||| 2 ^ (i % 32) = q.getD (i / 32) 0 + 2 ^ (i % 32) ∧ q.getD (i / 32) 0 + 2 ^ (i % 32) < 4294967296 := by
  obtain ⟨t, ht⟩ := h.div
  obtain ⟨u, h1, h2⟩ := div_digit (t := t) (i := i)
  rw [val_digit q h.dg, ht, h1]
  refine ⟨?_, h2⟩
  have e : 2 ^ (i % 32) * (2 * u) = 2 ^ (i % 32 + 1) * u := by rw [Nat.pow_succ]; grind
  rw [e, ← Nat.two_pow_add_eq_or_of_lt]
  exact Nat.pow_lt_pow_right (by decide) (by omega)
theorem DivI.take {va vb n : Nat} {q : List Nat} {R i : Nat} (h : DivI va vb n q R (i + 1)) (hi : i ≤ n) (hge : vb * 2 ^ i ≤ R) : DivI va vb n (q.set (i / 32) (q.getD (i / 32) 0 + 2 ^ (i % 32))) (R - vb * 2 ^ i) i := by
  have hl : i / 32 < q.length := by rw [h.len]; have := Nat.div_le_div_right (c := 32) hi; omega
  have hv := val_set q (i / 32) (q.getD (i / 32) 0 + 2 ^ (i % 32)) hl
  have e1 : (2 : Nat) ^ i = pw (i / 32) * 2 ^ (i % 32) := by rw [pw_two, ← Nat.pow_add]; congr 1; omega
  have hv2 : val (q.set (i / 32) (q.getD (i / 32) 0 + 2 ^ (i % 32))) = val q + 2 ^ i := by rw [e1]; grind
  obtain ⟨t, ht⟩ := h.div
  have hq := h.eq
  have hlt := h.lt
  rw [Nat.pow_succ] at hlt
  refine ⟨by rw [List.length_set]; exact h.len, h.dg.set _ _ h.or_eq.2, ⟨2 * t + 1, by rw [hv2, ht, Nat.pow_succ]; grind⟩, ?_, ?_⟩
  · rw [hv2, Nat.add_mul, Nat.mul_comm (2 ^ i)]; omega
  · have : vb * (2 ^ i * 2) = vb * 2 ^ i + vb * 2 ^ i := by grind
    omega
theorem DivI.done {va vb n : Nat} {q : List Nat} {R : Nat} (h : DivI va vb n q R 0) (hb : vb ≠ 0) : val q = va / vb ∧ R = va % vb := by
  have hq := h.eq
  have hlt := h.lt
  rw [Nat.pow_zero, Nat.mul_one] at hlt
  constructor
  · rw [hq, Nat.mul_comm, Nat.mul_add_div (by omega), Nat.div_eq_of_lt hlt]; rfl
  · rw [hq, Nat.mul_comm, Nat.mul_add_mod, Nat.mod_eq_of_lt hlt]
theorem div_small (va vb : Nat) (h : blN va < blN vb) : va / vb = 0 ∧ va % vb = va := by
  have hb : vb ≠ 0 := by rintro rfl; simp [blN] at h
  have h1 := blN_lt va
  have h2 := blN_ge vb hb
  have h3 : 2 ^ blN va ≤ 2 ^ (blN vb - 1) := Nat.pow_le_pow_right (by decide) (by omega)
  have h4 : va < vb := by omega
  exact ⟨Nat.div_eq_of_lt h4, Nat.mod_eq_of_lt h4⟩
/-! Integers: a sign and digits. -/
/-- The integer of a sign and an absolute value. -/
def sgnI (neg : Bool) (v : Nat) : Int := if neg then -(v : Int) else v
/-- Division toward negative infinity, out of that of the absolute values. -/
theorem fdiv_of (a b : Int) (hb : b ≠ 0) : a.fdiv b = if (decide (a < 0) != decide (b < 0)) = true ∧ a.natAbs % b.natAbs ≠ 0 then sgnI (decide (a < 0) != decide (b < 0)) (a.natAbs / b.natAbs) - 1 else sgnI (decide (a < 0) != decide (b < 0)) (a.natAbs / b.natAbs) := by
  have hn : 0 < b.natAbs := by omega
  have e := Nat.div_add_mod a.natAbs b.natAbs
  have hm := Nat.mod_lt a.natAbs hn
  generalize a.natAbs / b.natAbs = q at *
  generalize a.natAbs % b.natAbs = r at *
  have key : ∀ k r' : Int, a = b * k + r' → (0 ≤ r' ∧ r' < b ∨ b < r' ∧ r' ≤ 0) → a.fdiv b = k := by
    intro k r' h1 h2
    have h3 := Int.mul_fdiv_add_fmod a b
    have hk : b * (a.fdiv b) + a.fmod b = b * k + r' := by rw [h3, h1]
    have hf : (0 ≤ a.fmod b ∧ a.fmod b < b) ∨ (b < a.fmod b ∧ a.fmod b ≤ 0) := by
      rcases Int.lt_or_gt_of_ne hb with q | q
      · right
        have h := Int.fmod_eq_emod (a := a) (b := b)
        have h4 := Int.emod_nonneg a (show b ≠ 0 by omega)
        have h5 := Int.emod_lt_of_neg a q
        have h6 : b ∣ a ↔ a % b = 0 := Int.dvd_iff_emod_eq_zero
        rw [h]
        by_cases hd : b ∣ a
        · simp [hd, h6.1 hd, q]
        · have : a % b ≠ 0 := fun e => hd (h6.2 e)
          have q2 : ¬ 0 ≤ b := by omega
          simp [hd, q2]; omega
      · left
        exact ⟨Int.fmod_nonneg_of_pos a q, Int.fmod_lt_of_pos a q⟩
    have hz : b * (a.fdiv b - k) = r' - a.fmod b := by grind
    have key2 : ∀ z : Int, z ≠ 0 → ¬ (b * z = r' - a.fmod b) := by
      intro z hz0 hz1
      have hab : (b * z).natAbs = b.natAbs * z.natAbs := Int.natAbs_mul b z
      have : b.natAbs * 1 ≤ b.natAbs * z.natAbs := Nat.mul_le_mul_left _ (by omega)
      generalize b.natAbs * z.natAbs = u at *
      omega
    by_cases c : a.fdiv b - k = 0
    · omega
    · exact absurd hz (key2 _ c)
  have ea : (a.natAbs : Int) = b.natAbs * q + r := by rw [← e]; push_cast; rfl
  by_cases ha : a < 0 <;> by_cases hb2 : b < 0 <;> simp only [ha, hb2, decide_true, decide_false, sgnI, bne_self_eq_false, Bool.false_eq_true, false_and, if_false, Bool.true_bne, Bool.not_false, true_and, if_true, Bool.false_bne]
  · refine key _ (-(r : Int)) ?_ (Or.inr ⟨by omega, by omega⟩)
    rw [show (a.natAbs : Int) = -a by omega, show (b.natAbs : Int) = -b by omega] at ea
    grind
  · rw [show (a.natAbs : Int) = -a by omega, show (b.natAbs : Int) = b by omega] at ea
    split
    · refine key _ (b - r) (by grind) (Or.inl ⟨by omega, by omega⟩)
    · refine key _ 0 ?_ (Or.inl ⟨by omega, by omega⟩)
      have : r = 0 := by omega
      subst this; grind
  · rw [show (a.natAbs : Int) = a by omega, show (b.natAbs : Int) = -b by omega] at ea
    split
    · refine key _ (b + r) (by grind) (Or.inr ⟨by omega, by omega⟩)
    · refine key _ 0 ?_ (Or.inr ⟨by omega, by omega⟩)
      have : r = 0 := by omega
      subst this; grind
  · rw [show (a.natAbs : Int) = a by omega, show (b.natAbs : Int) = b by omega] at ea
    refine key _ r (by grind) (Or.inl ⟨by omega, by omega⟩)

end Go.Proofs.Ytifdimpfgglieaa
