/-
  The checker's two maps: the first place of a name, and the types of constants that are known.
-/
import Derived.Test.YtinbkhchhlkjgaaCst
import Derived.Maps.OwnSet
import Derived.Maps.Views
namespace Go.Proofs.Ytinbkhchhlkjgaa
set_option linter.unusedVariables false
set_option linter.unusedSimpArgs false
open Go.ChangeShapes Go.WideShapes Go.ChangeAt Go.RowKit
open Go.Maps (has size IsMap)

def strK (s : ByteArray) : Lit := .string s.data.toList
def intK (i : Int) : Lit := .int .i64 i
theorem strK_ne {s t : ByteArray} (h : s ≠ t) : strK s ≠ strK t := by
  intro q
  unfold strK at q
  injection q with q
  exact h (by
    apply ByteArray.ext
    exact Array.toList_inj.1 q)
theorem own_tight {P : Program} {k : TypeId} {R : Value → Option (DataW Unit × List MemPlace)} {w : World} {b n : Nat} {D : DataW Unit} (h : w.ownsMap P k R b n D) : w.ownsMap P k R b (size D) D := by
  obtain ⟨es, clock, hb, F, hs, hD⟩ := h
  refine ⟨es, clock, hb, F, ?_, hD⟩
  rw [hD]
  show es.size ≤ _
  rw [Go.Maps.size_eq, length_sorted]
  simp

/-- The map of the first places of the names of the first j constants. -/
def IxMap (P : Program) (w : World) (cs : List Cn) (j b : Nat) : Prop :=
  ∃ D : DataW Unit, w.ownsMap P 9 (plainElem P 3) b j D ∧ IsMap D ∧ ∀ s : ByteArray, match firstIx s (cs.take j) with
    | some i => has D (strK s) = true ∧ D.atKey (strK s) (.lit (.int .i64 0)) = .lit (.int .i64 i)
    | none => has D (strK s) = false
theorem firstIx_snoc (s : ByteArray) (cs : List Cn) (j : Nat) (c : Cn) (h : cs[j]? = some c) : firstIx s (cs.take (j + 1)) = match firstIx s (cs.take j) with | some i => some i | none => if c.name = s then some j else none := by
  rw [firstIx_take, firstIx_take]
  cases q : firstIx s cs with
  | none =>
    have := (firstIx_none s cs).1 q c (List.mem_of_getElem? h)
    simp [this]
  | some i =>
    obtain ⟨⟨c', hc', hn⟩, hl⟩ := (firstIx_some s cs i).1 q
    by_cases h1 : i < j
    · simp [h1, Nat.lt_succ_of_lt h1]
    · by_cases h2 : i = j
      · subst h2
        rw [hc'] at h
        cases h
        simp [hn]
      · have h3 : ¬ i < j + 1 := by omega
        have : c.name ≠ s := hl c (by
          rw [List.mem_take_iff_getElem]
          obtain ⟨hlt, he⟩ := List.getElem?_eq_some_iff.1 h
          exact ⟨j, by omega, he⟩)
        simp [h1, h3, this]

theorem IxMap.kept {P : Program} {w w' : World} {cs : List Cn} {j b : Nat} {row : Option Nat} (h : IxMap P w cs j b) (hg : w.grownBy w' row) (hne : some b ≠ row) : IxMap P w' cs j b := by
  obtain ⟨D, h1, h2, h3⟩ := h
  exact ⟨D, h1.kept hg hne, h2, h3⟩
theorem IxMap.start (P : Program) (w : World) (cs : List Cn) : IxMap P (w.alloc (.map #[] 0)) cs 0 w.heap.size :=
  ⟨.map [], World.ownsMap_made _ _ _ _, ⟨[], rfl⟩, fun s => by simp [firstIx]; rfl⟩
/-- A name that was there before: nothing changes. -/
theorem ix_old {D : DataW Unit} {cs : List Cn} {j : Nat} {c : Cn} (h : cs[j]? = some c) (hD : ∀ s : ByteArray, match firstIx s (cs.take j) with
    | some i => has D (strK s) = true ∧ D.atKey (strK s) (.lit (.int .i64 0)) = .lit (.int .i64 i)
    | none => has D (strK s) = false) (hh : has D (strK c.name) = true) : ∀ s : ByteArray, match firstIx s (cs.take (j + 1)) with
    | some i => has D (strK s) = true ∧ D.atKey (strK s) (.lit (.int .i64 0)) = .lit (.int .i64 i)
    | none => has D (strK s) = false := by
  intro s
  have q := hD s
  rw [firstIx_snoc s cs j c h]
  cases e : firstIx s (cs.take j) with
  | some i => rw [e] at q; exact q
  | none =>
    rw [e] at q
    have : c.name ≠ s := by rintro rfl; rw [hh] at q; cases q
    simp only [if_neg this]
    exact q
theorem ix_new {D : DataW Unit} {cs : List Cn} {j : Nat} {c : Cn} (h : cs[j]? = some c) (hm : IsMap D) (hD : ∀ s : ByteArray, match firstIx s (cs.take j) with
    | some i => has D (strK s) = true ∧ D.atKey (strK s) (.lit (.int .i64 0)) = .lit (.int .i64 i)
    | none => has D (strK s) = false) (hh : has D (strK c.name) = false) : ∀ s : ByteArray, match firstIx s (cs.take (j + 1)) with
    | some i => has (D.put (strK c.name) (.lit (.int .i64 j))) (strK s) = true ∧ (D.put (strK c.name) (.lit (.int .i64 j))).atKey (strK s) (.lit (.int .i64 0)) = .lit (.int .i64 i)
    | none => has (D.put (strK c.name) (.lit (.int .i64 j))) (strK s) = false := by
  intro s
  have q := hD s
  rw [firstIx_snoc s cs j c h]
  by_cases hs : c.name = s
  · subst hs
    cases e : firstIx c.name (cs.take j) with
    | some i => rw [e] at q; rw [q.1] at hh; cases hh
    | none =>
      simp only [if_true]
      exact ⟨Go.Maps.has_put_same hm (by first | trivial | exact .inl ⟨_, rfl⟩ | simp [WideAt.IsKeyLit, strK, intK]) _, Go.Maps.atKey_put_same hm (by first | trivial | exact .inl ⟨_, rfl⟩ | simp [WideAt.IsKeyLit, strK, intK]) _ _⟩
  · have hne : strK s ≠ strK c.name := strK_ne (fun q => hs q.symm)
    cases e : firstIx s (cs.take j) with
    | some i =>
      rw [e] at q
      exact ⟨by rw [Go.Maps.has_put_other hne]; exact q.1, by rw [Go.Maps.atKey_put_other hne]; exact q.2⟩
    | none =>
      rw [e] at q
      simp only [if_neg hs]
      rw [Go.Maps.has_put_other hne]; exact q

/-- The map of the types that are known. -/
def KnMap (P : Program) (w : World) (cs : List Cn) (b : Nat) : Prop :=
  ∃ (D : DataW Unit) (K : List Nat), w.ownsMap P 3 (plainElem P 3) b K.length D ∧ IsMap D ∧ K.Nodup ∧ (∀ i ∈ K, i < cs.length) ∧ size D = K.length ∧
    (∀ i ∈ K, has D (intK i) = true ∧ D.atKey (intK i) (.lit (.int .i64 0)) = .lit (.int .i64 (rowT cs i).1) ∧ (rowT cs i).2 = 0) ∧ ∀ i : Nat, i ∉ K → has D (intK i) = false
theorem KnMap.kept {P : Program} {w w' : World} {cs : List Cn} {b : Nat} {row : Option Nat} (h : KnMap P w cs b) (hg : w.grownBy w' row) (hne : some b ≠ row) : KnMap P w' cs b := by
  obtain ⟨D, K, h1, h2⟩ := h
  exact ⟨D, K, h1.kept hg hne, h2⟩
theorem KnMap.start (P : Program) (w : World) (cs : List Cn) : KnMap P (w.alloc (.map #[] 0)) cs w.heap.size :=
  ⟨.map [], [], World.ownsMap_made _ _ _ _, ⟨[], rfl⟩, List.nodup_nil, by simp, rfl, by simp, fun i _ => rfl⟩
theorem nodup_len : ∀ (n : Nat) (K : List Nat), K.Nodup → (∀ i ∈ K, i < n) → K.length ≤ n
  | 0, K, _, h => by
    cases K with
    | nil => simp
    | cons a r => exact absurd (h a (by simp)) (by omega)
  | n + 1, K, hd, h => by
    have h1 := nodup_len n (K.filter (· != n)) (hd.filter _) (fun i hi => by
      have := List.mem_filter.1 hi
      have h2 := h i this.1
      have h3 : i ≠ n := by simpa using this.2
      omega)
    have h2 : K.length ≤ (K.filter (· != n)).length + 1 := by
      clear h h1
      induction K with
      | nil => simp
      | cons a r ih =>
        have hr := (List.nodup_cons.1 hd)
        by_cases q : a = n
        · subst q
          have : r.filter (· != a) = r := List.filter_eq_self.2 (fun x hx => by
            have : x ≠ a := by rintro rfl; exact hr.1 hx
            simp [this])
          simp [this]
        · have := ih hr.2
          simp [q]
          omega
    omega
theorem intK_ne {i j : Nat} (h : i ≠ j) : intK i ≠ intK j := by
  intro q
  unfold intK at q
  injection q with q1 q2
  omega
theorem kn_put {P : Program} {w w' : World} {cs : List Cn} {b i : Nat} {D : DataW Unit} {K : List Nat} {t : Int} (hi : i < cs.length) (hm : IsMap D) (ht : Go.Maps.Tidy D) (hd : K.Nodup) (hb : ∀ i ∈ K, i < cs.length) (hsz : size D = K.length)
    (h1 : ∀ i ∈ K, has D (intK i) = true ∧ D.atKey (intK i) (.lit (.int .i64 0)) = .lit (.int .i64 (rowT cs i).1) ∧ (rowT cs i).2 = 0) (h2 : ∀ i : Nat, i ∉ K → has D (intK i) = false)
    (hr : rowT cs i = (t, 0)) {n : Nat} (hw : w'.ownsMap P 3 (plainElem P 3) b n (D.put (intK i) (.lit (.int .i64 t)))) : KnMap P w' cs b := by
  have hs := Go.Maps.size_put (k := intK i) ht (.lit (.int .i64 t))
  have hh : ∀ x : Nat, x ≠ i → (has (D.put (intK i) (.lit (.int .i64 t))) (intK x) = has D (intK x) ∧ ∀ z, (D.put (intK i) (.lit (.int .i64 t))).atKey (intK x) z = D.atKey (intK x) z) := fun x hx => ⟨Go.Maps.has_put_other (intK_ne hx) _, fun z => Go.Maps.atKey_put_other (intK_ne hx) _ _⟩
  have hsame : has (D.put (intK i) (.lit (.int .i64 t))) (intK i) = true ∧ (D.put (intK i) (.lit (.int .i64 t))).atKey (intK i) (.lit (.int .i64 0)) = .lit (.int .i64 (rowT cs i).1) ∧ (rowT cs i).2 = 0 := ⟨Go.Maps.has_put_same hm (by first | trivial | exact .inl ⟨_, rfl⟩ | simp [WideAt.IsKeyLit, strK, intK]) _, by rw [hr]; exact Go.Maps.atKey_put_same hm (by first | trivial | exact .inl ⟨_, rfl⟩ | simp [WideAt.IsKeyLit, strK, intK]) _ _, by rw [hr]⟩
  by_cases hk : i ∈ K
  · rw [if_pos (h1 i hk).1, hsz] at hs
    refine ⟨D.put (intK i) (.lit (.int .i64 t)), K, hs ▸ own_tight hw, hm.put _ _, hd, hb, hs, ?_, ?_⟩
    · intro x hx
      by_cases q : x = i
      · subst q; exact hsame
      · rw [(hh x q).1, (hh x q).2]; exact h1 x hx
    · intro x hx
      have q : x ≠ i := by rintro rfl; exact hx hk
      rw [(hh x q).1]; exact h2 x hx
  · rw [if_neg (by rw [h2 i hk]; simp), hsz] at hs
    refine ⟨D.put (intK i) (.lit (.int .i64 t)), i :: K, ?_, hm.put _ _, List.nodup_cons.2 ⟨hk, hd⟩, ?_, ?_, ?_, ?_⟩
    · have := own_tight hw
      rw [hs] at this
      exact this
    · intro x hx
      rcases List.mem_cons.1 hx with rfl | hx
      · exact hi
      · exact hb x hx
    · rw [hs]; rfl
    · intro x hx
      by_cases q : x = i
      · subst q; exact hsame
      · rw [(hh x q).1, (hh x q).2]
        rcases List.mem_cons.1 hx with e | hx
        · exact absurd e q
        · exact h1 x hx
    · intro x hx
      have q : x ≠ i := by rintro rfl; exact hx (by simp)
      rw [(hh x q).1]
      exact h2 x (fun e => hx (by simp [e]))

end Go.Proofs.Ytinbkhchhlkjgaa
