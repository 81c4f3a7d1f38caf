/-
  Chains of constants, each the greatest of four times the one before: their types. Plain.
-/
import Derived.Test.YtjdjbjblblmdjaaDoorTyo
import Derived.Test.YtjdjbjblblmdjaaDoorChs
import Derived.Test.YtjdjbjblblmdjaaDoorTkT
namespace Go.Proofs.YtjdjbjblblmdjaaDoor
set_option linter.unusedVariables false
set_option linter.unusedSimpArgs false
open Go.ChangeShapes Go.WideShapes Go.ChangeAt Go.RowKit
open Go.Deep (BT)

/-- The name of constant i. -/
def tnm (i : Nat) : ByteArray := if i < 10 then ⟨#[99, UInt8.ofNat (48 + i)]⟩ else ⟨#[99, UInt8.ofNat (48 + i / 10), UInt8.ofNat (48 + i % 10)]⟩
theorem tnm_fin : ∀ i : Fin 32, attrS (tnm i) = true ∧ (tnm i).size ≤ 3 ∧ ∀ j : Fin 32, tnm i = tnm j → i = j := by decide +kernel
theorem tnm_ok (i : Nat) (h : i < 32) : attrS (tnm i) = true ∧ (tnm i).size ≤ 3 := ⟨(tnm_fin ⟨i, h⟩).1, (tnm_fin ⟨i, h⟩).2.1⟩
theorem tnm_inj (i j : Nat) (hi : i < 32) (hj : j < 32) (h : tnm i = tnm j) : i = j := by
  have := (tnm_fin ⟨i, hi⟩).2.2 ⟨j, hj⟩ h
  exact congrArg Fin.val this
theorem tnm_itoa (i : Nat) (h : i < 32) : (⟨#[99]⟩ : ByteArray) ++ itoaB i = tnm i := by
  have : ∀ i : Fin 32, (⟨#[99]⟩ : ByteArray) ++ itoaB (i.val : Int) = tnm i.val := by decide +kernel
  exact this ⟨i, h⟩
def yT (nm : ByteArray) : Ch := ⟨0, 0, ⟨6, 0, nm, none, 0⟩, .nil⟩
structure TcC (i : Nat) (c : Cn) : Prop where
  nm : c.name = tnm i
  zero : i = 0 → c.a = ⟨1, 1, ⟨#[]⟩, none, 0⟩ ∧ c.k = .nil
  more : 0 < i → ∃ g, c.b = g ∧ c.o = 0 ∧ c.a = ⟨13, 0, ⟨#[]⟩, some ⟨g, 0, none⟩, 4⟩ ∧ c.k = rowF [yT (tnm (i - 1)), yT (tnm (i - 1)), yT (tnm (i - 1)), yT (tnm (i - 1))]
def TChain (cs : List Cn) : Prop := ∀ i c, cs[i]? = some c → TcC i c
theorem atE0T (s : ByteArray) : atE 0 s = 6 := rfl
theorem tstep_facts (nm : ByteArray) (hn : attrS nm = true) (hz : nm.size ≤ 3) (a : Nd) (k : Fo) (g : Nat) (ha : a = ⟨13, 0, ⟨#[]⟩, some ⟨g, 0, none⟩, 4⟩) (hk : k = rowF [yT nm, yT nm, yT nm, yT nm]) :
    valE a k = 0 ∧ ExOk a k ∧ (∀ look : Look, look nm = (1, 0) → tyT look 0 a k = (1, 0)) := by
  subst ha hk
  refine ⟨?_, ?_, ?_⟩
  · simp [valE, fitB, sz, dp, rowF, yT, wfB, wfT, argB, numB, namB, hn, len]
    first | rfl | skip
  · have hz0 : (⟨#[]⟩ : ByteArray).size ≤ 9223372036854775807 := by decide
    refine ⟨⟨by simp, by simp, hz0, by simp [rowF, len]⟩, ?_⟩
    simp only [rowF, yT, FoOk, NdOk, len]
    simp
    omega
  · intro look hl
    have hy : nameT look 0 nm = (1, 0) := by unfold nameT; rw [atE0T, if_neg (by decide)]; exact hl
    simp [tyT, tyF, rowF, yT, hy, resT, amtB, allI]
theorem tchain_ix (cs : List Cn) (h : TChain cs) (hl : cs.length ≤ 32) (i : Nat) (hi : i < cs.length) : firstIx (tnm i) cs = some i := by
  rw [firstIx_some]
  refine ⟨⟨cs[i], List.getElem?_eq_getElem hi, (h i _ (List.getElem?_eq_getElem hi)).nm⟩, ?_⟩
  intro c hc
  obtain ⟨j, hj, rfl⟩ := List.getElem_of_mem hc
  rw [List.length_take] at hj
  rw [List.getElem_take]
  have := (h j cs[j] (List.getElem?_eq_getElem (by omega))).nm
  rw [this]
  intro q
  have := tnm_inj j i (by omega) (by omega) q
  omega
theorem trowT_one (cs : List Cn) (i : Nat) (c : Cn) (h : cs[i]? = some c) : rowT cs i = oneT cs (tabN cs i) c := by
  unfold rowT
  rw [tabN, h, List.getD_eq_getElem?_getD, List.getElem?_append_right (by rw [tabN_len]; exact Nat.le_refl _), tabN_len]
  simp
theorem tchain_type (cs : List Cn) (h : TChain cs) (hl : cs.length ≤ 32) : ∀ i, i < cs.length → rowT cs i = (1, 0) := by
  intro i
  induction i with
  | zero =>
    intro hi
    have hc := h 0 cs[0] (List.getElem?_eq_getElem hi)
    rw [trowT_one cs 0 cs[0] (List.getElem?_eq_getElem hi)]
    unfold oneT
    rw [(hc.zero rfl).1, (hc.zero rfl).2]
    rfl
  | succ i ih =>
    intro hi
    have hc := h (i + 1) cs[i + 1] (List.getElem?_eq_getElem hi)
    rw [trowT_one cs (i + 1) cs[i + 1] (List.getElem?_eq_getElem hi)]
    have hk := tnm_ok i (by omega)
    obtain ⟨g, -, -, ha, hk9⟩ := hc.more (by omega)
    obtain ⟨f1, -, f3⟩ := tstep_facts (tnm i) hk.1 hk.2 _ _ g ha hk9
    unfold oneT
    rw [if_pos f1]
    refine f3 _ ?_
    rw [lookT_tab, tchain_ix cs h hl i (by omega)]
    show (if i < i + 1 then rowT cs i else (0, 6)) = (1, 0)
    rw [if_pos (by omega), ih (by omega)]
theorem tname_val (j : Nat) (hj : j < 32) : valE ⟨6, 0, tnm j, none, 0⟩ .nil = 0 := by
  have hk := tnm_ok j hj
  simp [valE, fitB, sz, dp, wfB, wfT, argB, numB, namB, hk.1, len]
theorem tchain_of (cs : List Cn) (h : TChain cs) (hl : cs.length ≤ 32) (j : Nat) (hj : j < cs.length) : typeOfT cs 0 ⟨6, 0, tnm j, none, 0⟩ .nil = (1, 0) := by
  unfold typeOfT
  rw [if_pos (tname_val j (by omega))]
  show nameT _ 0 (tnm j) = (1, 0)
  unfold nameT
  rw [atE0T, if_neg (by decide), lookT_tab, tchain_ix cs h hl j hj]
  show (if j < cs.length then rowT cs j else (0, 6)) = (1, 0)
  rw [if_pos hj, tchain_type cs h hl j hj]
theorem tchain_no (cs : List Cn) (h : TChain cs) (hl : cs.length < 32) : typeOfT cs 0 ⟨6, 0, tnm cs.length, none, 0⟩ .nil = (0, 6) := by
  unfold typeOfT
  rw [if_pos (tname_val _ hl)]
  show nameT _ 0 (tnm cs.length) = (0, 6)
  have hf : firstIx (tnm cs.length) cs = none := by
    cases hq : firstIx (tnm cs.length) cs with
    | none => rfl
    | some i =>
      obtain ⟨⟨c, hc, hn⟩, -⟩ := (firstIx_some _ _ _).1 hq
      have hi := (List.getElem?_eq_some_iff.1 hc).1
      rw [(h i c hc).nm] at hn
      have := tnm_inj _ _ (by omega) hl hn
      omega
  unfold nameT
  rw [atE0T, lookT_tab, hf]
  simp

end Go.Proofs.YtjdjbjblblmdjaaDoor
