/-
  Chains of constants, each of which refers to the one before: types and values, plain.
-/
import Derived.Test.YtinbkhchhlkjgaaPlr
import Derived.Test.YtinbkhchhlkjgaaGm
namespace Go.Proofs.Ytinbkhchhlkjgaa
set_option linter.unusedVariables false
set_option linter.unusedSimpArgs false
open Go.ChangeShapes Go.WideShapes Go.ChangeAt Go.RowKit
open Go.Deep (BT)

/-- The name of constant i. -/
def cname (i : Nat) : ByteArray := if i = 0 then ⟨#[99]⟩ else ⟨#[99, UInt8.ofNat (97 + i % 26), UInt8.ofNat (48 + i / 26)]⟩
theorem cname_fin : ∀ i : Fin 32, attrS (cname i) = true ∧ (cname i).size ≤ 3 ∧ ∀ j : Fin 32, cname i = cname j → i = j := by decide +kernel
theorem cname_ok (i : Nat) (h : i < 32) : attrS (cname i) = true ∧ (cname i).size ≤ 3 := ⟨(cname_fin ⟨i, h⟩).1, (cname_fin ⟨i, h⟩).2.1⟩
theorem cname_inj (i j : Nat) (hi : i < 32) (hj : j < 32) (h : cname i = cname j) : i = j := by
  have := (cname_fin ⟨i, hi⟩).2.2 ⟨j, hj⟩ h
  exact congrArg Fin.val this
def yC (nm : ByteArray) : Ch := ⟨0, 0, ⟨6, 0, nm, none, 0⟩, .nil⟩
/-- The expression of a constant that refers to this name. -/
def stepK (nm : ByteArray) : Kd := nodK2 8 (nodK2 8 (oneK (yC nm)) (oneK (yC nm))) (nodK2 9 (oneK (yC nm)) (oneK (yC nm)))
structure ChC (i : Nat) (c : Cn) : Prop where
  nm : c.name = cname i
  zero : i = 0 → c.a = ⟨1, 1, ⟨#[]⟩, none, 0⟩ ∧ c.k = .nil
  more : 0 < i → stepK (cname (i - 1)) ⟨c.b, c.o, c.a, c.k⟩
def Chain (cs : List Cn) : Prop := ∀ i c, cs[i]? = some c → ChC i c
theorem atE0 (s : ByteArray) : atE 0 s = 6 := rfl
theorem step_facts (nm : ByteArray) (hn : attrS nm = true) (hz : nm.size ≤ 3) (c : Ch) (h : stepK nm c) :
    valE c.a c.k = 0 ∧ ExOk c.a c.k ∧ (∀ look : Look, look nm = (1, 0) → tyT look 0 c.a c.k = (1, 0)) ∧ ∀ f : ByteArray → Int, ev1 f c.a (evF f c.k) = opV 8 [opV 8 [f nm, f nm], opV 9 [f nm, f nm]] := by
  obtain ⟨g, c1, c2, ⟨g1, y1, y2, rfl, rfl, rfl⟩, ⟨g2, y3, y4, rfl, rfl, rfl⟩, rfl⟩ := h
  refine ⟨?_, ?_, ?_, fun f => rfl⟩
  · simp [valE, fitB, sz, dp, rowF, nd, yC, wfB, wfT, argB, numB, namB, hn, len]
    first | rfl | skip
  · have hz0 : (⟨#[]⟩ : ByteArray).size ≤ 9223372036854775807 := by decide
    refine ⟨⟨by simp [nd], by simp [nd], hz0, by simp [nd, rowF, len]⟩, ?_⟩
    simp only [nd, rowF, yC, FoOk, NdOk, len]
    simp
    omega
  · intro look hl
    have hy : nameT look 0 nm = (1, 0) := by unfold nameT; rw [atE0, if_neg (by decide)]; exact hl
    simp [tyT, tyF, nd, rowF, yC, hy, resT, amtB, allI]
theorem chain_ix (cs : List Cn) (h : Chain cs) (hl : cs.length ≤ 32) (i : Nat) (hi : i < cs.length) : firstIx (cname i) cs = some i := by
  rw [firstIx_some]
  refine ⟨⟨cs[i], List.getElem?_eq_getElem hi, (h i _ (List.getElem?_eq_getElem hi)).nm⟩, ?_⟩
  intro c hc
  obtain ⟨j, hj, rfl⟩ := List.getElem_of_mem hc
  rw [List.length_take] at hj
  rw [List.getElem_take]
  have := (h j cs[j] (List.getElem?_eq_getElem (by omega))).nm
  rw [this]
  intro q
  have := cname_inj j i (by omega) (by omega) q
  omega
theorem rowT_one (cs : List Cn) (i : Nat) (c : Cn) (h : cs[i]? = some c) : rowT cs i = oneT cs (tabN cs i) c := by
  unfold rowT
  rw [tabN, h, List.getD_eq_getElem?_getD, List.getElem?_append_right (by rw [tabN_len]; exact Nat.le_refl _), tabN_len]
  simp
theorem chain_type (cs : List Cn) (h : Chain cs) (hl : cs.length ≤ 32) : ∀ i, i < cs.length → rowT cs i = (1, 0) := by
  intro i
  induction i with
  | zero =>
    intro hi
    have hc := h 0 cs[0] (List.getElem?_eq_getElem hi)
    rw [rowT_one cs 0 cs[0] (List.getElem?_eq_getElem hi)]
    unfold oneT
    rw [(hc.zero rfl).1, (hc.zero rfl).2]
    rfl
  | succ i ih =>
    intro hi
    have hc := h (i + 1) cs[i + 1] (List.getElem?_eq_getElem hi)
    rw [rowT_one cs (i + 1) cs[i + 1] (List.getElem?_eq_getElem hi)]
    have hk := cname_ok i (by omega)
    obtain ⟨f1, -, f3, -⟩ := step_facts (cname i) hk.1 hk.2 _ (hc.more (by omega))
    unfold oneT
    rw [if_pos f1]
    refine f3 _ ?_
    rw [lookT_tab, chain_ix cs h hl i (by omega)]
    show (if i < i + 1 then rowT cs i else (0, 6)) = (1, 0)
    rw [if_pos (by omega), ih (by omega)]
theorem step_val (v : Int) (h0 : 0 ≤ v) (h1 : v ≤ 4294967296) : opV 8 [opV 8 [v, v], opV 9 [v, v]] = 2 * v := by
  have e8 : ∀ a b : Int, opV 8 [a, b] = addV a b := fun a b => rfl
  have e9 : ∀ a b : Int, opV 9 [a, b] = addV a (negV b) := fun a b => rfl
  rw [e8, e8, e9]
  unfold addV negV clampI
  rw [IntWalk.i64_in _ (by omega)]
  omega
theorem cval_one (cs : List Cn) (i : Nat) (c : Cn) (h : cs[i]? = some c) (ht : (rowT cs i).2 = 0) : cval cs i = ev1 (nmC cs (cvN cs i)) c.a (evF (nmC cs (cvN cs i)) c.k) := by
  unfold cval
  rw [cvN, h, List.getD_eq_getElem?_getD, List.getElem?_append_right (by rw [cvN_len]; exact Nat.le_refl _), cvN_len]
  simp [ht]
theorem chain_val (cs : List Cn) (h : Chain cs) (hl : cs.length ≤ 32) : ∀ i, i < cs.length → cval cs i = ((2 ^ i : Nat) : Int) := by
  intro i
  induction i with
  | zero =>
    intro hi
    have hc := h 0 cs[0] (List.getElem?_eq_getElem hi)
    rw [cval_one cs 0 cs[0] (List.getElem?_eq_getElem hi) (by rw [chain_type cs h hl 0 hi]), (hc.zero rfl).1, (hc.zero rfl).2]
    rfl
  | succ i ih =>
    intro hi
    have hc := h (i + 1) cs[i + 1] (List.getElem?_eq_getElem hi)
    have hk := cname_ok i (by omega)
    obtain ⟨-, -, -, f4⟩ := step_facts (cname i) hk.1 hk.2 _ (hc.more (by omega))
    rw [cval_one cs (i + 1) cs[i + 1] (List.getElem?_eq_getElem hi) (by rw [chain_type cs h hl _ hi])]
    have e := f4 (nmC cs (cvN cs (i + 1)))
    refine e.trans ?_
    have hv : nmC cs (cvN cs (i + 1)) (cname i) = ((2 ^ i : Nat) : Int) := by
      unfold nmC
      rw [chain_ix cs h hl i (by omega)]
      show (cvN cs (i + 1)).getD i 0 = _
      rw [cvN_get cs (i + 1) i (by omega), ih (by omega)]
    rw [hv]
    have hp : (2 ^ i : Nat) ≤ 2 ^ 32 := Nat.pow_le_pow_right (by omega) (by omega)
    rw [Nat.pow_succ]
    clear hv e f4
    generalize (2 ^ i : Nat) = m at *
    rw [step_val _ (by omega) (by omega)]
    omega
theorem chain_eval (cs : List Cn) (h : Chain cs) (hl : cs.length ≤ 32) (j : Nat) (hj : j < cs.length) : evR cs 0 [] ⟨6, 0, cname j, none, 0⟩ .nil = (1, ((2 ^ j : Nat) : Int), 0) := by
  have hk := cname_ok j (by omega)
  have hv : valE ⟨6, 0, cname j, none, 0⟩ .nil = 0 := by simp [valE, fitB, sz, dp, wfB, wfT, argB, numB, namB, hk.1, len]
  have ht : typeOfT cs 0 ⟨6, 0, cname j, none, 0⟩ .nil = (1, 0) := by
    unfold typeOfT
    rw [if_pos hv]
    show nameT _ 0 (cname j) = (1, 0)
    unfold nameT
    rw [atE0, if_neg (by decide), lookT_tab, chain_ix cs h hl j hj]
    show (if j < cs.length then rowT cs j else (0, 6)) = (1, 0)
    rw [if_pos hj, chain_type cs h hl j hj]
  unfold evR
  have hkn : knT 0 [] ⟨6, 0, cname j, none, 0⟩ .nil = true := rfl
  have hp : nmT 0 (valsT 0 []) (cvT cs) (cname j) = cvT cs (cname j) := rfl
  rw [ht, hkn, if_neg (by decide), if_neg (by decide)]
  show (1, nmT 0 (valsT 0 []) (cvT cs) (cname j), 0) = _
  rw [hp]
  unfold cvT
  rw [chain_ix cs h hl j hj]
  show (1, cval cs j, 0) = _
  rw [chain_val cs h hl j hj]

end Go.Proofs.Ytinbkhchhlkjgaa
