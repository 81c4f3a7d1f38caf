/-
  What compiling comes to, plain, and formulas that stay in memory.
-/
import Derived.Test.YtfoedbfkddoibaaGj
import Derived.Test.YtfoedbfkddoibaaFvx
import Derived.Test.YtfoedbfkddoibaaTyo
namespace Go.Proofs.Ytfoedbfkddoibaa
set_option linter.unusedVariables false
set_option linter.unusedSimpArgs false
open Go.ChangeShapes Go.WideShapes Go.ChangeAt Go.RowKit
open Go.Deep (BT)

/-- The place of an attribute of a scope. -/
def placeT (sc : Int) (s : ByteArray) : Option Nat := if 0 ≤ sc ∧ sc < 4 then posN (Att.listL sc) (Att.listL sc).length s else none
def nS (sc : Int) : Nat := (Att.listL sc).length
/-- What an expression comes to, the names' values known. -/
def ev1 (nm : ByteArray → Int) (a : Nd) (L : List Int) : Int :=
  if a.op = 1 ∨ a.op = 2 ∨ a.op = 3 then a.num else if a.op = 4 then 1 else if a.op = 5 then 0 else if a.op = 6 then nm a.name else opV a.op L
def evF (nm : ByteArray → Int) : Fo → List Int
  | .nil => []
  | .node _ _ a k r => ev1 nm a (evF nm k) :: evF nm r
def nmT (sc : Int) (vals : List Int) (cv : ByteArray → Int) (s : ByteArray) : Int := match placeT sc s with | some i => vals.getD i 0 | none => cv s
theorem posN_lt (L : List (List UInt8)) (j : Nat) (s : ByteArray) (i : Nat) (h : posN L j s = some i) : i < j := by
  induction j with
  | zero => cases h
  | succ j ih =>
    unfold posN at h
    split at h
    · cases h; omega
    · have := ih h; omega

/-- One formula of a row. -/
structure FC where
  b : Nat
  o : Nat
  f : Fd
  k : Ff
def FmGe (B0 : Nat) : Ff → Nat → Prop
  | .nil, _ => True
  | .node b _ _ k r, B => B0 ≤ B ∧ FmGe B0 k b ∧ FmGe B0 r B
theorem FmGe.mono {B0 B1 : Nat} {T : Ff} {B : Nat} (h : FmGe B0 T B) (hb : B1 ≤ B0) : FmGe B1 T B := by
  induction T generalizing B with
  | nil => trivial
  | node b o a k r ihk ihr => exact ⟨Nat.le_trans hb h.1, ihk h.2.1, ihr h.2.2⟩
theorem FmAt.keep {w w' : World} {T : Ff} {B O : Nat} (h : FmAt w T B O) (hk : Keeps w w') : FmAt w' T B O := by
  induction T generalizing B O with
  | nil => trivial
  | node b o a k r ihk ihr =>
    obtain ⟨⟨h0, h1, h2⟩, hp, hkk, hr⟩ := h
    exact ⟨⟨hk _ _ h0, hk _ _ h1, hk _ _ h2⟩, hp, ihk hkk, ihr hr⟩
theorem FmAt.below {w w' : World} {T : Ff} {B O B0 s : Nat} (h : FmAt w T B O) (hl : FmGe B0 T B) (hs : s < B0) (hg : w.grownBy w' (some s)) : FmAt w' T B O := by
  induction T generalizing B O with
  | nil => trivial
  | node b o a k r ihk ihr =>
    obtain ⟨⟨h0, h1, h2⟩, hp, hk, hr⟩ := h
    obtain ⟨n0, nk, nr⟩ := hl
    have key : ∀ (i : Nat) (u : Value), w.cell? ⟨B, i, none⟩ = some u → w'.cell? ⟨B, i, none⟩ = some u := fun i u q => by
      rw [World.cell?_of_block (hg.block B (block_lt_of_cell q) (fun e => by have := Option.some.inj e; omega))]; exact q
    exact ⟨⟨key _ _ h0, key _ _ h1, key _ _ h2⟩, hp, ihk hk nk, ihr hr nr⟩
def FCAt (w : World) (B0 : Nat) (c : FC) : Prop := (c.k ≠ .nil → c.f.ptr = some ⟨c.b, c.o, none⟩) ∧ FmAt w c.k c.b c.o ∧ FmGe B0 c.k c.b
theorem FCAt.keep {w w' : World} {B0 : Nat} {c : FC} (h : FCAt w B0 c) (hk : Keeps w w') : FCAt w' B0 c := ⟨h.1, h.2.1.keep hk, h.2.2⟩
theorem FCAt.next {w w' : World} {B0 : Nat} {c : FC} (h : FCAt w B0 c) (hb : Below w.heap.size w w') : FCAt w' B0 c := ⟨h.1, h.2.1.next hb, h.2.2⟩
theorem FCAt.set {w w' : World} {B0 s : Nat} {c : FC} (h : FCAt w B0 c) (hs : s < B0) (hg : w.grownBy w' (some s)) : FCAt w' B0 c := ⟨h.1, h.2.1.below h.2.2 hs hg, h.2.2⟩
theorem FCAt.mono {w : World} {B0 B1 : Nat} {c : FC} (h : FCAt w B0 c) (hb : B1 ≤ B0) : FCAt w B1 c := ⟨h.1, h.2.1, h.2.2.mono hb⟩
def fcC (c : FC) : List Value := [.int .i64 c.f.op, .int .i64 c.f.num, .slice c.f.ptr (flen c.k) c.f.cap]
def frowC (l : List FC) : List Value := l.flatMap fcC
def frowF : List FC → Ff
  | [] => .nil
  | c :: r => .node c.b c.o c.f c.k (frowF r)
theorem frowF_len (l : List FC) : flen (frowF l) = l.length := by
  induction l with
  | nil => rfl
  | cons c l ih => simp [frowF, flen, ih]
theorem frowF_val (vals : List Int) (l : List FC) : fvF vals (frowF l) = l.map fun c => fv1 vals c.f (fvF vals c.k) := by
  induction l with
  | nil => rfl
  | cons c l ih => simp [frowF, fvF, ih]
theorem frowF_at {w : World} {B0 g O : Nat} (l : List FC) (h : ∀ c ∈ l, FCAt w B0 c) (hc : ∀ j u, (frowC l)[j]? = some u → w.cell? ⟨g, O + j, none⟩ = some u) (hg : B0 ≤ g) : FmAt w (frowF l) g O ∧ FmGe B0 (frowF l) g := by
  induction l generalizing O with
  | nil => exact ⟨trivial, trivial⟩
  | cons c l ih =>
    obtain ⟨h1, h2, h3⟩ := h c (by simp)
    obtain ⟨r1, r2⟩ := ih (O := O + 3) (fun d hd => h d (by simp [hd])) (fun j u hu => by
      have := hc (3 + j) u (by unfold frowC; rw [List.flatMap_cons, List.getElem?_append_right (by simp [fcC])]; simpa [fcC, frowC] using hu)
      rw [← Nat.add_assoc] at this
      exact this)
    exact ⟨⟨⟨hc 0 _ rfl, hc 1 _ rfl, hc 2 _ rfl⟩, h1, h2, r1⟩, hg, h3, r2⟩
/-- A compiled node: its value is the expression's, and it has its form. -/
structure CompR (sc : Int) (cv : ByteArray → Int) (a : Nd) (k : Fo) (c : FC) : Prop where
  v : ∀ vals, fv1 vals c.f (fvF vals c.k) = ev1 (nmT sc vals cv) a (evF (nmT sc vals cv) k)
  o1 : fOk1 (nS sc) c.f (flen c.k)
  l : flen c.k ≤ 200
  o : fOk (nS sc) c.k
theorem frowF_ok (n : Nat) (l : List FC) (h : ∀ c ∈ l, fOk1 n c.f (flen c.k) ∧ flen c.k ≤ 200 ∧ fOk n c.k) : fOk n (frowF l) := by
  induction l with
  | nil => trivial
  | cons c l ih =>
    obtain ⟨h1, h2, h3⟩ := h c (by simp)
    exact ⟨h1, by omega, h3, ih (fun d hd => h d (by simp [hd]))⟩
theorem evF_len (nm : ByteArray → Int) (T : Fo) : (evF nm T).length = len T := by
  induction T with
  | nil => rfl
  | node b o a k r ihk ihr => simp [evF, len, ihr]
/-- What holds of the names of an expression. -/
def NamF (Q : ByteArray → Prop) : Fo → Prop
  | .nil => True
  | .node _ _ a k r => ((a.op = 6 → Q a.name) ∧ NamF Q k) ∧ NamF Q r
theorem comp_leaf (sc : Int) (cv : ByteArray → Int) (a : Nd) (k : Fo) (n : Int) (hb : i64B n) (h : ∀ vals, ev1 (nmT sc vals cv) a (evF (nmT sc vals cv) k) = n) : CompR sc cv a k ⟨0, 0, ⟨1, n, none, 0⟩, .nil⟩ :=
  ⟨fun vals => by rw [h vals]; rfl, ⟨hb, .inl rfl⟩, Nat.zero_le _, trivial⟩
theorem comp_attr (sc : Int) (cv : ByteArray → Int) (a : Nd) (k : Fo) (i : Nat) (h6 : a.op = 6) (hp : placeT sc a.name = some i) : CompR sc cv a k ⟨0, 0, ⟨6, i, none, 0⟩, .nil⟩ := by
  have hi : i < nS sc ∧ nS sc ≤ 25 := by
    unfold placeT at hp
    split at hp
    · exact ⟨posN_lt _ _ _ _ hp, listlen25 sc⟩
    · cases hp
  refine ⟨fun vals => ?_, ⟨?_, .inr (.inl ⟨rfl, Int.natCast_nonneg _, by dsimp only; omega⟩)⟩, Nat.zero_le _, trivial⟩
  · unfold ev1 nmT
    rw [if_neg (by omega), if_neg (by omega), if_neg (by omega), if_pos h6, hp]
    rfl
  · unfold i64B; dsimp only; omega
theorem comp_node (sc : Int) (cv : ByteArray → Int) (a : Nd) (k : Fo) (l : List FC) (g : Nat) (h7 : 7 ≤ a.op ∧ a.op ≤ 22) (hw : argB a.op (len k) = true) (hl : l.length = len k) (hz : len k ≤ 200) (hok : ∀ c ∈ l, fOk1 (nS sc) c.f (flen c.k) ∧ flen c.k ≤ 200 ∧ fOk (nS sc) c.k)
    (hv : ∀ vals, (l.map fun c => fv1 vals c.f (fvF vals c.k)) = evF (nmT sc vals cv) k) (p : Option Addr) (cap : Nat) : CompR sc cv a k ⟨g, 0, ⟨a.op, 0, p, cap⟩, frowF l⟩ := by
  refine ⟨fun vals => ?_, ⟨?_, ?_⟩, by rw [frowF_len, hl]; exact hz, frowF_ok _ l hok⟩
  · show fv1 vals ⟨a.op, 0, p, cap⟩ (fvF vals (frowF l)) = _
    rw [frowF_val, hv vals]
    unfold fv1 ev1
    dsimp only
    rw [if_neg (by omega), if_neg (by omega), if_neg (by omega), if_neg (by omega), if_neg (by omega), if_neg (by omega)]
  · unfold i64B; dsimp only; omega
  · rw [frowF_len, hl]
    dsimp only
    unfold argB at hw
    (repeat' split at hw) <;> (simp only [decide_eq_true_eq] at hw; omega)

end Go.Proofs.Ytfoedbfkddoibaa
