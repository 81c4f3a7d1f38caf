/-
  Rows of expressions: lists of trees as forests; what lies behind a block; a row laid into a new block.
-/
import Derived.Test.YtfoedbfkddoibaaGa
namespace Go.Proofs.Ytfoedbfkddoibaa
section
set_option linter.unusedVariables false
set_option linter.unusedSimpArgs false
open Go.ChangeShapes Go.WideShapes Go.ChangeAt Go.RowKit
open Go.Deep (BT)

/-- One tree of a row. -/
structure Ch where
  b : Nat
  o : Nat
  a : Nd
  k : Fo
def rowF : List Ch → Fo
  | [] => .nil
  | c :: r => .node c.b c.o c.a c.k (rowF r)
def chC (c : Ch) : List Value := [.int .i64 c.a.op, .int .i64 c.a.num, .string c.a.name, .slice c.a.ptr (len c.k) c.a.cap]
def rowC (l : List Ch) : List Value := l.flatMap chC
theorem rowF_len (l : List Ch) : len (rowF l) = l.length := by
  induction l with
  | nil => rfl
  | cons c l ih => simp [rowF, len, ih]
/-- All of a row's blocks lie at B0 or behind it. -/
def FoGe (B0 : Nat) : Fo → Nat → Prop
  | .nil, _ => True
  | .node b _ _ k r, B => B0 ≤ B ∧ FoGe B0 k b ∧ FoGe B0 r B
theorem FoGe.mono {B0 B1 : Nat} {T : Fo} {B : Nat} (h : FoGe B0 T B) (hb : B1 ≤ B0) : FoGe B1 T B := by
  induction T generalizing B with
  | nil => trivial
  | node b o a k r ihk ihr => exact ⟨Nat.le_trans hb h.1, ihk h.2.1, ihr h.2.2⟩
theorem FoAt.grownGe {w w' : World} {s B0 : Nat} {T : Fo} {B O : Nat} (h : FoAt w T B O) (hn : FoGe B0 T B) (hs : s < B0) (hg : w.grownBy w' (some s)) : FoAt w' T B O := by
  induction T generalizing B O with
  | nil => trivial
  | node b o a k r ihk ihr =>
    obtain ⟨⟨h0, h1, h2, h3⟩, hp, hk, hr⟩ := h
    obtain ⟨n0, nk, nr⟩ := hn
    have key : ∀ (i : Nat) (u : Value), w.cell? ⟨B, i, none⟩ = some u → w'.cell? ⟨B, i, none⟩ = some u := fun i u q => by
      rw [World.cell?_of_block (hg.block B (block_lt_of_cell q) (fun e => by have := Option.some.inj e; omega))]; exact q
    exact ⟨⟨key _ _ h0, key _ _ h1, key _ _ h2, key _ _ h3⟩, hp, ihk hk nk, ihr hr nr⟩
def ChAt (w : World) (B0 : Nat) (c : Ch) : Prop := ExAt w c.b c.o c.a c.k ∧ FoGe B0 c.k c.b
theorem ChAt.grown {w w' : World} {s B0 : Nat} {c : Ch} (h : ChAt w B0 c) (hs : s < B0) (hg : w.grownBy w' (some s)) : ChAt w' B0 c := ⟨⟨h.1.1, h.1.2.grownGe h.2 hs hg⟩, h.2⟩
theorem ChAt.next {w w' : World} {B0 : Nat} {c : Ch} (h : ChAt w B0 c) (hb : Below w.heap.size w w') : ChAt w' B0 c := ⟨h.1.next hb, h.2⟩
theorem ChAt.mono {w : World} {B0 B1 : Nat} {c : Ch} (h : ChAt w B0 c) (hb : B1 ≤ B0) : ChAt w B1 c := ⟨h.1, h.2.mono hb⟩
theorem rowF_at {w : World} {B0 g O : Nat} (l : List Ch) (h : ∀ c ∈ l, ChAt w B0 c) (hc : ∀ j u, (rowC l)[j]? = some u → w.cell? ⟨g, O + j, none⟩ = some u) (hg : B0 ≤ g) : FoAt w (rowF l) g O ∧ FoGe B0 (rowF l) g := by
  induction l generalizing O with
  | nil => exact ⟨trivial, trivial⟩
  | cons c l ih =>
    obtain ⟨h1, h2⟩ := h c (by simp)
    obtain ⟨r1, r2⟩ := ih (O := O + 4) (fun d hd => h d (by simp [hd])) (fun j u hu => by
      have := hc (4 + j) u (by unfold rowC; rw [List.flatMap_cons, List.getElem?_append_right (by simp [chC])]; simpa [chC, rowC] using hu)
      rw [← Nat.add_assoc] at this
      exact this)
    exact ⟨⟨⟨hc 0 _ rfl, hc 1 _ rfl, hc 2 _ rfl, hc 3 _ rfl⟩, h1.1, h1.2, r1⟩, hg, h2, r2⟩
/-- A row laid into a new block. -/
theorem row_new {w : World} {B0 : Nat} (l : List Ch) (h : ∀ c ∈ l, ChAt w B0 c) (hs : B0 ≤ w.heap.size) (e : TypeId) (cells : Array Value) (hcells : cells = (rowC l).toArray) : FoAt (w.alloc (.cells cells e)) (rowF l) w.heap.size 0 ∧ FoGe B0 (rowF l) w.heap.size := by
  subst hcells
  refine rowF_at l (fun c hc => (h c hc).next ((Below.refl _ _).alloc (Nat.le_refl _) _)) (fun j u hu => ?_) hs
  rw [World.cell?_alloc_new, Nat.zero_add]
  show (rowC l).toArray[j]? = some u
  rw [List.getElem?_toArray]; exact hu

theorem results_cell1 {fn : Func} {p : Tmp} {ty : TypeId} (h : fn.results = #[.cell p ty]) (tmps : Array Value) (P : Program) (w : World) :
    (results fn tmps).run P w = ((asAddr (tmps.getD p undef)).run P w).andThen fun a w₁ => (loadVar ty a).run P w₁ := by
  simp only [results, h]
  simp [Sem.run_bind, Result.andThen]
end

end Go.Proofs.Ytfoedbfkddoibaa
