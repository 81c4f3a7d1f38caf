/-
  What stays where a checker works: everything but the map of the known types.
-/
import Derived.Test.YtinbkhchhlkjgaaChn
import Derived.Test.YtinbkhchhlkjgaaExpG
import Derived.Test.YtinbkhchhlkjgaaTyR
import Derived.Test.YtinbkhchhlkjgaaAtt
namespace Go.Proofs.Ytinbkhchhlkjgaa
set_option linter.unusedVariables false
set_option linter.unusedSimpArgs false
open Go.ChangeShapes Go.WideShapes Go.ChangeAt Go.RowKit
open Go.Deep (BT)

/-- Every cell that was there is as it was. -/
def Keeps (w w' : World) : Prop := ∀ p v, w.cell? p = some v → w'.cell? p = some v
theorem Keeps.refl (w : World) : Keeps w w := fun _ _ h => h
theorem Keeps.trans {a b c : World} (h : Keeps a b) (k : Keeps b c) : Keeps a c := fun p v q => k p v (h p v q)
theorem Keeps.of_below {w w' : World} (h : Below w.heap.size w w') : Keeps w w' := fun p v q => by rw [h.cell (block_lt_of_cell q)]; exact q
theorem no_cell {P : Program} {w : World} {k : TypeId} {R : Value → Option (DataW Unit × List MemPlace)} {b n : Nat} {D : DataW Unit} (h : w.ownsMap P k R b n D) (p : Addr) (hp : p.block = b) : w.cell? p = none := by
  obtain ⟨es, clock, hb, -⟩ := h
  subst hp
  simp [World.cell?, hb]
theorem Keeps.of_grown {P : Program} {w w' : World} {cs : List Cn} {mb : Nat} (hk : KnMap P w cs mb) (h : w.grownBy w' (some mb)) : Keeps w w' := fun p v q => by
  obtain ⟨D, K, ho, -⟩ := hk
  have hne : some p.block ≠ some mb := fun e => by rw [no_cell ho p (Option.some.inj e)] at q; cases q
  rw [World.cell?_of_block (h.block p.block (block_lt_of_cell q) hne)]; exact q
theorem FoAt.keep {w w' : World} {T : Fo} {B O : Nat} (h : FoAt w T B O) (hk : Keeps w w') : FoAt w' T B O := by
  induction T generalizing B O with
  | nil => trivial
  | node b o a k r ihk ihr =>
    obtain ⟨⟨h0, h1, h2, h3⟩, hp, hkk, hr⟩ := h
    exact ⟨⟨hk _ _ h0, hk _ _ h1, hk _ _ h2, hk _ _ h3⟩, hp, ihk hkk, ihr hr⟩
theorem ExAt.keep {w w' : World} {b o : Nat} {a : Nd} {k : Fo} (h : ExAt w b o a k) (hk : Keeps w w') : ExAt w' b o a k := ⟨h.1, h.2.keep hk⟩

theorem CsAt.keep {w w' : World} {cs : List Cn} {B O : Nat} (h : CsAt w cs B O) (hk : Keeps w w') : CsAt w' cs B O := by
  induction cs generalizing O with
  | nil => trivial
  | cons c cs ih =>
    obtain ⟨⟨h0, h1, h2, h3, h4⟩, hx, hr⟩ := h
    exact ⟨⟨hk _ _ h0, hk _ _ h1, hk _ _ h2, hk _ _ h3, hk _ _ h4⟩, hx.keep hk, ih hr⟩
theorem CsV.keep {w w' : World} {cs : List Cn} {p : Option Addr} (h : CsV w cs p) (hk : Keeps w w') : CsV w' cs p := by
  obtain ⟨⟨B, O, h1, h2⟩, h3, h4⟩ := h
  exact ⟨⟨B, O, h1, h2.keep hk⟩, h3, h4⟩
theorem grw_below {a b c : World} {row : Option Nat} (h : a.grownBy b row) (k : Below a.heap.size b c) : a.grownBy c row := ⟨k.os.trans h.os, k.tape.trans h.tape, k.output.trans h.output, Nat.le_trans h.size k.size, fun i hi hr => (k.block i hi).trans (h.block i hi hr)⟩
theorem grw_of_below {a b : World} (row : Option Nat) (k : Below a.heap.size a b) : a.grownBy b row := ⟨k.os, k.tape, k.output, k.size, fun i hi hr => k.block i hi⟩
theorem grw_new {a b c : World} {row : Option Nat} {g : Nat} (h : a.grownBy b row) (k : b.grownBy c (some g)) (hg : a.heap.size ≤ g) : a.grownBy c row :=
  ⟨k.os.trans h.os, k.tape.trans h.tape, k.output.trans h.output, Nat.le_trans h.size k.size, fun i hi hr => (k.block i (Nat.lt_of_lt_of_le hi h.size) (fun e => by have := Option.some.inj e; omega)).trans (h.block i hi hr)⟩
theorem ChkJ.grown {P : Program} {w w' : World} {kb ib mb : Nat} {cs : List Cn} {j : Nat} {p : Option Addr} {cap : Nat} {row : Option Nat} (h : ChkJ P w kb ib mb cs j p cap) (hg : w.grownBy w' row) (h1 : some kb ≠ row) (h2 : some ib ≠ row) (h3 : some mb ≠ row) : ChkJ P w' kb ib mb cs j p cap where
  c0 := by rw [World.cell?_of_block (hg.block kb h.lt h1)]; exact h.c0
  c1 := by rw [World.cell?_of_block (hg.block kb h.lt h1)]; exact h.c1
  c2 := by rw [World.cell?_of_block (hg.block kb h.lt h1)]; exact h.c2
  ix := h.ix.kept hg h2
  kn := h.kn.kept hg h3
  n1 := h.n1
  n2 := h.n2
  n3 := h.n3
  lt := Nat.lt_of_lt_of_le h.lt hg.size
theorem IxMap.lt {P : Program} {w : World} {cs : List Cn} {j b : Nat} (h : IxMap P w cs j b) : b < w.heap.size := by
  obtain ⟨D, ⟨es, clock, hb, -⟩, -⟩ := h
  exact (Array.getElem?_eq_some_iff.1 hb).1
theorem KnMap.lt {P : Program} {w : World} {cs : List Cn} {b : Nat} (h : KnMap P w cs b) : b < w.heap.size := by
  obtain ⟨D, K, ⟨es, clock, hb, -⟩, -⟩ := h
  exact (Array.getElem?_eq_some_iff.1 hb).1
/-- Where there is an error there is no type. -/
theorem tyT_err (look : Look) (sc : Int) (a : Nd) (k : Fo) (hl : ∀ s, (look s).2 ≠ 0 → (look s).1 = 0) (h : (tyT look sc a k).2 ≠ 0) : (tyT look sc a k).1 = 0 := by
  unfold tyT nameT at h ⊢
  (repeat' split) <;> simp_all
theorem rowT_err (cs : List Cn) (i : Nat) (h : (rowT cs i).2 ≠ 0) : (rowT cs i).1 = 0 := by
  induction i using Nat.strongRecOn with
  | _ i ih =>
    cases hc : cs[i]? with
    | none =>
      unfold rowT
      rw [tabN, hc, List.getD_eq_getElem?_getD, List.getElem?_append_right (by rw [tabN_len]; omega), tabN_len]
      simp
    | some c =>
      rw [rowT_eq cs i c hc] at h ⊢
      unfold oneT at h ⊢
      by_cases q : valE c.a c.k = 0
      · rw [if_pos q] at h ⊢
        refine tyT_err _ _ _ _ ?_ h
        intro s
        rw [lookT_tab]
        cases firstIx s cs with
        | none => intro _; rfl
        | some j =>
          by_cases hj : j < i
          · simp only [if_pos hj]; exact ih j hj
          · simp only [if_neg hj]; intro _; trivial
      · rw [if_neg q]

end Go.Proofs.Ytinbkhchhlkjgaa
