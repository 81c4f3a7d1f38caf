/-
  The contracts of the reference's Attributes.
  The contract of the reference's AttributeType.
-/
import Derived.Test.YtfoedbfkddoibaaGa
import Derived.Test.YtfoedbfkddoibaaGb
import Derived.Test.YtfoedbfkddoibaaGd
import Derived.OwnWalk
import Derived.Laws.AppendOwn
namespace Go.Proofs.Ytfoedbfkddoibaa
section
set_option linter.unusedVariables false
set_option linter.unusedSimpArgs false
open Go.ChangeShapes Go.WideShapes Go.ChangeAt Go.RowKit

def strV (L : List (List UInt8)) : List Value := L.map fun l => Value.string ⟨l.toArray⟩
/-- A slice of strings lies in memory. -/
def StrsAt (w : World) (v : Value) (L : List (List UInt8)) : Prop := (L = [] ∧ v = .slice none 0 0) ∨ ∃ g cap : Nat, v = .slice (some ⟨g, 0, none⟩) L.length cap ∧ ∀ i u, (strV L)[i]? = some u → w.cell? ⟨g, i, none⟩ = some u
def StrsPost (L : List (List UInt8)) (w : World) (e : Ending) (w' : World) : Prop := ∃ v, e = .returned v ∧ StrsAt w' v L ∧ Below w.heap.size w w'
theorem StrsAt.next {w w' : World} {v : Value} {L : List (List UInt8)} (h : StrsAt w v L) (hb : Below w.heap.size w w') : StrsAt w' v L := by
  rcases h with h | ⟨g, cap, h1, h2⟩
  · exact .inl h
  · exact .inr ⟨g, cap, h1, fun i u hu => by rw [hb.cell (block_lt_of_cell (h2 i u hu))]; exact h2 i u hu⟩
theorem Try.infoS : (Try.prog.info? 9).map (fun i => (i.zero, i.size, i.bytes)) = some (some (.string ⟨#[]⟩), 1, 16) := by kernel_rfl

theorem own_ne {w : World} {base : Nat} {e : TypeId} {v : Value} {n : Nat} {x0 : Value} {xs : List Value} (h : w.ownsRow base e 1 v n (x0 :: xs)) {gd : Nat} {u : Value} (hc : w.cell? ⟨gd, 0, none⟩ = some u) (hne : u ≠ x0) : v.ownBlock ≠ some gd := by
  intro hg
  have := h.cells hg 0 x0 rfl
  simp only [Addr.add, if_true] at this
  rw [hc] at this
  exact hne (Option.some.inj this)
theorem strs_of_own {w : World} {base : Nat} {v : Value} {n : Nat} {L : List (List UInt8)} (h : w.ownsRow base 9 1 v n (strV L)) (hn : 0 < n) : StrsAt w v L := by
  have hl := h.1
  simp [strV] at hl
  rcases h.2 with ⟨-, h0⟩ | ⟨g, cap, cur, hv, -⟩
  · omega
  · refine .inr ⟨g, cap, by rw [hv, hl], fun i u hu => ?_⟩
    subst hv
    have hi : i < n * 1 := by
      have := (List.getElem?_eq_some_iff.1 hu).1
      simp [strV] at this; omega
    rw [h.cellAt i hi]; exact hu

theorem duty_at (j : Nat) (h : j < 11) : ∃ l, Att.dutyL[j]? = some l ∧ l.length ≤ 8 := by
  match j, h with
  | 0, _ => exact ⟨_, rfl, by decide⟩
  | 1, _ => exact ⟨_, rfl, by decide⟩
  | 2, _ => exact ⟨_, rfl, by decide⟩
  | 3, _ => exact ⟨_, rfl, by decide⟩
  | 4, _ => exact ⟨_, rfl, by decide⟩
  | 5, _ => exact ⟨_, rfl, by decide⟩
  | 6, _ => exact ⟨_, rfl, by decide⟩
  | 7, _ => exact ⟨_, rfl, by decide⟩
  | 8, _ => exact ⟨_, rfl, by decide⟩
  | 9, _ => exact ⟨_, rfl, by decide⟩
  | 10, _ => exact ⟨_, rfl, by decide⟩

theorem str_ne (a b : List UInt8) (h : a ≠ b) : Value.string ⟨a.toArray⟩ ≠ Value.string ⟨b.toArray⟩ := by
  intro q
  injection q with q
  exact h (by simpa using congrArg (fun s : ByteArray => s.data.toList) q)
/-- One name more behind a row of names: the row, the names of duties, and what was there before stay. -/
theorem row_step {w wr w1 : World} {v v' : Value} {n gd : Nat} {x y p l : List UInt8} {X : List (List UInt8)} {D : List (List UInt8)} {o : Obj} (hd : wr.cell? ⟨gd, 0, none⟩ = some (.string ⟨y.toArray⟩)) (hxy : y ≠ x)
    (hown : wr.ownsRow w.heap.size 9 1 v n (strV (x :: X))) (hD : ∀ q u, (strV D)[q]? = some u → wr.cell? ⟨gd, q, none⟩ = some u) (hB : Below w.heap.size w wr)
    (h1 : w1.ownsRow w.heap.size 9 1 v' (n + 1) (strV (x :: X) ++ [.string (⟨p.toArray⟩ ++ ⟨l.toArray⟩)])) (hg : (wr.alloc o).grownBy w1 v.ownBlock) :
    w1.ownsRow w.heap.size 9 1 v' (n + 1) (strV (x :: (X ++ [p ++ l]))) ∧ (∀ q u, (strV D)[q]? = some u → w1.cell? ⟨gd, q, none⟩ = some u) ∧ Below w.heap.size w w1 ∧ wr.heap.size < w1.heap.size := by
  have hne : v.ownBlock ≠ some gd := own_ne (x0 := .string ⟨x.toArray⟩) (xs := strV X) hown hd (str_ne _ _ hxy)
  have e : (⟨p.toArray⟩ : ByteArray) ++ ⟨l.toArray⟩ = ⟨(p ++ l).toArray⟩ := by apply ByteArray.ext; simp
  rw [e] at h1
  refine ⟨?_, ?_, ?_, ?_⟩
  · have : strV (x :: X) ++ [.string ⟨(p ++ l).toArray⟩] = strV (x :: (X ++ [p ++ l])) := by simp [strV]
    rw [this] at h1; exact h1
  · intro q u hu
    have hc := hD q u hu
    refine hg.cell (a := ⟨gd, q, none⟩) ?_ (Ne.symm hne)
    have hlt := block_lt_of_cell hc
    simp at hlt
    simp [go_sem, hc, hlt]
  · refine (hB.alloc hB.size o).grown hg (by have := hB.size; simp; omega) ?_
    intro k hk
    exact (hown.lt k hk).1
  · have := hg.size; simp at this; omega

end

section
set_option linter.unusedVariables false
set_option linter.unusedSimpArgs false
open Go.ChangeShapes Go.WideShapes Go.ChangeAt Go.RowKit

end

end Go.Proofs.Ytfoedbfkddoibaa
