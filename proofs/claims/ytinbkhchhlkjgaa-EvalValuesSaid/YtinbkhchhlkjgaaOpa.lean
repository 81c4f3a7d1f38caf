/-
  An argument that is a list of attributes, opened to what lies in memory.
-/
import Derived.Test.YtinbkhchhlkjgaaOpe
import Derived.Test.YtinbkhchhlkjgaaEkn
namespace Go.Proofs.Ytinbkhchhlkjgaa
set_option linter.unusedVariables false
set_option linter.unusedSimpArgs false
set_option maxRecDepth 100000
open Go.ChangeShapes Go.WideShapes Go.RowKit
open Go.Deep (BT)

theorem avrow_of {w : World} (n : Nat) (B O : Nat) (h : ∀ i, i < n → ∃ (s : ByteArray) (x : Int), w.cell? ⟨B, O + i * 2, none⟩ = some (.string s) ∧ w.cell? ⟨B, O + i * 2 + 1, none⟩ = some (.int .i64 x) ∧ s.size ≤ 9223372036854775807 ∧ i64B x) :
    ∃ L : List Av, L.length = n ∧ AvAt w L B O ∧ ∀ a ∈ L, AvOk a := by
  induction n generalizing O with
  | zero => exact ⟨[], rfl, trivial, fun c hc => by cases hc⟩
  | succ n ih =>
    obtain ⟨T, h1, h2, h3⟩ := ih (O + 2) (fun i hi => by
      have := h (i + 1) (by omega)
      rw [show O + (i + 1) * 2 = O + 2 + i * 2 by omega] at this
      exact this)
    obtain ⟨s, x, k0, k1, hs, hx⟩ := h 0 (by omega)
    simp only [Nat.zero_mul, Nat.add_zero] at k0 k1
    refine ⟨⟨s, x⟩ :: T, by simp [h1], ⟨⟨k0, k1⟩, h2⟩, fun c hc => ?_⟩
    rcases List.mem_cons.1 hc with rfl | hc
    · exact ⟨hs, hx⟩
    · exact h3 c hc
section
variable {H : Type} {enc : TypeId × Value → H} {w : World} {base : Nat} {spare : Nat → Bool} {held : Bool}
theorem Try.cellsA : Try.prog.cellsOf 63 = 2 := by kernel_rfl
theorem open_av (fuel : Nat) (cs : List Value) (x : DataW H × List MemPlace) (h : DataW.trod enc Try.prog w base spare held fuel 23 cs = some x) :
    ∃ (L : List Av) (p : Option Addr) (cap : Nat), cs = [.slice p L.length cap] ∧ (∃ B O, (L ≠ [] → p = some ⟨B, O, none⟩) ∧ AvAt w L B O) ∧ (∀ a ∈ L, AvOk a) ∧ L.length ≤ 9223372036854775807 := by
  rcases DataW.trod_slice Try.underlying23 h with ⟨rfl, -⟩ | ⟨a, n, cap, elems, rest, m, rfl, rfl, hx, hb, hl, hm, hlen, hel, -, -⟩
  · exact ⟨[], none, 0, rfl, ⟨0, 0, fun q => absurd rfl q, trivial⟩, (fun c hc => by cases hc), Nat.zero_le _⟩
  · have key : ∀ i, i < n → ∃ (s : ByteArray) (x : Int), w.cell? (a.add (i * 2)) = some (.string s) ∧ w.cell? ((a.add (i * 2)).add 1) = some (.int .i64 x) ∧ s.size ≤ 9223372036854775807 ∧ i64B x := by
      intro i hi
      have q := hel i hi
      rw [List.getElem?_eq_getElem (by omega), Try.cellsA] at q
      obtain ⟨cs', hc, ht⟩ := Option.bind_eq_some_iff.1 q
      obtain ⟨-, h4, hcell⟩ := World.cells?_some hc
      obtain ⟨xs, n', rfl, -, -, hxl, hf⟩ := DataW.trod_struct Try.underlying63 ht
      match cs', h4, xs, hxl with
      | [c0, c1], _, [y0, y1], _ =>
        have g0 : DataW.trod enc Try.prog w base spare held n' 9 (List.take (Try.prog.cellsOf 9) (List.drop 0 [c0, c1])) = some y0 := hf 0 _ rfl
        have g1 : DataW.trod enc Try.prog w base spare held n' 3 (List.take (Try.prog.cellsOf 3) (List.drop 1 [c0, c1])) = some y1 := hf 1 _ rfl
        rw [Try.cellsS] at g0
        rw [Try.cellsI] at g1
        simp only [List.drop, List.take] at g0 g1
        obtain ⟨s, e0, -, w0⟩ := DataW.trod_string Try.underlying9 g0
        obtain ⟨x, e1, -, w1⟩ := DataW.trod_int Try.underlying3 g1
        simp only [List.cons.injEq, and_true] at e0 e1
        subst e0 e1
        refine ⟨s, x, ?_, hcell 1 (by omega), w0, i64_of_wf w1⟩
        have := hcell 0 (by omega)
        simpa [Addr.add] using this
    by_cases h0 : n = 0
    · subst h0
      exact ⟨[], some a, cap, rfl, ⟨0, 0, fun q => absurd rfl q, trivial⟩, (fun c hc => by cases hc), Nat.zero_le _⟩
    · have hs : a.spot = none := by
        obtain ⟨s, x, q, -⟩ := key 0 (by omega)
        exact spot_none (by simpa [Addr.add] using q)
      obtain ⟨T, t1, t2, t3⟩ := avrow_of (w := w) n a.block a.off (fun i hi => by
        obtain ⟨s, x, q0, q1, q2, q3⟩ := key i hi
        rw [Go.Deep.add_add, addr_add0 _ _ hs, ← Nat.add_assoc] at q1
        rw [addr_add0 _ _ hs] at q0
        exact ⟨s, x, q0, q1, q2, q3⟩)
      refine ⟨T, some a, cap, by rw [t1], ⟨a.block, a.off, fun _ => ?_, t2⟩, t3, ?_⟩
      · obtain ⟨b, o, s⟩ := a
        dsimp only at hs
        subst hs
        rfl
      · have h9 : n ≤ maxLen := by omega
        unfold maxLen at h9
        omega
/-- An argument that is a list of attributes. -/
theorem open_attrs {v : Value} {d : DataW H} {p : List MemPlace} {r : Reach} {b0 : Nat} (hv : Value.okWide Try.prog w r b0 23 v) (h : DataW.Trod enc Try.prog w base spare held 23 v d p) :
    ∃ (L : List Av) (q : Option Addr) (cap : Nat), v = .slice q L.length cap ∧ (L.length ≤ 60 → AvV w L q) ∧ L.length ≤ 9223372036854775807 := by
  obtain ⟨a, n, cap, rfl⟩ := okWide_slice Try.underlying23 hv
  obtain ⟨fuel, hf⟩ := h
  obtain ⟨L, q, cap', he, h1, h2, h3⟩ := open_av fuel _ _ hf
  have he' : [Value.slice a n cap] = [Value.slice q L.length cap'] := he
  simp only [List.cons.injEq, and_true] at he'
  exact ⟨L, q, cap', he', fun hl => ⟨h1, h2, by omega⟩, h3⟩
end

end Go.Proofs.Ytinbkhchhlkjgaa
