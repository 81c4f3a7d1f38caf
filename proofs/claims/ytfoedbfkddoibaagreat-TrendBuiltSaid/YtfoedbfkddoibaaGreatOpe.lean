/-
  Arguments that are expressions and constants, opened to what lies in memory.
-/
import Derived.Test.YtfoedbfkddoibaaGreatGg
import Derived.ChangeArms
import Derived.Deep.Slices
import Derived.SizedLaws
import Derived.OpenShut
import Derived.WalkArith
namespace Go.Proofs.YtfoedbfkddoibaaGreat
set_option linter.unusedVariables false
set_option linter.unusedSimpArgs false
set_option maxRecDepth 100000
open Go.ChangeShapes Go.WideShapes Go.RowKit
open Go.Deep (BT)

/-- The cells of one expression. -/
def ExS (w : World) (cs : List Value) : Prop := ∃ (a : Nd) (k : Fo) (b o : Nat), cs = [.int .i64 a.op, .int .i64 a.num, .string a.name, .slice a.ptr (len k) a.cap] ∧ ExAt w b o a k ∧ ExOk a k ∧ len k ≤ a.cap
theorem i64_of_wf {x : Int} (h : (Lit.int .i64 x).wf = true) : -9223372036854775808 ≤ x ∧ x ≤ 9223372036854775807 := by
  exact bounds_i64 h
theorem addr_add0 (a : Addr) (n : Nat) (h : a.spot = none) : a.add n = ⟨a.block, a.off + n, none⟩ := by
  obtain ⟨b, o, s⟩ := a
  dsimp only at h
  subst h
  unfold Addr.add
  by_cases q : n = 0
  · subst q; rfl
  · rw [if_neg q]
theorem spot_none {w : World} {a : Addr} {v : Value} (h : w.cell? a = some v) : a.spot = none := by
  unfold World.cell? at h
  split at h
  · cases q : a.spot with
    | none => rfl
    | some z => rw [q] at h; simp at h
  · cases h
theorem row_of {w : World} (n : Nat) (B O : Nat) (h : ∀ i, i < n → ∃ c0 c1 c2 c3, w.cell? ⟨B, O + i * 4, none⟩ = some c0 ∧ w.cell? ⟨B, O + i * 4 + 1, none⟩ = some c1 ∧ w.cell? ⟨B, O + i * 4 + 2, none⟩ = some c2 ∧ w.cell? ⟨B, O + i * 4 + 3, none⟩ = some c3 ∧ ExS w [c0, c1, c2, c3]) :
    ∃ T : Fo, len T = n ∧ FoAt w T B O ∧ FoOk T := by
  induction n generalizing O with
  | zero => exact ⟨.nil, rfl, trivial, trivial⟩
  | succ n ih =>
    obtain ⟨T, h1, h2, h3⟩ := ih (O + 4) (fun i hi => by
      have := h (i + 1) (by omega)
      rw [show O + (i + 1) * 4 = O + 4 + i * 4 by omega] at this
      exact this)
    obtain ⟨c0, c1, c2, c3, k0, k1, k2, k3, a, k, b, o, he, hx, hok, -⟩ := h 0 (by omega)
    simp only [Nat.zero_mul, Nat.add_zero] at k0 k1 k2 k3
    simp only [List.cons.injEq, and_true] at he
    obtain ⟨rfl, rfl, rfl, rfl⟩ := he
    exact ⟨.node b o a k T, by simp [len, h1], ⟨⟨k0, k1, k2, k3⟩, hx.1, hx.2, h2⟩, hok.1, hok.2, h3⟩

section
variable {H : Type} {enc : TypeId × Value → H} {w : World} {base : Nat} {spare : Nat → Bool} {held : Bool}
theorem Tryz.cellsE : Tryz.prog.cellsOf 25 = 4 := by kernel_rfl
theorem Tryz.cellsI : Tryz.prog.cellsOf 3 = 1 := by kernel_rfl
theorem Tryz.cellsS : Tryz.prog.cellsOf 9 = 1 := by kernel_rfl
theorem Tryz.cellsL : Tryz.prog.cellsOf 23 = 1 := by kernel_rfl
theorem Tryz.cellsC : Tryz.prog.cellsOf 52 = 5 := by kernel_rfl
def SlS (w : World) (cs : List Value) : Prop := ∃ (k : Fo) (p : Option Addr) (cap b o : Nat), cs = [.slice p (len k) cap] ∧ (k ≠ .nil → p = some ⟨b, o, none⟩) ∧ FoAt w k b o ∧ FoOk k ∧ len k ≤ maxLen ∧ len k ≤ cap
theorem open_sl (fuel : Nat) (ih : ∀ m, m < fuel → ∀ cs x, DataW.trod enc Tryz.prog w base spare held m 25 cs = some x → ExS w cs) (cs : List Value) (x : DataW H × List MemPlace)
    (h : DataW.trod enc Tryz.prog w base spare held fuel 23 cs = some x) : SlS w cs := by
  rcases DataW.trod_slice Tryz.underlying23 h with ⟨rfl, -⟩ | ⟨a, n, cap, elems, rest, m, rfl, rfl, -, hb, hl, hm, hlen, hel, -, -⟩
  · exact ⟨.nil, none, 0, 0, 0, rfl, fun q => absurd rfl q, trivial, trivial, Nat.zero_le _, Nat.zero_le _⟩
  · have key : ∀ i, i < n → ∃ c0 c1 c2 c3, w.cell? (a.add (i * 4)) = some c0 ∧ w.cell? ((a.add (i * 4)).add 1) = some c1 ∧ w.cell? ((a.add (i * 4)).add 2) = some c2 ∧ w.cell? ((a.add (i * 4)).add 3) = some c3 ∧ ExS w [c0, c1, c2, c3] := by
      intro i hi
      have q := hel i hi
      rw [List.getElem?_eq_getElem (by omega), Tryz.cellsE] at q
      obtain ⟨cs', hc, ht⟩ := Option.bind_eq_some_iff.1 q
      obtain ⟨-, h4, hcell⟩ := World.cells?_some hc
      match cs', h4 with
      | [c0, c1, c2, c3], _ =>
        refine ⟨c0, c1, c2, c3, ?_, hcell 1 (by omega), hcell 2 (by omega), hcell 3 (by omega), ih m (Nat.lt_succ_self m) _ _ ht⟩
        have := hcell 0 (by omega)
        simpa [Addr.add] using this
    by_cases h0 : n = 0
    · subst h0
      exact ⟨.nil, some a, cap, 0, 0, rfl, fun q => absurd rfl q, trivial, trivial, Nat.zero_le _, Nat.zero_le _⟩
    · have hs : a.spot = none := by
        obtain ⟨c0, c1, c2, c3, q, -⟩ := key 0 (by omega)
        exact spot_none (by simpa [Addr.add] using q)
      obtain ⟨T, t1, t2, t3⟩ := row_of (w := w) n a.block a.off (fun i hi => by
        obtain ⟨c0, c1, c2, c3, q0, q1, q2, q3, q⟩ := key i hi
        rw [Go.Deep.add_add, addr_add0 _ _ hs, ← Nat.add_assoc] at q1 q2 q3
        rw [addr_add0 _ _ hs] at q0
        exact ⟨c0, c1, c2, c3, q0, q1, q2, q3, q⟩)
      refine ⟨T, some a, cap, a.block, a.off, by rw [t1], fun _ => ?_, t2, t3, by omega, by omega⟩
      obtain ⟨b, o, s⟩ := a
      dsimp only at hs
      subst hs
      rfl
theorem open_ex (fuel : Nat) : ∀ (cs : List Value) (x : DataW H × List MemPlace), DataW.trod enc Tryz.prog w base spare held fuel 25 cs = some x → ExS w cs := by
  induction fuel using Nat.strongRecOn with
  | _ fuel ih =>
    intro cs x h
    obtain ⟨xs, n, rfl, -, h4, hx, hf⟩ := DataW.trod_struct Tryz.underlying25 h
    rw [Tryz.cellsE] at h4
    match cs, h4, xs, hx with
    | [c0, c1, c2, c3], _, [y0, y1, y2, y3], _ =>
      have g0 : DataW.trod enc Tryz.prog w base spare held n 3 (List.take (Tryz.prog.cellsOf 3) (List.drop 0 [c0, c1, c2, c3])) = some y0 := hf 0 _ rfl
      have g1 : DataW.trod enc Tryz.prog w base spare held n 3 (List.take (Tryz.prog.cellsOf 3) (List.drop 1 [c0, c1, c2, c3])) = some y1 := hf 1 _ rfl
      have g2 : DataW.trod enc Tryz.prog w base spare held n 9 (List.take (Tryz.prog.cellsOf 9) (List.drop 2 [c0, c1, c2, c3])) = some y2 := hf 2 _ rfl
      have g3 : DataW.trod enc Tryz.prog w base spare held n 23 (List.take (Tryz.prog.cellsOf 23) (List.drop 3 [c0, c1, c2, c3])) = some y3 := hf 3 _ rfl
      rw [Tryz.cellsI] at g0 g1
      rw [Tryz.cellsS] at g2
      rw [Tryz.cellsL] at g3
      simp only [List.drop, List.take] at g0 g1 g2 g3
      obtain ⟨op, e0, -, w0⟩ := DataW.trod_int Tryz.underlying3 g0
      obtain ⟨num, e1, -, w1⟩ := DataW.trod_int Tryz.underlying3 g1
      obtain ⟨name, e2, -, w2⟩ := DataW.trod_string Tryz.underlying9 g2
      obtain ⟨k, p, cap, b, o, e3, hp, hat, hok, hl, hlc⟩ := open_sl n (fun m hm => ih m (by omega)) _ _ g3
      simp only [List.cons.injEq, and_true] at e0 e1 e2 e3
      subst e0 e1 e2 e3
      exact ⟨⟨op, num, name, p, cap⟩, k, b, o, rfl, ⟨hp, hat⟩, ⟨⟨i64_of_wf w0, i64_of_wf w1, w2, hl⟩, hok⟩, hlc⟩

/-- An argument that is an expression. -/
theorem open_expr {v : Value} {d : DataW H} {p : List MemPlace} {r : Reach} {b0 : Nat} (hv : Value.okWide Tryz.prog w r b0 25 v) (h : DataW.Trod enc Tryz.prog w base spare held 25 v d p) :
    ∃ (op num : Int) (name : ByteArray) (ptr : Option Addr) (cap : Nat) (k : Fo) (b o : Nat), v = .agg #[.int .i64 op, .int .i64 num, .string name, .slice ptr (len k) cap] ∧ ExAt w b o ⟨op, num, name, ptr, cap⟩ k ∧ ExOk ⟨op, num, name, ptr, cap⟩ k := by
  obtain ⟨cs, rfl, hsz⟩ := okWide_struct Tryz.underlying25 hv
  obtain ⟨fuel, hf⟩ := h
  obtain ⟨⟨op, num, name, ptr, cap⟩, k, b, o, he, hx, hok, -⟩ := open_ex fuel _ _ hf
  refine ⟨op, num, name, ptr, cap, k, b, o, ?_, hx, hok⟩
  obtain ⟨l⟩ := cs
  have he' : l = [.int .i64 op, .int .i64 num, .string name, .slice ptr (len k) cap] := he
  rw [he']

theorem crow_of {w : World} (n : Nat) (B O : Nat) (h : ∀ i, i < n → ∃ (s : ByteArray) (c1 c2 c3 c4 : Value), w.cell? ⟨B, O + i * 5, none⟩ = some (.string s) ∧ w.cell? ⟨B, O + i * 5 + 1, none⟩ = some c1 ∧ w.cell? ⟨B, O + i * 5 + 2, none⟩ = some c2 ∧ w.cell? ⟨B, O + i * 5 + 3, none⟩ = some c3 ∧ w.cell? ⟨B, O + i * 5 + 4, none⟩ = some c4 ∧ s.size ≤ 9223372036854775807 ∧ ExS w [c1, c2, c3, c4]) :
    ∃ L : List Cn, L.length = n ∧ CsAt w L B O ∧ CsOk L := by
  induction n generalizing O with
  | zero => exact ⟨[], rfl, trivial, fun c hc => by cases hc⟩
  | succ n ih =>
    obtain ⟨T, h1, h2, h3⟩ := ih (O + 5) (fun i hi => by
      have := h (i + 1) (by omega)
      rw [show O + (i + 1) * 5 = O + 5 + i * 5 by omega] at this
      exact this)
    obtain ⟨s, c1, c2, c3, c4, k0, k1, k2, k3, k4, hs, a, k, b, o, he, hx, hok, -⟩ := h 0 (by omega)
    simp only [Nat.zero_mul, Nat.add_zero] at k0 k1 k2 k3 k4
    simp only [List.cons.injEq, and_true] at he
    obtain ⟨rfl, rfl, rfl, rfl⟩ := he
    refine ⟨⟨s, b, o, a, k⟩ :: T, by simp [h1], ⟨⟨k0, k1, k2, k3, k4⟩, hx, h2⟩, fun c hc => ?_⟩
    rcases List.mem_cons.1 hc with rfl | hc
    · exact ⟨hs, hok⟩
    · exact h3 c hc
/-- Constants. -/
theorem open_cs (fuel : Nat) (cs : List Value) (x : DataW H × List MemPlace) (h : DataW.trod enc Tryz.prog w base spare held fuel 22 cs = some x) (hsz : ∀ el sp, x.1 = .slice el sp → el.length ≤ 2932031007402) :
    ∃ (L : List Cn) (p : Option Addr) (cap : Nat), cs = [.slice p L.length cap] ∧ CsV w L p ∧ L.length ≤ cap := by
  rcases DataW.trod_slice Tryz.underlying22 h with ⟨rfl, -⟩ | ⟨a, n, cap, elems, rest, m, rfl, rfl, hx, hb, hl, hm, hlen, hel, -, -⟩
  · exact ⟨[], none, 0, rfl, ⟨⟨0, 0, fun q => absurd rfl q, trivial⟩, (fun c hc => by cases hc), Nat.zero_le _⟩, Nat.zero_le _⟩
  · have hn : n ≤ 2932031007402 := by
      have := hsz _ _ (by rw [hx])
      simpa [hlen] using this
    have key : ∀ i, i < n → ∃ (s : ByteArray) (c1 c2 c3 c4 : Value), w.cell? (a.add (i * 5)) = some (.string s) ∧ w.cell? ((a.add (i * 5)).add 1) = some c1 ∧ w.cell? ((a.add (i * 5)).add 2) = some c2 ∧ w.cell? ((a.add (i * 5)).add 3) = some c3 ∧ w.cell? ((a.add (i * 5)).add 4) = some c4 ∧ s.size ≤ 9223372036854775807 ∧ ExS w [c1, c2, c3, c4] := by
      intro i hi
      have q := hel i hi
      rw [List.getElem?_eq_getElem (by omega), Tryz.cellsC] at q
      obtain ⟨cs', hc, ht⟩ := Option.bind_eq_some_iff.1 q
      obtain ⟨-, h4, hcell⟩ := World.cells?_some hc
      obtain ⟨xs, n', rfl, -, -, hxl, hf⟩ := DataW.trod_struct Tryz.underlying52 ht
      match cs', h4, xs, hxl with
      | [c0, c1, c2, c3, c4], _, [y0, y1], _ =>
        have g0 : DataW.trod enc Tryz.prog w base spare held n' 9 (List.take (Tryz.prog.cellsOf 9) (List.drop 0 [c0, c1, c2, c3, c4])) = some y0 := hf 0 _ rfl
        have g1 : DataW.trod enc Tryz.prog w base spare held n' 25 (List.take (Tryz.prog.cellsOf 25) (List.drop 1 [c0, c1, c2, c3, c4])) = some y1 := hf 1 _ rfl
        rw [Tryz.cellsS] at g0
        rw [Tryz.cellsE] at g1
        simp only [List.drop, List.take] at g0 g1
        obtain ⟨s, e0, -, w0⟩ := DataW.trod_string Tryz.underlying9 g0
        simp only [List.cons.injEq, and_true] at e0
        subst e0
        refine ⟨s, c1, c2, c3, c4, ?_, hcell 1 (by omega), hcell 2 (by omega), hcell 3 (by omega), hcell 4 (by omega), w0, open_ex _ _ _ g1⟩
        have := hcell 0 (by omega)
        simpa [Addr.add] using this
    by_cases h0 : n = 0
    · subst h0
      exact ⟨[], some a, cap, rfl, ⟨⟨0, 0, fun q => absurd rfl q, trivial⟩, (fun c hc => by cases hc), Nat.zero_le _⟩, Nat.zero_le _⟩
    · have hs : a.spot = none := by
        obtain ⟨s, c1, c2, c3, c4, q, -⟩ := key 0 (by omega)
        exact spot_none (by simpa [Addr.add] using q)
      obtain ⟨T, t1, t2, t3⟩ := crow_of (w := w) n a.block a.off (fun i hi => by
        obtain ⟨s, c1, c2, c3, c4, q0, q1, q2, q3, q4, q⟩ := key i hi
        rw [Go.Deep.add_add, addr_add0 _ _ hs, ← Nat.add_assoc] at q1 q2 q3 q4
        rw [addr_add0 _ _ hs] at q0
        exact ⟨s, c1, c2, c3, c4, q0, q1, q2, q3, q4, q⟩)
      refine ⟨T, some a, cap, by rw [t1], ⟨⟨a.block, a.off, fun _ => ?_, t2⟩, t3, by omega⟩, by omega⟩
      obtain ⟨b, o, s⟩ := a
      dsimp only at hs
      subst hs
      rfl
/-- An argument that is a list of constants. -/
theorem open_consts {v : Value} {d : DataW H} {p : List MemPlace} {r : Reach} {b0 : Nat} (hv : Value.okWide Tryz.prog w r b0 22 v) (h : DataW.Trod enc Tryz.prog w base spare held 22 v d p) (hsz : ∀ el sp, d = .slice el sp → el.length ≤ 2932031007402) :
    ∃ (L : List Cn) (q : Option Addr) (cap : Nat), v = .slice q L.length cap ∧ CsV w L q ∧ L.length ≤ cap := by
  obtain ⟨a, n, cap, rfl⟩ := okWide_slice Tryz.underlying22 hv
  obtain ⟨fuel, hf⟩ := h
  obtain ⟨L, q, cap', he, h1, h2⟩ := open_cs fuel _ _ hf hsz
  have he' : [Value.slice a n cap] = [Value.slice q L.length cap'] := he
  simp only [List.cons.injEq, and_true] at he'
  exact ⟨L, q, cap', he', h1, h2⟩
end

end Go.Proofs.YtfoedbfkddoibaaGreat
