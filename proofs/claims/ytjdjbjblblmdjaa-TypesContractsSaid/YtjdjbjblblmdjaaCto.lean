/-
  An argument that is a contract, opened to what lies in memory. Printed by wip/mkco.py.
-/
import Derived.Test.YtjdjbjblblmdjaaCtM
import Derived.Test.YtjdjbjblblmdjaaOpe
namespace Go.Proofs.Ytjdjbjblblmdjaa
set_option linter.unusedVariables false
set_option linter.unusedSimpArgs false
set_option maxRecDepth 100000
open Go.ChangeShapes Go.WideShapes Go.RowKit
open Go.Deep (BT)

theorem list_of {α : Type} {Q : Nat → α → Prop} (n : Nat) (h : ∀ i, i < n → ∃ y, Q i y) : ∃ L : List α, L.length = n ∧ ∀ (i : Nat) (y : α), L[i]? = some y → Q i y := by
  induction n with
  | zero => exact ⟨[], rfl, fun i y q => by simp at q⟩
  | succ n ih =>
    obtain ⟨L, h1, h2⟩ := ih (fun i hi => h i (by omega))
    obtain ⟨y, hy⟩ := h n (by omega)
    refine ⟨L ++ [y], by simp [h1], fun i z hz => ?_⟩
    by_cases hi : i < n
    · rw [List.getElem?_append_left (by omega)] at hz
      exact h2 i z hz
    · rw [List.getElem?_append_right (by omega)] at hz
      have : i - L.length = 0 := by
        have := (List.getElem?_eq_some_iff.1 hz).1
        simp at this
        omega
      rw [this] at hz
      simp at hz
      subst hz
      rw [show i = n by omega]
      exact hy

section
variable {H : Type} {enc : TypeId × Value → H} {w : World} {base : Nat} {spare : Nat → Bool} {held : Bool}
/-- A slice of structs. -/
theorem open_row {α : Type} (Q : World → Nat → Nat → α → Prop) (s : Nat) (st et : TypeId) (hst : Try.prog.underlying st = some (.slice et)) (hs : Try.prog.cellsOf et = s) (h0 : 0 < s)
    (key : ∀ (m : Nat) (cs : List Value) (x : DataW H × List MemPlace) (B O : Nat), DataW.trod enc Try.prog w base spare held m et cs = some x → (∀ i, i < s → w.cell? ⟨B, O + i, none⟩ = cs[i]?) → cs.length = s → ∃ y : α, Q w B O y)
    (fuel : Nat) (cs : List Value) (x : DataW H × List MemPlace) (h : DataW.trod enc Try.prog w base spare held fuel st cs = some x) :
    ∃ (L : List α) (p : Option Addr) (cap : Nat), cs = [.slice p L.length cap] ∧ RowV Q s w L p ∧ L.length ≤ cap := by
  rcases DataW.trod_slice hst h with ⟨rfl, -⟩ | ⟨a, n, cap, elems, rest, m, rfl, rfl, hx, hb, hl, hm, hlen, hel, -, -⟩
  · exact ⟨[], none, 0, rfl, ⟨Nat.zero_le _, 0, 0, fun q => absurd rfl q, fun i x q => by simp at q⟩, Nat.zero_le _⟩
  · have hn : n ≤ 9223372036854775807 := Nat.le_trans hl hm
    have cellsOk : ∀ i, i < n → ∃ (cs' : List Value) (z : DataW H × List MemPlace), DataW.trod enc Try.prog w base spare held m et cs' = some z ∧ cs'.length = s ∧ ∀ k, k < s → w.cell? ((a.add (i * s)).add k) = cs'[k]? := by
      intro i hi
      have q := hel i hi
      rw [List.getElem?_eq_getElem (by omega), hs] at q
      obtain ⟨cs', hc, ht⟩ := Option.bind_eq_some_iff.1 q
      obtain ⟨-, h4, hcell⟩ := World.cells?_some hc
      exact ⟨cs', _, ht, h4, hcell⟩
    by_cases hz : n = 0
    · subst hz
      exact ⟨[], some a, cap, rfl, ⟨Nat.zero_le _, 0, 0, fun q => absurd rfl q, fun i x q => by simp at q⟩, Nat.zero_le _⟩
    · have hsp : a.spot = none := by
        obtain ⟨cs', z, -, h4, hc⟩ := cellsOk 0 (by omega)
        have q := hc 0 h0
        rw [List.getElem?_eq_getElem (by omega)] at q
        exact spot_none (by simpa [Addr.add] using q)
      obtain ⟨L, hL, hQ⟩ := list_of (Q := fun i y => Q w a.block (a.off + i * s) y) n (fun i hi => by
        obtain ⟨cs', z, ht, h4, hc⟩ := cellsOk i hi
        refine key m cs' z a.block (a.off + i * s) ht (fun k hk => ?_) h4
        have q := hc k hk
        rw [Go.Deep.add_add, addr_add0 _ _ hsp, ← Nat.add_assoc] at q
        exact q)
      refine ⟨L, some a, cap, by rw [hL], ⟨by omega, a.block, a.off, fun _ => ?_, hQ⟩, by omega⟩
      obtain ⟨b, o, sp⟩ := a
      dsimp only at hsp
      subst hsp
      rfl
/-- The cells of an expression within a struct. -/
theorem x4_of {B O : Nat} {c0 c1 c2 c3 : Value} (h : ExS w [c0, c1, c2, c3]) (k0 : w.cell? ⟨B, O, none⟩ = some c0) (k1 : w.cell? ⟨B, O + 1, none⟩ = some c1) (k2 : w.cell? ⟨B, O + 2, none⟩ = some c2) (k3 : w.cell? ⟨B, O + 3, none⟩ = some c3) :
    ∃ (b o : Nat) (a : Nd) (k : Fo), X4 w B O b o a k := by
  obtain ⟨a, k, b, o, he, hx, hok, -⟩ := h
  simp only [List.cons.injEq, and_true] at he
  obtain ⟨rfl, rfl, rfl, rfl⟩ := he
  exact ⟨b, o, a, k, ⟨k0, k1, k2, k3⟩, hx, hok⟩

theorem Try.cells_Const : Try.prog.cellsOf 38 = 5 := by kernel_rfl
theorem open_Const (m : Nat) (cs : List Value) (x : DataW H × List MemPlace) (B O : Nat) (h : DataW.trod enc Try.prog w base spare held m 38 cs = some x) (hc : ∀ i, i < 5 → w.cell? ⟨B, O + i, none⟩ = cs[i]?) (hl : cs.length = 5) : ∃ y : Cn, CnP w B O y := by
  obtain ⟨xs, n, rfl, -, -, hx, hf⟩ := DataW.trod_struct Try.underlying38 h
  match cs, hl, xs, hx with
  | [c0, c1, c2, c3, c4], _, [y0, y1], _ =>
    have hk : ∀ (i : Nat) (v : Value), i < 5 → [c0, c1, c2, c3, c4][i]? = some v → w.cell? ⟨B, O + i, none⟩ = some v := fun i v hi hv => (hc i hi).trans hv
    have g0 : DataW.trod enc Try.prog w base spare held n 9 (List.take (Try.prog.cellsOf 9) (List.drop 0 [c0, c1, c2, c3, c4])) = some y0 := hf 0 _ rfl
    have g1 : DataW.trod enc Try.prog w base spare held n 36 (List.take (Try.prog.cellsOf 36) (List.drop 1 [c0, c1, c2, c3, c4])) = some y1 := hf 1 _ rfl
    rw [Try.cellsS] at g0
    rw [Try.cellsE] at g1
    simp only [List.drop, List.take] at g0 g1
    obtain ⟨v0, e0, -, w0⟩ := DataW.trod_string Try.underlying9 g0
    obtain ⟨b, o, a, k, hX⟩ := x4_of (w := w) (B := B) (O := O + 1) (open_ex _ _ _ g1) (hk 1 _ (by omega) rfl) (hk 2 _ (by omega) rfl) (hk 3 _ (by omega) rfl) (hk 4 _ (by omega) rfl)
    simp only [List.cons.injEq, and_true] at e0
    subst e0
    exact ⟨⟨v0, b, o, a, k⟩, hk 0 _ (by omega) rfl, hX, w0⟩
theorem Try.cells_Rule : Try.prog.cellsOf 40 = 6 := by kernel_rfl
theorem open_Rule (m : Nat) (cs : List Value) (x : DataW H × List MemPlace) (B O : Nat) (h : DataW.trod enc Try.prog w base spare held m 40 cs = some x) (hc : ∀ i, i < 6 → w.cell? ⟨B, O + i, none⟩ = cs[i]?) (hl : cs.length = 6) : ∃ y : Ru, RuP w B O y := by
  obtain ⟨xs, n, rfl, -, -, hx, hf⟩ := DataW.trod_struct Try.underlying40 h
  match cs, hl, xs, hx with
  | [c0, c1, c2, c3, c4, c5], _, [y0, y1, y2], _ =>
    have hk : ∀ (i : Nat) (v : Value), i < 6 → [c0, c1, c2, c3, c4, c5][i]? = some v → w.cell? ⟨B, O + i, none⟩ = some v := fun i v hi hv => (hc i hi).trans hv
    have g0 : DataW.trod enc Try.prog w base spare held n 3 (List.take (Try.prog.cellsOf 3) (List.drop 0 [c0, c1, c2, c3, c4, c5])) = some y0 := hf 0 _ rfl
    have g1 : DataW.trod enc Try.prog w base spare held n 9 (List.take (Try.prog.cellsOf 9) (List.drop 1 [c0, c1, c2, c3, c4, c5])) = some y1 := hf 1 _ rfl
    have g2 : DataW.trod enc Try.prog w base spare held n 36 (List.take (Try.prog.cellsOf 36) (List.drop 2 [c0, c1, c2, c3, c4, c5])) = some y2 := hf 2 _ rfl
    rw [Try.cellsI] at g0
    rw [Try.cellsS] at g1
    rw [Try.cellsE] at g2
    simp only [List.drop, List.take] at g0 g1 g2
    obtain ⟨v0, e0, -, w0⟩ := DataW.trod_int Try.underlying3 g0
    obtain ⟨v1, e1, -, w1⟩ := DataW.trod_string Try.underlying9 g1
    obtain ⟨b, o, a, k, hX⟩ := x4_of (w := w) (B := B) (O := O + 2) (open_ex _ _ _ g2) (hk 2 _ (by omega) rfl) (hk 3 _ (by omega) rfl) (hk 4 _ (by omega) rfl) (hk 5 _ (by omega) rfl)
    simp only [List.cons.injEq, and_true] at e0 e1
    subst e0 e1
    exact ⟨⟨v0, v1, b, o, a, k⟩, hk 0 _ (by omega) rfl, hk 1 _ (by omega) rfl, hX, i64_of_wf w0, w1⟩
theorem Try.cells_Cost : Try.prog.cellsOf 42 = 5 := by kernel_rfl
theorem open_Cost (m : Nat) (cs : List Value) (x : DataW H × List MemPlace) (B O : Nat) (h : DataW.trod enc Try.prog w base spare held m 42 cs = some x) (hc : ∀ i, i < 5 → w.cell? ⟨B, O + i, none⟩ = cs[i]?) (hl : cs.length = 5) : ∃ y : Co, CoP w B O y := by
  obtain ⟨xs, n, rfl, -, -, hx, hf⟩ := DataW.trod_struct Try.underlying42 h
  match cs, hl, xs, hx with
  | [c0, c1, c2, c3, c4], _, [y0, y1], _ =>
    have hk : ∀ (i : Nat) (v : Value), i < 5 → [c0, c1, c2, c3, c4][i]? = some v → w.cell? ⟨B, O + i, none⟩ = some v := fun i v hi hv => (hc i hi).trans hv
    have g0 : DataW.trod enc Try.prog w base spare held n 3 (List.take (Try.prog.cellsOf 3) (List.drop 0 [c0, c1, c2, c3, c4])) = some y0 := hf 0 _ rfl
    have g1 : DataW.trod enc Try.prog w base spare held n 36 (List.take (Try.prog.cellsOf 36) (List.drop 1 [c0, c1, c2, c3, c4])) = some y1 := hf 1 _ rfl
    rw [Try.cellsI] at g0
    rw [Try.cellsE] at g1
    simp only [List.drop, List.take] at g0 g1
    obtain ⟨v0, e0, -, w0⟩ := DataW.trod_int Try.underlying3 g0
    obtain ⟨b, o, a, k, hX⟩ := x4_of (w := w) (B := B) (O := O + 1) (open_ex _ _ _ g1) (hk 1 _ (by omega) rfl) (hk 2 _ (by omega) rfl) (hk 3 _ (by omega) rfl) (hk 4 _ (by omega) rfl)
    simp only [List.cons.injEq, and_true] at e0
    subst e0
    exact ⟨⟨v0, b, o, a, k⟩, hk 0 _ (by omega) rfl, hX, i64_of_wf w0⟩
theorem Try.cells_Limit : Try.prog.cellsOf 78 = 4 := by kernel_rfl
theorem open_Limit (m : Nat) (cs : List Value) (x : DataW H × List MemPlace) (B O : Nat) (h : DataW.trod enc Try.prog w base spare held m 78 cs = some x) (hc : ∀ i, i < 4 → w.cell? ⟨B, O + i, none⟩ = cs[i]?) (hl : cs.length = 4) : ∃ y : Li, LiP w B O y := by
  obtain ⟨xs, n, rfl, -, -, hx, hf⟩ := DataW.trod_struct Try.underlying78 h
  match cs, hl, xs, hx with
  | [c0, c1, c2, c3], _, [y0, y1, y2, y3], _ =>
    have hk : ∀ (i : Nat) (v : Value), i < 4 → [c0, c1, c2, c3][i]? = some v → w.cell? ⟨B, O + i, none⟩ = some v := fun i v hi hv => (hc i hi).trans hv
    have g0 : DataW.trod enc Try.prog w base spare held n 9 (List.take (Try.prog.cellsOf 9) (List.drop 0 [c0, c1, c2, c3])) = some y0 := hf 0 _ rfl
    have g1 : DataW.trod enc Try.prog w base spare held n 9 (List.take (Try.prog.cellsOf 9) (List.drop 1 [c0, c1, c2, c3])) = some y1 := hf 1 _ rfl
    have g2 : DataW.trod enc Try.prog w base spare held n 3 (List.take (Try.prog.cellsOf 3) (List.drop 2 [c0, c1, c2, c3])) = some y2 := hf 2 _ rfl
    have g3 : DataW.trod enc Try.prog w base spare held n 3 (List.take (Try.prog.cellsOf 3) (List.drop 3 [c0, c1, c2, c3])) = some y3 := hf 3 _ rfl
    rw [Try.cellsS] at g0
    rw [Try.cellsS] at g1
    rw [Try.cellsI] at g2
    rw [Try.cellsI] at g3
    simp only [List.drop, List.take] at g0 g1 g2 g3
    obtain ⟨v0, e0, -, w0⟩ := DataW.trod_string Try.underlying9 g0
    obtain ⟨v1, e1, -, w1⟩ := DataW.trod_string Try.underlying9 g1
    obtain ⟨v2, e2, -, w2⟩ := DataW.trod_int Try.underlying3 g2
    obtain ⟨v3, e3, -, w3⟩ := DataW.trod_int Try.underlying3 g3
    simp only [List.cons.injEq, and_true] at e0 e1 e2 e3
    subst e0 e1 e2 e3
    exact ⟨⟨v0, v1, v2, v3⟩, hk 0 _ (by omega) rfl, hk 1 _ (by omega) rfl, hk 2 _ (by omega) rfl, hk 3 _ (by omega) rfl, i64_of_wf w2, i64_of_wf w3, w0, w1⟩
theorem Try.cells_Off : Try.prog.cellsOf 80 = 3 := by kernel_rfl
theorem open_Off (m : Nat) (cs : List Value) (x : DataW H × List MemPlace) (B O : Nat) (h : DataW.trod enc Try.prog w base spare held m 80 cs = some x) (hc : ∀ i, i < 3 → w.cell? ⟨B, O + i, none⟩ = cs[i]?) (hl : cs.length = 3) : ∃ y : Of, OfP w B O y := by
  obtain ⟨xs, n, rfl, -, -, hx, hf⟩ := DataW.trod_struct Try.underlying80 h
  match cs, hl, xs, hx with
  | [c0, c1, c2], _, [y0, y1, y2], _ =>
    have hk : ∀ (i : Nat) (v : Value), i < 3 → [c0, c1, c2][i]? = some v → w.cell? ⟨B, O + i, none⟩ = some v := fun i v hi hv => (hc i hi).trans hv
    have g0 : DataW.trod enc Try.prog w base spare held n 9 (List.take (Try.prog.cellsOf 9) (List.drop 0 [c0, c1, c2])) = some y0 := hf 0 _ rfl
    have g1 : DataW.trod enc Try.prog w base spare held n 3 (List.take (Try.prog.cellsOf 3) (List.drop 1 [c0, c1, c2])) = some y1 := hf 1 _ rfl
    have g2 : DataW.trod enc Try.prog w base spare held n 3 (List.take (Try.prog.cellsOf 3) (List.drop 2 [c0, c1, c2])) = some y2 := hf 2 _ rfl
    rw [Try.cellsS] at g0
    rw [Try.cellsI] at g1
    rw [Try.cellsI] at g2
    simp only [List.drop, List.take] at g0 g1 g2
    obtain ⟨v0, e0, -, w0⟩ := DataW.trod_string Try.underlying9 g0
    obtain ⟨v1, e1, -, w1⟩ := DataW.trod_int Try.underlying3 g1
    obtain ⟨v2, e2, -, w2⟩ := DataW.trod_int Try.underlying3 g2
    simp only [List.cons.injEq, and_true] at e0 e1 e2
    subst e0 e1 e2
    exact ⟨⟨v0, v1, v2⟩, hk 0 _ (by omega) rfl, hk 1 _ (by omega) rfl, hk 2 _ (by omega) rfl, i64_of_wf w1, i64_of_wf w2, w0⟩
theorem Try.cells_Ct : Try.prog.cellsOf 29 = 14 := by kernel_rfl
theorem Try.cells_Consts : Try.prog.cellsOf 22 = 1 := by kernel_rfl
theorem Try.cells_Rules : Try.prog.cellsOf 23 = 1 := by kernel_rfl
theorem Try.cells_Costs : Try.prog.cellsOf 24 = 1 := by kernel_rfl
theorem Try.cells_Limits : Try.prog.cellsOf 26 = 1 := by kernel_rfl
theorem Try.cells_Offs : Try.prog.cellsOf 27 = 1 := by kernel_rfl
/-- An argument that is a contract. -/
theorem open_contract {v : Value} {d : DataW H} {pl : List MemPlace} {r : Reach} {b0 : Nat} (hv : Value.okWide Try.prog w r b0 29 v) (h : DataW.Trod enc Try.prog w base spare held 29 v d pl) :
    ∃ (c : Ct) (p : Cp), v = .agg #[.int .i64 c.rep, .int .i64 c.rel, .int .i64 c.con, .int .i64 c.sit, .int .i64 c.lay, .int .i64 c.nf, .int .i64 c.nt, .slice p.cs c.cs.length p.ccs, .slice p.rs c.rs.length p.crs, .slice p.os c.os.length p.cos, .slice p.cr (len c.cr) p.ccr, .slice p.ls c.ls.length p.cls, .slice p.fs c.fs.length p.cfs, .int .i64 c.gua] ∧ CtV w c p := by
  obtain ⟨⟨l⟩, rfl, hsz⟩ := okWide_struct Try.underlying29 hv
  obtain ⟨fuel, hf0⟩ := h
  have hf1 : DataW.trod enc Try.prog w base spare held fuel 29 l = some (d, pl) := hf0
  obtain ⟨xs, n, rfl, -, h14, hx, hf⟩ := DataW.trod_struct Try.underlying29 hf1
  rw [Try.cells_Ct] at h14
  clear hf0 hf1 hsz hv
  match l, h14, xs, hx with
  | [c0, c1, c2, c3, c4, c5, c6, c7, c8, c9, c10, c11, c12, c13], _, [y0, y1, y2, y3, y4, y5, y6, y7, y8, y9, y10, y11, y12, y13], _ =>
    have g0 : DataW.trod enc Try.prog w base spare held n 3 (List.take (Try.prog.cellsOf 3) (List.drop 0 [c0, c1, c2, c3, c4, c5, c6, c7, c8, c9, c10, c11, c12, c13])) = some y0 := hf 0 _ rfl
    have g1 : DataW.trod enc Try.prog w base spare held n 3 (List.take (Try.prog.cellsOf 3) (List.drop 1 [c0, c1, c2, c3, c4, c5, c6, c7, c8, c9, c10, c11, c12, c13])) = some y1 := hf 1 _ rfl
    have g2 : DataW.trod enc Try.prog w base spare held n 3 (List.take (Try.prog.cellsOf 3) (List.drop 2 [c0, c1, c2, c3, c4, c5, c6, c7, c8, c9, c10, c11, c12, c13])) = some y2 := hf 2 _ rfl
    have g3 : DataW.trod enc Try.prog w base spare held n 3 (List.take (Try.prog.cellsOf 3) (List.drop 3 [c0, c1, c2, c3, c4, c5, c6, c7, c8, c9, c10, c11, c12, c13])) = some y3 := hf 3 _ rfl
    have g4 : DataW.trod enc Try.prog w base spare held n 3 (List.take (Try.prog.cellsOf 3) (List.drop 4 [c0, c1, c2, c3, c4, c5, c6, c7, c8, c9, c10, c11, c12, c13])) = some y4 := hf 4 _ rfl
    have g5 : DataW.trod enc Try.prog w base spare held n 3 (List.take (Try.prog.cellsOf 3) (List.drop 5 [c0, c1, c2, c3, c4, c5, c6, c7, c8, c9, c10, c11, c12, c13])) = some y5 := hf 5 _ rfl
    have g6 : DataW.trod enc Try.prog w base spare held n 3 (List.take (Try.prog.cellsOf 3) (List.drop 6 [c0, c1, c2, c3, c4, c5, c6, c7, c8, c9, c10, c11, c12, c13])) = some y6 := hf 6 _ rfl
    have g7 : DataW.trod enc Try.prog w base spare held n 22 (List.take (Try.prog.cellsOf 22) (List.drop 7 [c0, c1, c2, c3, c4, c5, c6, c7, c8, c9, c10, c11, c12, c13])) = some y7 := hf 7 _ rfl
    have g8 : DataW.trod enc Try.prog w base spare held n 23 (List.take (Try.prog.cellsOf 23) (List.drop 8 [c0, c1, c2, c3, c4, c5, c6, c7, c8, c9, c10, c11, c12, c13])) = some y8 := hf 8 _ rfl
    have g9 : DataW.trod enc Try.prog w base spare held n 24 (List.take (Try.prog.cellsOf 24) (List.drop 9 [c0, c1, c2, c3, c4, c5, c6, c7, c8, c9, c10, c11, c12, c13])) = some y9 := hf 9 _ rfl
    have g10 : DataW.trod enc Try.prog w base spare held n 25 (List.take (Try.prog.cellsOf 25) (List.drop 10 [c0, c1, c2, c3, c4, c5, c6, c7, c8, c9, c10, c11, c12, c13])) = some y10 := hf 10 _ rfl
    have g11 : DataW.trod enc Try.prog w base spare held n 26 (List.take (Try.prog.cellsOf 26) (List.drop 11 [c0, c1, c2, c3, c4, c5, c6, c7, c8, c9, c10, c11, c12, c13])) = some y11 := hf 11 _ rfl
    have g12 : DataW.trod enc Try.prog w base spare held n 27 (List.take (Try.prog.cellsOf 27) (List.drop 12 [c0, c1, c2, c3, c4, c5, c6, c7, c8, c9, c10, c11, c12, c13])) = some y12 := hf 12 _ rfl
    have g13 : DataW.trod enc Try.prog w base spare held n 3 (List.take (Try.prog.cellsOf 3) (List.drop 13 [c0, c1, c2, c3, c4, c5, c6, c7, c8, c9, c10, c11, c12, c13])) = some y13 := hf 13 _ rfl
    rw [Try.cellsI] at g0
    rw [Try.cellsI] at g1
    rw [Try.cellsI] at g2
    rw [Try.cellsI] at g3
    rw [Try.cellsI] at g4
    rw [Try.cellsI] at g5
    rw [Try.cellsI] at g6
    rw [Try.cells_Consts] at g7
    rw [Try.cells_Rules] at g8
    rw [Try.cells_Costs] at g9
    rw [Try.cellsL] at g10
    rw [Try.cells_Limits] at g11
    rw [Try.cells_Offs] at g12
    rw [Try.cellsI] at g13
    simp only [List.drop, List.take] at g0 g1 g2 g3 g4 g5 g6 g7 g8 g9 g10 g11 g12 g13
    obtain ⟨v0, e0, -, w0⟩ := DataW.trod_int Try.underlying3 g0
    obtain ⟨v1, e1, -, w1⟩ := DataW.trod_int Try.underlying3 g1
    obtain ⟨v2, e2, -, w2⟩ := DataW.trod_int Try.underlying3 g2
    obtain ⟨v3, e3, -, w3⟩ := DataW.trod_int Try.underlying3 g3
    obtain ⟨v4, e4, -, w4⟩ := DataW.trod_int Try.underlying3 g4
    obtain ⟨v5, e5, -, w5⟩ := DataW.trod_int Try.underlying3 g5
    obtain ⟨v6, e6, -, w6⟩ := DataW.trod_int Try.underlying3 g6
    obtain ⟨L7, p7, cap7, e7, hr7, hc7⟩ := open_row CnP 5 22 38 Try.underlying22 Try.cells_Const (by omega) open_Const n _ _ g7
    obtain ⟨L8, p8, cap8, e8, hr8, hc8⟩ := open_row RuP 6 23 40 Try.underlying23 Try.cells_Rule (by omega) open_Rule n _ _ g8
    obtain ⟨L9, p9, cap9, e9, hr9, hc9⟩ := open_row CoP 5 24 42 Try.underlying24 Try.cells_Cost (by omega) open_Cost n _ _ g9
    obtain ⟨cr, pcr, ccr, kb, ko, e10, hp10, hat10, hok10, hl10, -⟩ := open_sl n (fun m _ => open_ex m) _ _ g10
    obtain ⟨L11, p11, cap11, e11, hr11, hc11⟩ := open_row LiP 4 26 78 Try.underlying26 Try.cells_Limit (by omega) open_Limit n _ _ g11
    obtain ⟨L12, p12, cap12, e12, hr12, hc12⟩ := open_row OfP 3 27 80 Try.underlying27 Try.cells_Off (by omega) open_Off n _ _ g12
    obtain ⟨v13, e13, -, w13⟩ := DataW.trod_int Try.underlying3 g13
    simp only [List.cons.injEq, and_true] at e0 e1 e2 e3 e4 e5 e6 e7 e8 e9 e10 e11 e12 e13
    subst e0 e1 e2 e3 e4 e5 e6 e7 e8 e9 e10 e11 e12 e13
    exact ⟨⟨v0, v1, v2, v3, v4, v5, v6, v13, L7, L8, L9, cr, L11, L12⟩, ⟨p7, p8, p9, pcr, p11, p12, cap7, cap8, cap9, ccr, cap11, cap12⟩, rfl, ⟨hr7, hr8, hr9, ⟨hl10, hok10, kb, ko, hp10, hat10⟩, hr11, hr12, ⟨i64_of_wf w0, i64_of_wf w1, i64_of_wf w2, i64_of_wf w3, i64_of_wf w4, i64_of_wf w5, i64_of_wf w6, i64_of_wf w13⟩, hc7⟩⟩
end

end Go.Proofs.Ytjdjbjblblmdjaa
