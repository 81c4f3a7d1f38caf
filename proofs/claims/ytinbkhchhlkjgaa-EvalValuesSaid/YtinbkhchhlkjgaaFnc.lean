/-
  The compiler's maps, and the contract of formula.NewCompiler.
-/
import Derived.Test.YtinbkhchhlkjgaaChn
import Derived.Test.YtinbkhchhlkjgaaKep
import Derived.Test.YtinbkhchhlkjgaaNma
import Derived.Deep.LoopGhost
namespace Go.Proofs.Ytinbkhchhlkjgaa
set_option linter.unusedVariables false
set_option linter.unusedSimpArgs false
open Go.ChangeShapes Go.WideShapes Go.ChangeAt Go.RowKit
open Go.Maps (has size IsMap)

/-- The place of a name among the first j names. -/
def posN (L : List (List UInt8)) : Nat → ByteArray → Option Nat
  | 0, _ => none
  | j + 1, s => if L[j]? = some s.data.toList then some j else posN L j s
def PlMap (P : Program) (w : World) (L : List (List UInt8)) (j b : Nat) : Prop :=
  ∃ D : DataW Unit, w.ownsMap P 9 (plainElem P 3) b j D ∧ IsMap D ∧ ∀ s : ByteArray, match posN L j s with
    | some i => has D (strK s) = true ∧ D.atKey (strK s) (.lit (.int .i64 0)) = .lit (.int .i64 i)
    | none => has D (strK s) = false
theorem PlMap.kept {P : Program} {w w' : World} {L : List (List UInt8)} {j b : Nat} {row : Option Nat} (h : PlMap P w L j b) (hg : w.grownBy w' row) (hne : some b ≠ row) : PlMap P w' L j b := by
  obtain ⟨D, h1, h2, h3⟩ := h
  exact ⟨D, h1.kept hg hne, h2, h3⟩
theorem PlMap.start (P : Program) (w : World) (L : List (List UInt8)) : PlMap P (w.alloc (.map #[] 0)) L 0 w.heap.size :=
  ⟨.map [], World.ownsMap_made _ _ _ _, ⟨[], rfl⟩, fun s => rfl⟩
theorem PlMap.lt {P : Program} {w : World} {L : List (List UInt8)} {j b : Nat} (h : PlMap P w L j b) : b < w.heap.size := by
  obtain ⟨D, ⟨es, clock, hb, -⟩, -⟩ := h
  exact (Array.getElem?_eq_some_iff.1 hb).1
theorem pl_look {w : World} {L : List (List UInt8)} {j b : Nat} (h : PlMap Try.prog w L j b) (s : ByteArray) (hs : s.size ≤ maxLen) : ∃ (v : Int) (hb : Bool), (Instr.lookup 66 (.map (some b)) (.string s) true).run Try.prog w = .ok (.tuple #[.int .i64 v, .bool hb]) w ∧
    (match posN L j s with | some i => hb = true ∧ v = i | none => hb = false) := by
  obtain ⟨D, h1, h2, h3⟩ := h
  obtain ⟨v, ps, hrun, hv⟩ := h1.look_ok Try.keyS Try.underlying66 (Try.zeroI w) (plainElem_int Try.underlying3 (by decide)) (Go.WideMaps.keyOf_string_mk Try.underlying9 hs)
  obtain ⟨c, rfl, hc, -⟩ := plainElem_int_inv Try.underlying3 hv
  refine ⟨c, _, hrun, ?_⟩
  have q := h3 s
  have e := congrArg Prod.fst hc
  cases f : posN L j s with
  | some i =>
    rw [f] at q
    refine ⟨q.1, ?_⟩
    have h9 : (DataW.lit (Lit.int .i64 (i : Int)) : DataW Unit) = .lit (.int .i64 c) := q.2.symm.trans e
    exact (lit_inj h9).symm
  | none => rw [f] at q; exact q
theorem pl_put {w : World} {L : List (List UInt8)} {j b : Nat} {l : List UInt8} (h : PlMap Try.prog w L j b) (hl : L[j]? = some l) (hs : l.length ≤ 1000) (hj : j < 1000) :
    ∃ w', (Instr.mapUpdate 66 (.map (some b)) (.string ⟨l.toArray⟩) (.int .i64 j)).run Try.prog w = .ok () w' ∧ PlMap Try.prog w' L (j + 1) b ∧ w.grownBy w' (some b) := by
  obtain ⟨D, h1, h2, h3⟩ := h
  have hsz : (⟨l.toArray⟩ : ByteArray).size ≤ maxLen := by show l.toArray.size ≤ _; unfold maxLen; simp; omega
  obtain ⟨w', hrun, ho, hg⟩ := h1.update Try.keyS Try.underlying66 (by unfold maxLen; omega) (Go.WideMaps.keyOf_string_mk Try.underlying9 hsz) (plainElem_int Try.underlying3 (a := (j : Int)) (WalkArith.wf_i64 (by omega)))
  refine ⟨w', hrun, ⟨_, ho, h2.put _ _, fun s => ?_⟩, hg⟩
  have q := h3 s
  show match (if L[j]? = some s.data.toList then some j else posN L j s) with | some i => _ | none => _
  by_cases e : s = ⟨l.toArray⟩
  · subst e
    rw [if_pos (by rw [hl])]
    exact ⟨Go.Maps.has_put_same h2 (by first | trivial | exact .inl ⟨_, rfl⟩ | simp [WideAt.IsKeyLit, strK, intK]) _, Go.Maps.atKey_put_same h2 (by first | trivial | exact .inl ⟨_, rfl⟩ | simp [WideAt.IsKeyLit, strK, intK]) _ _⟩
  · have hne : strK s ≠ strK ⟨l.toArray⟩ := strK_ne e
    rw [if_neg (fun q => e (by rw [hl] at q; have := Option.some.inj q; rw [this]))]
    cases f : posN L j s with
    | some i =>
      rw [f] at q
      exact ⟨(Go.Maps.has_put_other hne _).trans q.1, (Go.Maps.atKey_put_other hne _ _).trans q.2⟩
    | none =>
      rw [f] at q
      exact (Go.Maps.has_put_other hne _).trans q

/-- The map of the values that are known. -/
def VMap (P : Program) (w : World) (f : Nat → Int) (N b : Nat) : Prop :=
  ∃ (D : DataW Unit) (K : List Nat), w.ownsMap P 3 (plainElem P 3) b K.length D ∧ IsMap D ∧ K.Nodup ∧ (∀ i ∈ K, i < N) ∧ size D = K.length ∧
    (∀ i ∈ K, has D (intK i) = true ∧ D.atKey (intK i) (.lit (.int .i64 0)) = .lit (.int .i64 (f i))) ∧ ∀ i : Nat, i ∉ K → has D (intK i) = false
theorem VMap.kept {P : Program} {w w' : World} {f : Nat → Int} {N b : Nat} {row : Option Nat} (h : VMap P w f N b) (hg : w.grownBy w' row) (hne : some b ≠ row) : VMap P w' f N b := by
  obtain ⟨D, K, h1, h2⟩ := h
  exact ⟨D, K, h1.kept hg hne, h2⟩
theorem VMap.start (P : Program) (w : World) (f : Nat → Int) (N : Nat) : VMap P (w.alloc (.map #[] 0)) f N w.heap.size :=
  ⟨.map [], [], World.ownsMap_made _ _ _ _, ⟨[], rfl⟩, List.nodup_nil, by simp, rfl, by simp, fun i _ => rfl⟩
theorem VMap.lt {P : Program} {w : World} {f : Nat → Int} {N b : Nat} (h : VMap P w f N b) : b < w.heap.size := by
  obtain ⟨D, K, ⟨es, clock, hb, -⟩, -⟩ := h
  exact (Array.getElem?_eq_some_iff.1 hb).1
theorem Keeps.of_vm {P : Program} {w w' : World} {f : Nat → Int} {N vb : Nat} (hk : VMap P w f N vb) (h : w.grownBy w' (some vb)) : Keeps w w' := fun p v q => by
  obtain ⟨D, K, ho, -⟩ := hk
  have hne : some p.block ≠ some vb := fun e => by rw [no_cell ho p (Option.some.inj e)] at q; cases q
  rw [World.cell?_of_block (h.block p.block (block_lt_of_cell q) hne)]; exact q

/-- A compiler at block kb: its constants, its index of the first j of them, the values that are known. -/
structure CmpS (P : Program) (w : World) (kb ib vb : Nat) (cs : List Cn) (j : Nat) (p : Option Addr) (cap : Nat) (f : Nat → Int) : Prop where
  c0 : w.cell? ⟨kb, 0, none⟩ = some (.slice p cs.length cap)
  c1 : w.cell? ⟨kb, 1, none⟩ = some (.map (some ib))
  c2 : w.cell? ⟨kb, 2, none⟩ = some (.map (some vb))
  ix : IxMap P w cs j ib
  vm : VMap P w f cs.length vb
  n1 : kb ≠ ib
  n2 : kb ≠ vb
  n3 : ib ≠ vb
  lt : kb < w.heap.size
theorem CmpS.grown {P : Program} {w w' : World} {kb ib vb : Nat} {cs : List Cn} {j : Nat} {p : Option Addr} {cap : Nat} {f : Nat → Int} {row : Option Nat} (h : CmpS P w kb ib vb cs j p cap f) (hg : w.grownBy w' row) (h1 : some kb ≠ row) (h2 : some ib ≠ row) (h3 : some vb ≠ row) : CmpS P w' kb ib vb cs j p cap f where
  c0 := by rw [World.cell?_of_block (hg.block kb h.lt h1)]; exact h.c0
  c1 := by rw [World.cell?_of_block (hg.block kb h.lt h1)]; exact h.c1
  c2 := by rw [World.cell?_of_block (hg.block kb h.lt h1)]; exact h.c2
  ix := h.ix.kept hg h2
  vm := h.vm.kept hg h3
  n1 := h.n1
  n2 := h.n2
  n3 := h.n3
  lt := Nat.lt_of_lt_of_le h.lt hg.size
theorem CmpS.next {P : Program} {w w' : World} {kb ib vb : Nat} {cs : List Cn} {j : Nat} {p : Option Addr} {cap : Nat} {f : Nat → Int} (h : CmpS P w kb ib vb cs j p cap f) (hb : Below w.heap.size w w') : CmpS P w' kb ib vb cs j p cap f := h.grown (grw_of_below none hb) (by simp) (by simp) (by simp)
theorem CmpS.put {P : Program} {w w' : World} {kb ib vb : Nat} {cs : List Cn} {j : Nat} {p : Option Addr} {cap : Nat} {f : Nat → Int} (h : CmpS P w kb ib vb cs j p cap f) (hi : IxMap P w' cs (j + 1) ib) (hg : w.grownBy w' (some ib)) : CmpS P w' kb ib vb cs (j + 1) p cap f where
  c0 := by rw [World.cell?_of_block (hg.block kb h.lt (fun e => h.n1 (Option.some.inj e)))]; exact h.c0
  c1 := by rw [World.cell?_of_block (hg.block kb h.lt (fun e => h.n1 (Option.some.inj e)))]; exact h.c1
  c2 := by rw [World.cell?_of_block (hg.block kb h.lt (fun e => h.n1 (Option.some.inj e)))]; exact h.c2
  ix := hi
  vm := h.vm.kept hg (fun e => h.n3 (Option.some.inj e).symm)
  n1 := h.n1
  n2 := h.n2
  n3 := h.n3
  lt := Nat.lt_of_lt_of_le h.lt hg.size
/-- The places of the attributes of the scopes below s; the cells behind them are free. -/
structure PlS (P : Program) (w : World) (kb s : Nat) (pb : Nat → Nat) : Prop where
  c : ∀ i, i < s → w.cell? ⟨kb, 3 + i, none⟩ = some (.map (some (pb i)))
  m : ∀ i, i < s → PlMap P w (Att.listL i) (Att.listL i).length (pb i)
  z : ∀ i, s ≤ i → i < 4 → w.cell? ⟨kb, 3 + i, none⟩ = some (.map none)
  f : ∀ i, i < 4 → w.frozen? ⟨kb, 3 + i, none⟩ = false
  lt : kb < w.heap.size
theorem PlS.grown {P : Program} {w w' : World} {kb s : Nat} {pb : Nat → Nat} {row : Option Nat} (h : PlS P w kb s pb) (hg : w.grownBy w' row) (h1 : some kb ≠ row) (h2 : ∀ i, i < s → some (pb i) ≠ row) : PlS P w' kb s pb where
  c := fun i hi => by rw [World.cell?_of_block (hg.block kb h.lt h1)]; exact h.c i hi
  m := fun i hi => (h.m i hi).kept hg (h2 i hi)
  z := fun i h3 h4 => by rw [World.cell?_of_block (hg.block kb h.lt h1)]; exact h.z i h3 h4
  f := fun i hi => by rw [World.frozen?_of_block (hg.block kb h.lt h1)]; exact h.f i hi
  lt := Nat.lt_of_lt_of_le h.lt hg.size
theorem PlS.next {P : Program} {w w' : World} {kb s : Nat} {pb : Nat → Nat} (h : PlS P w kb s pb) (hb : Below w.heap.size w w') : PlS P w' kb s pb := h.grown (grw_of_below none hb) (by simp) (fun _ _ => by simp)

end Go.Proofs.Ytinbkhchhlkjgaa
