/-
  Contracts as they lie in memory, and what their validation answers. No program in sight.
-/
import Derived.Test.YtjdjbjblblmdjaaGh
import Derived.DeepKeys4
namespace Go.Proofs.Ytjdjbjblblmdjaa
set_option linter.unusedVariables false
set_option linter.unusedSimpArgs false
open Go.ChangeShapes Go.WideShapes Go.ChangeAt Go.RowKit
open Go.Deep (BT)
open Go.Maps (has size IsMap)

/-- The first error of two. -/
def orE (a b : Int) : Int := if a ≠ 0 then a else b
theorem orE_ne {a b : Int} (h : a ≠ 0) : orE a b = a := by unfold orE; rw [if_pos h]
theorem orE_zero (b : Int) : orE 0 b = b := by unfold orE; rw [if_neg (by simp)]
theorem orE_nil (a : Int) : orE a 0 = a := by
  unfold orE
  by_cases h : a = 0
  · rw [if_neg (by simp [h]), h]
  · rw [if_pos h]
/-- The first error of a row. -/
def fe (f : Nat → Int) : Nat → Nat → Int
  | _, 0 => 0
  | j, n + 1 => orE (f j) (fe f (j + 1) n)
theorem fe_at {f : Nat → Int} {j n : Nat} (h : j < n) : fe f j (n - j) = orE (f j) (fe f (j + 1) (n - (j + 1))) := by
  obtain ⟨m, hm⟩ : ∃ m, n - j = m + 1 := ⟨n - j - 1, by omega⟩
  rw [hm, show n - (j + 1) = m by omega]
  rfl
theorem fe_end {f : Nat → Int} {j n : Nat} (h : n ≤ j) : fe f j (n - j) = 0 := by rw [Nat.sub_eq_zero_of_le h]; rfl

structure Ru where
  sc : Int
  name : ByteArray
  b : Nat
  o : Nat
  a : Nd
  k : Fo
structure Co where
  sc : Int
  b : Nat
  o : Nat
  a : Nd
  k : Fo
structure Li where
  name : ByteArray
  meas : ByteArray
  most : Int
  days : Int
structure Of where
  name : ByteArray
  count : Int
  days : Int

def Bd (x : Int) : Prop := -9223372036854775808 ≤ x ∧ x ≤ 9223372036854775807
/-- The cells of one expression within a row. -/
def X4 (w : World) (B O : Nat) (b o : Nat) (a : Nd) (k : Fo) : Prop :=
  (w.cell? ⟨B, O, none⟩ = some (.int .i64 a.op) ∧ w.cell? ⟨B, O + 1, none⟩ = some (.int .i64 a.num) ∧ w.cell? ⟨B, O + 2, none⟩ = some (.string a.name) ∧ w.cell? ⟨B, O + 3, none⟩ = some (.slice a.ptr (len k) a.cap)) ∧ ExAt w b o a k ∧ ExOk a k
def CnP (w : World) (B O : Nat) (c : Cn) : Prop := w.cell? ⟨B, O, none⟩ = some (.string c.name) ∧ X4 w B (O + 1) c.b c.o c.a c.k ∧ c.name.size ≤ 9223372036854775807
def RuP (w : World) (B O : Nat) (r : Ru) : Prop := w.cell? ⟨B, O, none⟩ = some (.int .i64 r.sc) ∧ w.cell? ⟨B, O + 1, none⟩ = some (.string r.name) ∧ X4 w B (O + 2) r.b r.o r.a r.k ∧ Bd r.sc ∧ r.name.size ≤ 9223372036854775807
def CoP (w : World) (B O : Nat) (r : Co) : Prop := w.cell? ⟨B, O, none⟩ = some (.int .i64 r.sc) ∧ X4 w B (O + 1) r.b r.o r.a r.k ∧ Bd r.sc
def LiP (w : World) (B O : Nat) (r : Li) : Prop := w.cell? ⟨B, O, none⟩ = some (.string r.name) ∧ w.cell? ⟨B, O + 1, none⟩ = some (.string r.meas) ∧ w.cell? ⟨B, O + 2, none⟩ = some (.int .i64 r.most) ∧ w.cell? ⟨B, O + 3, none⟩ = some (.int .i64 r.days) ∧ Bd r.most ∧ Bd r.days ∧ r.name.size ≤ 9223372036854775807 ∧ r.meas.size ≤ 9223372036854775807
def OfP (w : World) (B O : Nat) (r : Of) : Prop := w.cell? ⟨B, O, none⟩ = some (.string r.name) ∧ w.cell? ⟨B, O + 1, none⟩ = some (.int .i64 r.count) ∧ w.cell? ⟨B, O + 2, none⟩ = some (.int .i64 r.days) ∧ Bd r.count ∧ Bd r.days ∧ r.name.size ≤ 9223372036854775807
theorem cell_next {w w' : World} {a : Addr} {v : Value} (h : w.cell? a = some v) (hb : Below w.heap.size w w') : w'.cell? a = some v := by rw [hb.cell (block_lt_of_cell h)]; exact h
theorem X4.next {w w' : World} {B O b o : Nat} {a : Nd} {k : Fo} (h : X4 w B O b o a k) (hb : Below w.heap.size w w') : X4 w' B O b o a k :=
  ⟨⟨cell_next h.1.1 hb, cell_next h.1.2.1 hb, cell_next h.1.2.2.1 hb, cell_next h.1.2.2.2 hb⟩, h.2.1.next hb, h.2.2⟩
theorem CnP.next {w w' : World} {B O : Nat} {c : Cn} (h : CnP w B O c) (hb : Below w.heap.size w w') : CnP w' B O c := ⟨cell_next h.1 hb, h.2.1.next hb, h.2.2⟩
theorem RuP.next {w w' : World} {B O : Nat} {c : Ru} (h : RuP w B O c) (hb : Below w.heap.size w w') : RuP w' B O c := ⟨cell_next h.1 hb, cell_next h.2.1 hb, h.2.2.1.next hb, h.2.2.2⟩
theorem CoP.next {w w' : World} {B O : Nat} {c : Co} (h : CoP w B O c) (hb : Below w.heap.size w w') : CoP w' B O c := ⟨cell_next h.1 hb, h.2.1.next hb, h.2.2⟩
theorem LiP.next {w w' : World} {B O : Nat} {c : Li} (h : LiP w B O c) (hb : Below w.heap.size w w') : LiP w' B O c := ⟨cell_next h.1 hb, cell_next h.2.1 hb, cell_next h.2.2.1 hb, cell_next h.2.2.2.1 hb, h.2.2.2.2⟩
theorem OfP.next {w w' : World} {B O : Nat} {c : Of} (h : OfP w B O c) (hb : Below w.heap.size w w') : OfP w' B O c := ⟨cell_next h.1 hb, cell_next h.2.1 hb, cell_next h.2.2.1 hb, h.2.2.2⟩

/-- A row of things lies in memory. -/
def RowV {α : Type} (P : World → Nat → Nat → α → Prop) (s : Nat) (w : World) (L : List α) (p : Option Addr) : Prop :=
  L.length ≤ 9223372036854775807 ∧ ∃ B O, (L ≠ [] → p = some ⟨B, O, none⟩) ∧ ∀ (i : Nat) (x : α), L[i]? = some x → P w B (O + i * s) x
theorem RowV.get {α : Type} {P : World → Nat → Nat → α → Prop} {s : Nat} {w : World} {L : List α} {p : Option Addr} (h : RowV P s w L p) {i : Nat} {x : α} (hi : L[i]? = some x) : ∃ B O, p = some ⟨B, O, none⟩ ∧ P w B (O + i * s) x := by
  obtain ⟨-, B, O, h1, h2⟩ := h
  exact ⟨B, O, h1 (by rintro rfl; simp at hi), h2 i x hi⟩
theorem RowV.map {α : Type} {P : World → Nat → Nat → α → Prop} {s : Nat} {w w' : World} {L : List α} {p : Option Addr} (h : RowV P s w L p) (hP : ∀ B O x, P w B O x → P w' B O x) : RowV P s w' L p := by
  obtain ⟨h0, B, O, h1, h2⟩ := h
  exact ⟨h0, B, O, h1, fun i x hi => hP _ _ _ (h2 i x hi)⟩
theorem csat_of {w : World} : ∀ (cs : List Cn) (B O : Nat), (∀ (i : Nat) (x : Cn), cs[i]? = some x → CnP w B (O + i * 5) x) → CsAt w cs B O ∧ CsOk cs
  | [], _, _, _ => ⟨trivial, fun c hc => by cases hc⟩
  | c :: cs, B, O, h => by
    have h0 := h 0 c rfl
    simp only [Nat.zero_mul, Nat.add_zero] at h0
    obtain ⟨q1, q2⟩ := csat_of cs B (O + 5) (fun i x hi => by
      have := h (i + 1) x (by simpa using hi)
      rw [show O + (i + 1) * 5 = O + 5 + i * 5 by omega] at this
      exact this)
    refine ⟨⟨⟨h0.1, h0.2.1.1⟩, h0.2.1.2.1, q1⟩, fun d hd => ?_⟩
    rcases List.mem_cons.1 hd with rfl | hd
    · exact ⟨h0.2.2, h0.2.1.2.2⟩
    · exact q2 d hd
theorem csv_of_row {w : World} {cs : List Cn} {p : Option Addr} (h : RowV CnP 5 w cs p) (hl : cs.length ≤ 32) : CsV w cs p := by
  obtain ⟨-, B, O, h1, h2⟩ := h
  obtain ⟨q1, q2⟩ := csat_of cs B O h2
  exact ⟨⟨B, O, h1, q1⟩, q2, by omega⟩

/-- The slice of the credit. -/
def CrV (w : World) (T : Fo) (p : Option Addr) : Prop := len T ≤ 9223372036854775807 ∧ FoOk T ∧ ∃ b o, (T ≠ .nil → p = some ⟨b, o, none⟩) ∧ FoAt w T b o
theorem CrV.next {w w' : World} {T : Fo} {p : Option Addr} (h : CrV w T p) (hb : Below w.heap.size w w') : CrV w' T p := by
  obtain ⟨h0, h1, b, o, h2, h3⟩ := h
  exact ⟨h0, h1, b, o, h2, h3.next hb⟩

/-- A contract: its numbers and its six rows. -/
structure Ct where
  rep : Int
  rel : Int
  con : Int
  sit : Int
  lay : Int
  nf : Int
  nt : Int
  gua : Int
  cs : List Cn
  rs : List Ru
  os : List Co
  cr : Fo
  ls : List Li
  fs : List Of
/-- The addresses and capacities of its rows. -/
structure Cp where
  cs : Option Addr
  rs : Option Addr
  os : Option Addr
  cr : Option Addr
  ls : Option Addr
  fs : Option Addr
  ccs : Nat
  crs : Nat
  cos : Nat
  ccr : Nat
  cls : Nat
  cfs : Nat
structure CtV (w : World) (c : Ct) (p : Cp) : Prop where
  cs : RowV CnP 5 w c.cs p.cs
  rs : RowV RuP 6 w c.rs p.rs
  os : RowV CoP 5 w c.os p.os
  cr : CrV w c.cr p.cr
  ls : RowV LiP 4 w c.ls p.ls
  fs : RowV OfP 3 w c.fs p.fs
  b0 : Bd c.rep ∧ Bd c.rel ∧ Bd c.con ∧ Bd c.sit ∧ Bd c.lay ∧ Bd c.nf ∧ Bd c.nt ∧ Bd c.gua
  cap : c.cs.length ≤ p.ccs
theorem CtV.next {w w' : World} {c : Ct} {p : Cp} (h : CtV w c p) (hb : Below w.heap.size w w') : CtV w' c p where
  cs := h.cs.map fun _ _ _ q => q.next hb
  rs := h.rs.map fun _ _ _ q => q.next hb
  os := h.os.map fun _ _ _ q => q.next hb
  cr := h.cr.next hb
  ls := h.ls.map fun _ _ _ q => q.next hb
  fs := h.fs.map fun _ _ _ q => q.next hb
  b0 := h.b0
  cap := h.cap

def dupB {α : Type} [DecidableEq α] (L : List α) (x : α) : Bool := decide (x ∈ L)
theorem dupB_snoc {α : Type} [DecidableEq α] (L : List α) (y x : α) : dupB (L ++ [y]) x = (dupB L x || decide (x = y)) := by
  unfold dupB
  rw [Bool.eq_iff_iff]
  simp

def scB (sc : Int) : Bool := decide (1 ≤ sc ∧ sc ≤ 3)
def measWords : List (List UInt8) × List (List UInt8) := ([[98, 108, 111, 99, 107], [115, 112, 97, 110], [110, 105, 103, 104, 116], [99, 114, 101, 100, 105, 116]], [[108, 101, 103, 115], [104, 101, 97, 100, 115], [100, 117, 116, 105, 101, 115]])
/-- The type of the amounts of a measure: 2 a duration, 1 a number, 0 none. -/
def measT (s : ByteArray) : Int := if measWords.1.any (fun x => s.data.toList == x) = true then 2 else if measWords.2.any (fun x => s.data.toList == x) = true then 1 else 0

def conAt (cs : List Cn) (j : Nat) : Int := match cs[j]? with
  | none => 0
  | some c => if declS c.name = false then 1 else if dupB ((cs.take j).map (·.name)) c.name = true then 7 else valE c.a c.k
def rulAt (rs : List Ru) (j : Nat) : Int := match rs[j]? with
  | none => 0
  | some r => if scB r.sc = false ∨ declS r.name = false then 1 else if dupB ((rs.take j).map fun r => (r.sc, r.name)) (r.sc, r.name) = true then 7 else valE r.a r.k
def cosAt (os : List Co) (j : Nat) : Int := match os[j]? with
  | none => 0
  | some r => if scB r.sc = false then 1 else valE r.a r.k
def creE : Fo → Int
  | .nil => 0
  | .node _ _ a k r => orE (valE a k) (creE r)
def limAt (ls : List Li) (j : Nat) : Int := match ls[j]? with
  | none => 0
  | some l => if declS l.name = false then 1 else if dupB ((ls.take j).map (·.name)) l.name = true then 7 else if measT l.meas = 0 then 6 else if (0 ≤ l.most ∧ l.most ≤ 599999) ∧ (1 ≤ l.days ∧ l.days ≤ 31) then 0 else 5
def offAt (ls : List Li) (fs : List Of) (j : Nat) : Int := match fs[j]? with
  | none => 0
  | some f => if declS f.name = false then 1 else if dupB (ls.map (·.name) ++ (fs.take j).map (·.name)) f.name = true then 7 else if (1 ≤ f.days ∧ f.days ≤ 31) ∧ (1 ≤ f.count ∧ f.count ≤ f.days) then 0 else 5
def rngB (c : Ct) : Bool := decide ((0 ≤ c.rep ∧ c.rep ≤ 1440) ∧ (0 ≤ c.rel ∧ c.rel ≤ 1440) ∧ (0 ≤ c.con ∧ c.con ≤ 1440) ∧ (c.con ≤ c.sit ∧ c.sit ≤ 1440) ∧ (0 ≤ c.lay ∧ c.lay ≤ 10080) ∧ (0 ≤ c.nf ∧ c.nf ≤ 1439) ∧ (0 ≤ c.nt ∧ c.nt ≤ 1439) ∧ (0 ≤ c.gua ∧ c.gua ≤ 599999))
def lenB (c : Ct) : Bool := decide (c.cs.length ≤ 32 ∧ c.rs.length ≤ 40 ∧ c.os.length ≤ 16 ∧ len c.cr ≤ 1 ∧ c.ls.length ≤ 16 ∧ c.fs.length ≤ 16)
def conE (c : Ct) : Int := fe (conAt c.cs) 0 c.cs.length
def rulE (c : Ct) : Int := fe (rulAt c.rs) 0 c.rs.length
def cosE (c : Ct) : Int := fe (cosAt c.os) 0 c.os.length
def limE (c : Ct) : Int := fe (limAt c.ls) 0 c.ls.length
def offE (c : Ct) : Int := fe (offAt c.ls c.fs) 0 c.fs.length
def winE (c : Ct) : Int := orE (limE c) (offE c)
/-- What grammar.Validate answers. -/
def gvalC (c : Ct) : Int := if rngB c = false then 5 else if lenB c = false then 10 else orE (conE c) (orE (rulE c) (orE (cosE c) (orE (creE c.cr) (winE c))))

/-- A set of things, kept as a map to true. -/
def SetM {α : Type} [DecidableEq α] (P : Program) (kt bt : TypeId) (key : α → Value) (w : World) (b : Nat) (L : List α) : Prop :=
  ∃ D : DataW Unit, w.ownsMap P kt (plainElem P bt) b L.length D ∧ IsMap D ∧ ∀ (x : α) (kl : Lit), keyOf P kt (key x) = some kl → D.atKey kl (.lit (.bool false)) = .lit (.bool (dupB L x))
theorem SetM.start {α : Type} [DecidableEq α] (P : Program) (kt bt : TypeId) (key : α → Value) (w : World) : SetM P kt bt key (w.alloc (.map #[] 0)) w.heap.size [] :=
  ⟨.map [], World.ownsMap_made _ _ _ _, ⟨[], rfl⟩, fun x kl _ => by simp [dupB]; rfl⟩
theorem SetM.kept {α : Type} [DecidableEq α] {P : Program} {kt bt : TypeId} {key : α → Value} {w w' : World} {b : Nat} {L : List α} {row : Option Nat} (h : SetM P kt bt key w b L) (hg : w.grownBy w' row) (hne : some b ≠ row) : SetM P kt bt key w' b L := by
  obtain ⟨D, h1, h2, h3⟩ := h
  exact ⟨D, h1.kept hg hne, h2, h3⟩
theorem SetM.next {α : Type} [DecidableEq α] {P : Program} {kt bt : TypeId} {key : α → Value} {w w' : World} {b : Nat} {L : List α} (h : SetM P kt bt key w b L) (hb : Below w.heap.size w w') : SetM P kt bt key w' b L :=
  h.kept (gb_of_below hb none) (by simp)
theorem SetM.lt {α : Type} [DecidableEq α] {P : Program} {kt bt : TypeId} {key : α → Value} {w : World} {b : Nat} {L : List α} (h : SetM P kt bt key w b L) : b < w.heap.size := by
  obtain ⟨D, h1, -⟩ := h
  exact h1.lt
theorem plainElem_bool_inv {P : Program} {e : TypeId} (he : P.underlying e = some .bool) {v : Value} {z : DataW Unit × List MemPlace} (h : plainElem P e v = some z) : ∃ x, v = .bool x ∧ z = (.lit (.bool x), []) := by
  cases v <;> simp [plainElem, he] at h
  exact ⟨_, rfl, h.symm⟩
theorem SetM.look {α : Type} [DecidableEq α] {P : Program} {kt bt mt : TypeId} {key : α → Value} {w : World} {b : Nat} {L : List α} (h : SetM P kt bt key w b L) (K : Go.Maps.Keyed P kt) (ht : P.underlying mt = some (.map kt bt)) (hb : P.underlying bt = some .bool) (hz : (zeroValue bt).run P w = .ok (.bool false) w)
    (x : α) {kl : Lit} (hk : keyOf P kt (key x) = some kl) : (Instr.lookup mt (.map (some b)) (key x) false).run P w = .ok (.bool (dupB L x)) w := by
  obtain ⟨D, h1, h2, h3⟩ := h
  obtain ⟨v, ps, hrun, hv⟩ := h1.lookup K ht hz (plainElem_bool hb false) hk
  obtain ⟨c, rfl, hc⟩ := plainElem_bool_inv hb hv
  have q := h3 x kl hk
  have e := congrArg Prod.fst hc
  have h9 : (DataW.lit (Lit.bool c) : DataW Unit) = .lit (.bool (dupB L x)) := e.symm.trans q
  injection h9 with h9
  injection h9 with h9
  rw [← h9]
  exact hrun
theorem SetM.put {α : Type} [DecidableEq α] {P : Program} {kt bt mt : TypeId} {key : α → Value} {w : World} {b : Nat} {L : List α} (h : SetM P kt bt key w b L) (K : Go.Maps.Keyed P kt) (ht : P.underlying mt = some (.map kt bt)) (hb : P.underlying bt = some .bool) (hl : L.length < maxLen) (hinj : ∀ x y, key x = key y → x = y)
    (x : α) {kl : Lit} (hk : keyOf P kt (key x) = some kl) : ∃ w', (Instr.mapUpdate mt (.map (some b)) (key x) (.bool true)).run P w = .ok () w' ∧ SetM P kt bt key w' b (L ++ [x]) ∧ w.grownBy w' (some b) := by
  obtain ⟨D, h1, h2, h3⟩ := h
  obtain ⟨w', hrun, ho, hg⟩ := h1.update K ht hl hk (plainElem_bool hb true)
  refine ⟨w', hrun, ⟨_, by rw [List.length_append]; exact ho, h2.put _ _, fun y ky hy => ?_⟩, hg⟩
  rw [dupB_snoc]
  by_cases e : y = x
  · subst e
    obtain rfl : ky = kl := Option.some.inj (hy.symm.trans hk)
    rw [Go.Maps.atKey_put_same h2 (K.key hk)]
    simp
  · have hne : ky ≠ kl := fun q => e (hinj _ _ (K.inj hy (q ▸ hk)))
    rw [Go.Maps.atKey_put_other hne, h3 y ky hy]
    simp [e]

end Go.Proofs.Ytjdjbjblblmdjaa
