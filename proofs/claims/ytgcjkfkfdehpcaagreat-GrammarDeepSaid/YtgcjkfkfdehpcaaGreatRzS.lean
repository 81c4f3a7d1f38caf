/-
  The reference's parser in memory; the contracts of sees, takes, wants and fails.
-/
import Derived.Test.YtgcjkfkfdehpcaaGreatPzS
import Derived.Test.YtgcjkfkfdehpcaaGreatGc
namespace Go.Proofs.YtgcjkfkfdehpcaaGreat
set_option linter.unusedVariables false
set_option linter.unusedSimpArgs false
open Go.ChangeShapes Go.WideShapes Go.ChangeAt Go.RowKit
open Go.Deep (BT)

/-- The reference's parser at block sb: it stands at token a; b: the first token that cannot be, -1 without one. -/
structure RSt (w : World) (sb : Nat) (L : List Tk.T4) (p : Option Addr) (cap : Nat) (a b : Int) : Prop where
  c0 : w.cell? ⟨sb, 0, none⟩ = some (.slice p L.length cap)
  c1 : w.cell? ⟨sb, 1, none⟩ = some (.int .i64 a)
  c2 : w.cell? ⟨sb, 2, none⟩ = some (.int .i64 b)
  f1 : w.frozen? ⟨sb, 1, none⟩ = false
  f2 : w.frozen? ⟨sb, 2, none⟩ = false
  lt : sb < w.heap.size
  ls : TkB w L p sb
theorem RSt.below {w w' : World} {sb : Nat} {L : List Tk.T4} {p : Option Addr} {cap B0 : Nat} {a b : Int} (h : RSt w sb L p cap a b) (hb : Below B0 w w') (hs : sb < B0) : RSt w' sb L p cap a b where
  c0 := by rw [hb.cell (p := ⟨sb, 0, none⟩) hs]; exact h.c0
  c1 := by rw [hb.cell (p := ⟨sb, 1, none⟩) hs]; exact h.c1
  c2 := by rw [hb.cell (p := ⟨sb, 2, none⟩) hs]; exact h.c2
  f1 := by rw [hb.frozen (p := ⟨sb, 1, none⟩) hs]; exact h.f1
  f2 := by rw [hb.frozen (p := ⟨sb, 2, none⟩) hs]; exact h.f2
  lt := Nat.lt_of_lt_of_le h.lt hb.size
  ls := h.ls.below hb (Nat.le_of_lt hs)
theorem RSt.next {w w' : World} {sb : Nat} {L : List Tk.T4} {p : Option Addr} {cap : Nat} {a b : Int} (h : RSt w sb L p cap a b) (hb : Below w.heap.size w w') : RSt w' sb L p cap a b := h.below hb h.lt
theorem RSt.setA {w : World} {sb : Nat} {L : List Tk.T4} {p : Option Addr} {cap : Nat} {a b : Int} (h : RSt w sb L p cap a b) (x : Int) : RSt (w.setCell ⟨sb, 1, none⟩ (.int .i64 x)) sb L p cap x b ∧ w.grownBy (w.setCell ⟨sb, 1, none⟩ (.int .i64 x)) (some sb) := by
  obtain ⟨h0, h1, h2, hf1, hf2, hl, hs⟩ := h
  refine ⟨⟨by simp [go_sem, h0, h1], by simp [go_sem, h1], by simp [go_sem, h1, h2], by simp [go_sem, hf1], by simp [go_sem, hf2], by simp [World.setCell]; exact hl, hs.below ((Below.refl _ _).setCell (Nat.le_refl _) _) (Nat.le_refl _)⟩, ?_⟩
  exact ⟨rfl, rfl, rfl, by simp [World.setCell], fun k hk hr => Below.heap_setCell _ _ _ _ (fun e => hr (by rw [e]))⟩
theorem RSt.setB {w : World} {sb : Nat} {L : List Tk.T4} {p : Option Addr} {cap : Nat} {a b : Int} (h : RSt w sb L p cap a b) (x : Int) : RSt (w.setCell ⟨sb, 2, none⟩ (.int .i64 x)) sb L p cap a x ∧ w.grownBy (w.setCell ⟨sb, 2, none⟩ (.int .i64 x)) (some sb) := by
  obtain ⟨h0, h1, h2, hf1, hf2, hl, hs⟩ := h
  refine ⟨⟨by simp [go_sem, h0, h2], by simp [go_sem, h1, h2], by simp [go_sem, h2], by simp [go_sem, hf1], by simp [go_sem, hf2], by simp [World.setCell]; exact hl, hs.below ((Below.refl _ _).setCell (Nat.le_refl _) _) (Nat.le_refl _)⟩, ?_⟩
  exact ⟨rfl, rfl, rfl, by simp [World.setCell], fun k hk hr => Below.heap_setCell _ _ _ _ (fun e => hr (by rw [e]))⟩
/-- All is well, and it stands at token i. -/
def RGd (sb : Nat) (L : List Tk.T4) (p : Option Addr) (cap i : Nat) (w : World) : Prop := RSt w sb L p cap i (-1) ∧ i ≤ L.length
/-- It has failed at token j. -/
def RBd (sb : Nat) (L : List Tk.T4) (p : Option Addr) (cap j : Nat) (w : World) : Prop := ∃ a : Int, RSt w sb L p cap a j
/-- What an answer tells of the parser. -/
def RSO (sb : Nat) (L : List Tk.T4) (p : Option Addr) (cap : Nat) (o : Option Ch) (j : Nat) : World → Prop := match o with
  | some _ => RGd sb L p cap j
  | none => RBd sb L p cap j
theorem rgd_cl (sb : Nat) (L : List Tk.T4) (p : Option Addr) (cap i : Nat) : ∀ W W' : World, RGd sb L p cap i W → Below (sb + 1) W W' → RGd sb L p cap i W' := fun W W' h hb => ⟨h.1.below hb (Nat.lt_succ_self _), h.2⟩
theorem rbd_cl (sb : Nat) (L : List Tk.T4) (p : Option Addr) (cap i : Nat) : ∀ W W' : World, RBd sb L p cap i W → Below (sb + 1) W W' → RBd sb L p cap i W' := fun W W' h hb => by
  obtain ⟨a, h⟩ := h
  exact ⟨a, h.below hb (Nat.lt_succ_self _)⟩
theorem rso_cl (sb : Nat) (L : List Tk.T4) (p : Option Addr) (cap : Nat) (o : Option Ch) (j : Nat) : ∀ W W' : World, RSO sb L p cap o j W → Below (sb + 1) W W' → RSO sb L p cap o j W' := by
  cases o with
  | none => exact rbd_cl sb L p cap j
  | some x => exact rgd_cl sb L p cap j
set_option maxHeartbeats 600000 in
set_option maxRecDepth 100000 in
theorem sees_any (sb : Nat) (L : List Tk.T4) (p : Option Addr) (cap i : Nat) (s : ByteArray) (w : World) (h : RGd sb L p cap i w) :
    Calls Tryz.prog 67 #[.pointer (some ⟨sb, 0, none⟩), .string s] w fun e w' => e = .returned (.bool (Pz.isw L i s)) ∧ Below w.heap.size w w' := by
  have H := Lib.hid h.1
  have hle := h.2
  have c0 := h.1.c0
  have c1 := h.1.c1
  have c2 := h.1.c2
  have hlt := h.1.lt
  have hL : L.length ≤ 400 := h.1.ls.1
  clear h
  have hb0 : ¬ (0 : Int) ≤ -1 := by omega
  by_cases hi : i < L.length
  · have hi' : ¬ (L.length : Int) ≤ (i : Int) := by omega
    have hi2 : (i : Int) < (L.length : Int) := by omega
    have hi3 : (0 : Int) ≤ (i : Int) := by omega
    obtain ⟨t, ht⟩ : ∃ t, L[i]? = some t := ⟨_, List.getElem?_eq_getElem hi⟩
    obtain ⟨g, O, rfl, hg, d0, d1, d2, d3⟩ := H.out.ls.get ht
    have HI := Lib.hid (isw_some (s := s) ht)
    clear ht
    go_enter Tryz.func67, Tryz.ntmps67
    go_wp2_with fail
    go_quiet (fail)
    go_wp2_with fail
    have B1 : Hid (Below w.heap.size w (w.drewN nq)) := below_drewN (Below.refl _ _) _
    have z1 : w.heap.size ≤ (w.drewN nq).heap.size := B1.out.size
    have c0 : (w.drewN nq).cell? ⟨sb, 0, none⟩ = some (.slice (some ⟨g, O, none⟩) L.length cap) := c0
    have c1 : (w.drewN nq).cell? ⟨sb, 1, none⟩ = some (.int .i64 i) := c1
    have d0 : (w.drewN nq).cell? ⟨g, O + i * 4, none⟩ = some (.int .i64 t.t.kind) := d0
    have d1 : (w.drewN nq).cell? ⟨g, O + i * 4 + 1, none⟩ = some (.string t.t.text) := d1
    have d2 : (w.drewN nq).cell? ⟨g, O + i * 4 + 2, none⟩ = some (.int .i64 t.t.num) := d2
    have d3 : (w.drewN nq).cell? ⟨g, O + i * 4 + 3, none⟩ = some (.int .i64 t.at') := d3
    generalize w.drewN nq = w1 at *
    have n0 := World.new_ne w1 ⟨sb, 0, none⟩ c0
    have n1 := World.new_ne w1 ⟨sb, 1, none⟩ c1
    have m0 := World.new_ne w1 ⟨g, O + i * 4, none⟩ d0
    go_region_held3 (fun w' => w'.cell? ⟨sb, 0, none⟩ = some (.slice (some ⟨g, O, none⟩) L.length cap) ∧ w'.cell? ⟨sb, 1, none⟩ = some (.int .i64 i) ∧ w'.cell? ⟨g, O + i * 4, none⟩ = some (.int .i64 t.t.kind) ∧ w'.cell? ⟨g, O + i * 4 + 1, none⟩ = some (.string t.t.text) ∧ w'.cell? ⟨g, O + i * 4 + 2, none⟩ = some (.int .i64 t.t.num) ∧ w'.cell? ⟨g, O + i * 4 + 3, none⟩ = some (.int .i64 t.at')) (go_keep) (fail)
    clear c0 c1 d0 d1 d2 d3
    go_wp2
    all_goals
      go_ret
      refine ⟨ret_bool ?_, (B1.out.drew).alloc z1 _⟩
      rw [HI.out]
      first | (simp [*, Lib.toList_data]; done) | (simp [*, Lib.toList_data]; rw [Bool.eq_iff_iff]; simp; done) | (simp [*, Lib.toList_data]; rw [Bool.eq_iff_iff, beq_iff_eq, decide_eq_true_eq])
  · have hi' : (L.length : Int) ≤ (i : Int) := by omega
    go_enter Tryz.func67, Tryz.ntmps67
    go_wp2_with fail
    go_quiet (fail)
    go_wp2
    go_ret
    exact ⟨ret_bool (isw_none (by omega)).symm, below_drewN (Below.refl _ _) _⟩
set_option maxHeartbeats 600000 in
set_option maxRecDepth 100000 in
theorem sees_bad (sb : Nat) (L : List Tk.T4) (p : Option Addr) (cap j : Nat) (s : ByteArray) (w : World) (h : RBd sb L p cap j w) :
    Calls Tryz.prog 67 #[.pointer (some ⟨sb, 0, none⟩), .string s] w fun e w' => e = .returned (.bool false) ∧ Below w.heap.size w w' := by
  obtain ⟨a, h⟩ := h
  have c2 := h.c2
  have hlt := h.lt
  have hj : (0 : Int) ≤ (j : Int) := by omega
  clear h
  go_enter Tryz.func67, Tryz.ntmps67
  go_wp2_with fail
  go_quiet (fail)
  go_wp2
  go_ret
  exact ⟨rfl, below_drewN (Below.refl _ _) _⟩
set_option maxHeartbeats 600000 in
set_option maxRecDepth 100000 in
theorem takes_no (sb : Nat) (L : List Tk.T4) (p : Option Addr) (cap i : Nat) (s : ByteArray) (w : World) (h : RGd sb L p cap i w) (hq : Pz.isw L i s = false) :
    Calls Tryz.prog 48 #[.pointer (some ⟨sb, 0, none⟩), .string s] w fun e w' => e = .returned (.bool false) ∧ Below w.heap.size w w' := by
  have PK := Lib.hid (sees_any sb L p cap i s w h)
  rw [hq] at PK
  clear h hq
  go_enter Tryz.func48, Tryz.ntmps48
  go_wp2_with fail
  refine PK.out.mono ?_
  rintro e w1 ⟨rfl, hb⟩
  have B := Lib.hid hb
  clear hb
  go_wp2
  go_ret
  exact ⟨rfl, B.out⟩
set_option maxHeartbeats 600000 in
set_option maxRecDepth 100000 in
theorem takes_bad (sb : Nat) (L : List Tk.T4) (p : Option Addr) (cap j : Nat) (s : ByteArray) (w : World) (h : RBd sb L p cap j w) :
    Calls Tryz.prog 48 #[.pointer (some ⟨sb, 0, none⟩), .string s] w fun e w' => e = .returned (.bool false) ∧ Below w.heap.size w w' := by
  have PK := Lib.hid (sees_bad sb L p cap j s w h)
  clear h
  go_enter Tryz.func48, Tryz.ntmps48
  go_wp2_with fail
  refine PK.out.mono ?_
  rintro e w1 ⟨rfl, hb⟩
  have B := Lib.hid hb
  clear hb
  go_wp2
  go_ret
  exact ⟨rfl, B.out⟩
set_option maxHeartbeats 600000 in
set_option maxRecDepth 100000 in
theorem takes_yes (sb : Nat) (L : List Tk.T4) (p : Option Addr) (cap i : Nat) (s : ByteArray) (w : World) (h : RGd sb L p cap i w) (hq : Pz.isw L i s = true) :
    Calls Tryz.prog 48 #[.pointer (some ⟨sb, 0, none⟩), .string s] w fun e w' => e = .returned (.bool true) ∧ RGd sb L p cap (i + 1) w' ∧ w.grownBy w' (some sb) := by
  have PK := Lib.hid (sees_any sb L p cap i s w h)
  have hi := Pz.isw_lt hq
  have H := Lib.hid h.1
  have hL := h.1.ls.1
  rw [hq] at PK
  clear h hq
  go_enter Tryz.func48, Tryz.ntmps48
  go_wp2_with fail
  refine PK.out.mono ?_
  rintro e w1 ⟨rfl, hb⟩
  have S1 := Lib.hid (H.out.next hb)
  have G1 : Hid (w.grownBy w1 (some sb)) := gb_of_below hb _
  have c1 := S1.out.c1
  have f1 := S1.out.f1
  have hlt := S1.out.lt
  clear hb
  go_wp2
  go_ret
  exact ⟨rfl, ⟨(S1.out.setA _).1, hi⟩, gb_trans G1.out (S1.out.setA _).2⟩
set_option maxHeartbeats 600000 in
set_option maxRecDepth 100000 in
theorem fails_any (sb : Nat) (L : List Tk.T4) (p : Option Addr) (cap i : Nat) (w : World) (h : RGd sb L p cap i w) :
    Calls Tryz.prog 29 #[.pointer (some ⟨sb, 0, none⟩)] w fun e w' => e = .returned (.agg #[.int .i64 0, .int .i64 0, .string ⟨#[]⟩, .slice none 0 0]) ∧ RBd sb L p cap i w' ∧ w.grownBy w' (some sb) := by
  have H := Lib.hid h.1
  have c1 := h.1.c1
  have c2 := h.1.c2
  have f2 := h.1.f2
  have hlt := h.1.lt
  have hb0 : (-1 : Int) < 0 := by omega
  clear h
  have B0 : Hid (Below w.heap.size w (w.alloc (.cells #[.int .i64 0, .int .i64 0, .string ⟨#[]⟩, .slice none 0 0] 25))) := (Below.refl _ _).alloc (Nat.le_refl _) _
  go_enter Tryz.func29, Tryz.ntmps29
  go_wp2
  refine bodyPost_ret (v := .agg #[.int .i64 0, .int .i64 0, .string ⟨#[]⟩, .slice none 0 0]) ?_ rfl ⟨rfl, ⟨i, ((H.out.setB i).1.next ((Below.refl _ _).alloc (Nat.le_refl _) _))⟩, Pz.gb_next (H.out.setB i).2 (((Below.refl _ _).alloc (by simp) _))⟩
  rw [results_cell1 rfl]
  go_simp
set_option maxHeartbeats 600000 in
set_option maxRecDepth 100000 in
theorem fails_bad (sb : Nat) (L : List Tk.T4) (p : Option Addr) (cap j : Nat) (w : World) (h : RBd sb L p cap j w) :
    Calls Tryz.prog 29 #[.pointer (some ⟨sb, 0, none⟩)] w fun e w' => e = .returned (.agg #[.int .i64 0, .int .i64 0, .string ⟨#[]⟩, .slice none 0 0]) ∧ Below w.heap.size w w' := by
  obtain ⟨a, h⟩ := h
  have c2 := h.c2
  have hlt := h.lt
  have hj : ¬ (j : Int) < 0 := by omega
  clear h
  go_enter Tryz.func29, Tryz.ntmps29
  go_wp2
  refine bodyPost_ret (v := .agg #[.int .i64 0, .int .i64 0, .string ⟨#[]⟩, .slice none 0 0]) ?_ rfl ⟨rfl, (Below.refl _ _).alloc (Nat.le_refl _) _⟩
  rw [results_cell1 rfl]
  go_simp
set_option maxHeartbeats 600000 in
set_option maxRecDepth 100000 in
theorem wants_yes (sb : Nat) (L : List Tk.T4) (p : Option Addr) (cap i : Nat) (s : ByteArray) (w : World) (h : RGd sb L p cap i w) (hq : Pz.isw L i s = true) :
    Calls Tryz.prog 104 #[.pointer (some ⟨sb, 0, none⟩), .string s] w fun e w' => e = .returned (.tuple #[]) ∧ RGd sb L p cap (i + 1) w' ∧ w.grownBy w' (some sb) := by
  have PK := Lib.hid (takes_yes sb L p cap i s w h hq)
  clear h hq
  go_enter Tryz.func104, Tryz.ntmps104
  go_wp2_with fail
  refine PK.out.mono ?_
  rintro e w1 ⟨rfl, hs, hg⟩
  have S1 := Lib.hid (And.intro hs hg)
  clear hs hg
  go_wp2
  go_end0
  exact ⟨rfl, S1.out.1, S1.out.2⟩
set_option maxHeartbeats 600000 in
set_option maxRecDepth 100000 in
theorem wants_no (sb : Nat) (L : List Tk.T4) (p : Option Addr) (cap i : Nat) (s : ByteArray) (w : World) (h : RGd sb L p cap i w) (hq : Pz.isw L i s = false) :
    Calls Tryz.prog 104 #[.pointer (some ⟨sb, 0, none⟩), .string s] w fun e w' => e = .returned (.tuple #[]) ∧ RBd sb L p cap i w' ∧ w.grownBy w' (some sb) := by
  have PK := Lib.hid (takes_no sb L p cap i s w h hq)
  have H := Lib.hid h
  have hlt := h.1.lt
  clear h hq
  go_enter Tryz.func104, Tryz.ntmps104
  go_wp2_with fail
  refine PK.out.mono ?_
  rintro e w1 ⟨rfl, hb⟩
  have S1 := Lib.hid (rgd_cl _ _ _ _ _ _ _ H.out (hb.mono hlt))
  have B1 : Hid (w.grownBy w1 (some sb)) := gb_of_below hb _
  clear hb
  go_wp2_with fail
  refine (fails_any sb L p cap i w1 S1.out).mono ?_
  rintro e w2 ⟨rfl, hs, hg⟩
  have S2 := Lib.hid (And.intro hs hg)
  clear hs hg
  go_wp2
  go_end0
  exact ⟨rfl, S2.out.1, gb_trans B1.out S2.out.2⟩
set_option maxHeartbeats 600000 in
set_option maxRecDepth 100000 in
theorem wants_bad (sb : Nat) (L : List Tk.T4) (p : Option Addr) (cap j : Nat) (s : ByteArray) (w : World) (h : RBd sb L p cap j w) :
    Calls Tryz.prog 104 #[.pointer (some ⟨sb, 0, none⟩), .string s] w fun e w' => e = .returned (.tuple #[]) ∧ Below w.heap.size w w' := by
  have PK := Lib.hid (takes_bad sb L p cap j s w h)
  have H := Lib.hid h
  have hlt : sb < w.heap.size := by obtain ⟨a, h⟩ := h; exact h.lt
  clear h
  go_enter Tryz.func104, Tryz.ntmps104
  go_wp2_with fail
  refine PK.out.mono ?_
  rintro e w1 ⟨rfl, hb⟩
  have S1 := Lib.hid (rbd_cl _ _ _ _ _ _ _ H.out (hb.mono hlt))
  have B1 := Lib.hid hb
  clear hb
  go_wp2_with fail
  refine (fails_bad sb L p cap j w1 S1.out).mono ?_
  rintro e w2 ⟨rfl, hb⟩
  have B2 := Lib.hid (B1.out.trans (hb.mono B1.out.size))
  clear hb
  go_wp2
  go_end0
  exact ⟨rfl, B2.out⟩

/-- What a function of the reference's parser leaves. -/
def RFin (w : World) (sb : Nat) (gv : List Ch) (L : List Tk.T4) (p : Option Addr) (cap : Nat) (r : Pz.R) (e : Ending) (w' : World) : Prop :=
  ∃ c : Ch, e = .returned (.agg #[.int .i64 c.a.op, .int .i64 c.a.num, .string c.a.name, .slice c.a.ptr (len c.k) c.a.cap]) ∧ Pz.Fin w sb gv (RSO sb L p cap r.1 r.2) r.1 c w'
/-- Where all is well. -/
def RC (f : FuncId) (L : List Tk.T4) (nt : Pz.NT) (i : Nat) : Prop := ∀ (sb : Nat) (p : Option Addr) (cap : Nat) (w : World), RGd sb L p cap i w →
  Calls Tryz.prog f #[.pointer (some ⟨sb, 0, none⟩)] w (RFin w sb [] L p cap (Pz.pv L nt i))
/-- Where it has failed. -/
def RB (f : FuncId) (L : List Tk.T4) : Prop := ∀ (sb : Nat) (p : Option Addr) (cap j : Nat) (w : World), RBd sb L p cap j w →
  Calls Tryz.prog f #[.pointer (some ⟨sb, 0, none⟩)] w (RFin w sb [] L p cap (none, j))
theorem rgd_lt {sb : Nat} {L : List Tk.T4} {p : Option Addr} {cap i : Nat} {w : World} (h : RGd sb L p cap i w) : sb < w.heap.size := h.1.lt
theorem rbd_lt {sb : Nat} {L : List Tk.T4} {p : Option Addr} {cap i : Nat} {w : World} (h : RBd sb L p cap i w) : sb < w.heap.size := by obtain ⟨a, h⟩ := h; exact h.lt
namespace Pz
/-- A node whose row is new, stored into the box at the head. -/
theorem Env.putNode {w W : World} {sb : Nat} {St : World → Prop} {gv : List Ch} {bs : List (Nat × Ch)} {ts : List Ch} {k : Nat} {z : Ch} (E : Env w W sb St gv ((k, z) :: bs) ts) (l : List Ch) (op : Int) (n : Nat) (hn : l.length = n) (o : Option Ch) (ho : ∀ x, o = some x → (∀ c ∈ l, c ∈ ts) ∧ tn op (l.map nr) = x) (cells : Array Value) (hc : cells = (rowC l).toArray) (t : TypeId) :
    ∃ ts', Env w (((((W.setCell ⟨k, 0, none⟩ (.int .i64 op)).setCell ⟨k, 1, none⟩ (.int .i64 0)).setCell ⟨k, 2, none⟩ (.string ⟨#[]⟩)).setCell ⟨k, 3, none⟩ (.slice (some ⟨W.heap.size, 0, none⟩) n n)).alloc (.cells cells t)) sb St gv ((k, ⟨W.heap.size, 0, ⟨op, 0, ⟨#[]⟩, some ⟨W.heap.size, 0, none⟩, n⟩, rowF l⟩) :: bs) ts' ∧
      ∀ x, o = some x → nr (⟨W.heap.size, 0, ⟨op, 0, ⟨#[]⟩, some ⟨W.heap.size, 0, none⟩, n⟩, rowF l⟩ : Ch) = x ∧ (⟨W.heap.size, 0, ⟨op, 0, ⟨#[]⟩, some ⟨W.heap.size, 0, none⟩, n⟩, rowF l⟩ : Ch) ∈ ts' := by
  have P := E.put4 (⟨W.heap.size, 0, ⟨op, 0, ⟨#[]⟩, some ⟨W.heap.size, 0, none⟩, n⟩, rowF l⟩ : Ch) (v0 := .int .i64 op) (v1 := .int .i64 0) (v2 := .string ⟨#[]⟩) (v3 := .slice (some ⟨W.heap.size, 0, none⟩) n n) rfl rfl rfl (by rw [rowF_len, hn])
  have hz : ((((W.setCell ⟨k, 0, none⟩ (.int .i64 op)).setCell ⟨k, 1, none⟩ (.int .i64 0)).setCell ⟨k, 2, none⟩ (.string ⟨#[]⟩)).setCell ⟨k, 3, none⟩ (.slice (some ⟨W.heap.size, 0, none⟩) n n)).heap.size = W.heap.size := by simp
  generalize ((((W.setCell ⟨k, 0, none⟩ (.int .i64 op)).setCell ⟨k, 1, none⟩ (.int .i64 0)).setCell ⟨k, 2, none⟩ (.string ⟨#[]⟩)).setCell ⟨k, 3, none⟩ (.slice (some ⟨W.heap.size, 0, none⟩) n n)) = V at *
  cases o with
  | none => exact ⟨ts, P.below ((Below.refl _ _).alloc (Nat.le_refl _) _), fun x hx => by cases hx⟩
  | some x =>
    obtain ⟨h1, h2⟩ := ho x rfl
    have Q := P.node l h1 op cells hc t n
    rw [hz] at Q
    exact ⟨_, Q, fun y hy => by cases hy; exact ⟨by rw [nr_node, h2], by simp⟩⟩
end Pz

end Go.Proofs.YtgcjkfkfdehpcaaGreat
