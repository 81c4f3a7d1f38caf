/-
  The contract of pairinglaw13.leaf, and the walk of TypesPairs.
-/
import Derived.Test.YtijbjnbbglcacaaAwk
import Derived.Deep.AppendLies
import Derived.Deep.RegionLaw
import Derived.Deep.DeepCutAuto
import Derived.Laws.BitsLemmas
namespace Go.Proofs.Ytijbjnbbglcacaa
set_option linter.unusedVariables false
set_option linter.unusedSimpArgs false
open Go.ChangeShapes Go.WideShapes Go.ChangeAt Go.RowKit
open Go.Deep (BT)

/-- A leaf: no arguments. -/
def LeafOk (a : Nd) : Prop := NdOk a 0 ∧ a.ptr = none ∧ a.cap = 0
def leafC (a : Nd) : List Value := [.int .i64 a.op, .int .i64 a.num, .string a.name, .slice none 0 0]

theorem and_65535 (n : Int) : bits .and .i64 n 65535 = n % 65536 := by
  have h127 : (BitVec.ofInt 64 65535).toNat = 2 ^ 16 - 1 := by decide
  have key : (BitVec.ofInt 64 n &&& BitVec.ofInt 64 65535).toNat = (n % ((2 ^ 64 : Nat) : Int)).toNat % 2 ^ 16 := by
    rw [BitVec.toNat_and, BitVec.toNat_ofInt, h127, Nat.and_two_pow_sub_one_eq_mod]
  show IntKind.i64.wrap ((BitVec.ofInt 64 n &&& BitVec.ofInt 64 65535).toNat : Nat) = n % 65536
  rw [key, IntKind.wrap_i64]
  omega
theorem tmod_bd (z k : Int) (h : 0 ≤ z) (hk : 0 < k) : 0 ≤ z.tmod k ∧ z.tmod k < k := by
  rw [Int.tmod_eq_emod_of_nonneg h]
  exact ⟨Int.emod_nonneg _ (by omega), Int.emod_lt_of_pos _ hk⟩

set_option maxHeartbeats 4000000 in
set_option maxRecDepth 100000 in
theorem leaf_any (n : Int) (w : World) : Calls Try.prog 15 #[.int .i64 n] w fun e w' => (∃ a : Nd, e = .returned (.agg #[.int .i64 a.op, .int .i64 a.num, .string a.name, .slice none 0 0]) ∧ LeafOk a) ∧ Below w.heap.size w w' := by
  obtain ⟨c, hc⟩ : ∃ c, (bits BinOp.and IntKind.i64 n 65535).tmod 5 = c := ⟨_, rfl⟩
  have hcb : 0 ≤ c ∧ c < 5 := by rw [← hc]; exact tmod_bd _ _ (by rw [and_65535]; omega) (by omega)
  have hcc : c = 0 ∨ c = 1 ∨ c = 2 ∨ c = 3 ∨ c = 4 := by omega
  clear hcb
  go_enter Try.func15, Try.ntmps15
  rcases hcc with rfl | rfl | rfl | rfl | rfl
  · go_wp2
    refine bodyPost_ret (v := .agg #[.int .i64 1, .int .i64 1, .string ⟨#[]⟩, .slice none 0 0]) ?_ rfl ⟨⟨⟨1, 1, ⟨#[]⟩, none, 0⟩, rfl, by simp only [LeafOk, NdOk]; decide⟩, ((Below.refl _ _).alloc (Nat.le_refl _) _).alloc (by simp) _⟩
    rw [results_cell1 rfl]
    go_simp
  · go_wp2
    refine bodyPost_ret (v := .agg #[.int .i64 2, .int .i64 60, .string ⟨#[]⟩, .slice none 0 0]) ?_ rfl ⟨⟨⟨2, 60, ⟨#[]⟩, none, 0⟩, rfl, by simp only [LeafOk, NdOk]; decide⟩, ((Below.refl _ _).alloc (Nat.le_refl _) _).alloc (by simp) _⟩
    rw [results_cell1 rfl]
    go_simp
  · go_wp2
    refine bodyPost_ret (v := .agg #[.int .i64 3, .int .i64 5, .string ⟨#[]⟩, .slice none 0 0]) ?_ rfl ⟨⟨⟨3, 5, ⟨#[]⟩, none, 0⟩, rfl, by simp only [LeafOk, NdOk]; decide⟩, ((Below.refl _ _).alloc (Nat.le_refl _) _).alloc (by simp) _⟩
    rw [results_cell1 rfl]
    go_simp
  · go_wp2
    refine bodyPost_ret (v := .agg #[.int .i64 4, .int .i64 0, .string ⟨#[]⟩, .slice none 0 0]) ?_ rfl ⟨⟨⟨4, 0, ⟨#[]⟩, none, 0⟩, rfl, by simp only [LeafOk, NdOk]; decide⟩, ((Below.refl _ _).alloc (Nat.le_refl _) _).alloc (by simp) _⟩
    rw [results_cell1 rfl]
    go_simp
  · go_wp2
    refine bodyPost_ret (v := .agg #[.int .i64 6, .int .i64 0, .string ⟨#[110, 111, 98, 111, 100, 121]⟩, .slice none 0 0]) ?_ rfl ⟨⟨⟨6, 0, ⟨#[110, 111, 98, 111, 100, 121]⟩, none, 0⟩, rfl, by simp only [LeafOk, NdOk]; decide⟩, ((Below.refl _ _).alloc (Nat.le_refl _) _).alloc (by simp) _⟩
    rw [results_cell1 rfl]
    go_simp

theorem Try.infoX : (Try.prog.info? 25).map (fun i => (i.zero, i.size, i.bytes)) = some (some (.agg #[.int .i64 0, .int .i64 0, .string ⟨#[]⟩, .slice none 0 0]), 4, 56) := by kernel_rfl
/-- An expression under way: in block X, with leaves as arguments. -/
structure LSt (w : World) (X : Nat) (opv : Int) (s : Nat) (v : Value) (L : List Nd) (wr : World) : Prop where
  c0 : wr.cell? ⟨X, 0, none⟩ = some (.int .i64 opv)
  c1 : wr.cell? ⟨X, 1, none⟩ = some (.int .i64 0)
  c2 : wr.cell? ⟨X, 2, none⟩ = some (.string ⟨#[]⟩)
  c3 : wr.cell? ⟨X, 3, none⟩ = some v
  f3 : wr.frozen? ⟨X, 3, none⟩ = false
  ow : wr.ownsRow (X + 1) 25 4 v L.length (L.flatMap leafC)
  ok : ∀ a ∈ L, LeafOk a
  sm : L.length ≤ s
  lt : X < wr.heap.size
  bel : Below w.heap.size w wr
  le : w.heap.size ≤ X
theorem LSt.next {w : World} {X : Nat} {opv : Int} {s : Nat} {v : Value} {L : List Nd} {wr w' : World} (h : LSt w X opv s v L wr) (hb : Below wr.heap.size wr w') : LSt w X opv s v L w' where
  c0 := by rw [hb.cell (p := ⟨X, 0, none⟩) h.lt]; exact h.c0
  c1 := by rw [hb.cell (p := ⟨X, 1, none⟩) h.lt]; exact h.c1
  c2 := by rw [hb.cell (p := ⟨X, 2, none⟩) h.lt]; exact h.c2
  c3 := by rw [hb.cell (p := ⟨X, 3, none⟩) h.lt]; exact h.c3
  f3 := by rw [hb.frozen (p := ⟨X, 3, none⟩) h.lt]; exact h.f3
  ow := own_below h.ow hb
  ok := h.ok
  sm := h.sm
  lt := Nat.lt_of_lt_of_le h.lt hb.size
  bel := h.bel.trans (hb.mono h.bel.size)
  le := h.le
theorem LSt.more {w : World} {X : Nat} {opv : Int} {s : Nat} {v : Value} {L : List Nd} {wr : World} (h : LSt w X opv s v L wr) : LSt w X opv (s + 1) v L wr := ⟨h.c0, h.c1, h.c2, h.c3, h.f3, h.ow, h.ok, Nat.le_succ_of_le h.sm, h.lt, h.bel, h.le⟩
theorem LSt.mid {w : World} {X : Nat} {opv : Int} {s : Nat} {v : Value} {L : List Nd} {wr w3 : World} (h : LSt w X opv s v L wr) (hg : wr.grownBy w3 v.ownBlock) : w3.cell? ⟨X, 3, none⟩ = some v ∧ w3.frozen? ⟨X, 3, none⟩ = false ∧ X < w3.heap.size := by
  have hne : some X ≠ v.ownBlock := fun e => by have := (h.ow.lt X e.symm).1; omega
  exact ⟨by rw [gb_cell hg (p := ⟨X, 3, none⟩) h.lt hne]; exact h.c3, by rw [gb_frozen hg (p := ⟨X, 3, none⟩) h.lt hne]; exact h.f3, Nat.lt_of_lt_of_le h.lt hg.size⟩
theorem LSt.close {w : World} {X : Nat} {opv : Int} {s : Nat} {v : Value} {L : List Nd} {wr w3 : World} {g cap : Nat} {a : Nd} (h : LSt w X opv s v L wr) (hg : wr.grownBy w3 v.ownBlock) (ha : LeafOk a)
    (ho : w3.ownsRow (X + 1) 25 4 (.slice (some ⟨g, 0, none⟩) (L.length + 1) cap) (L.length + 1) (L.flatMap leafC ++ leafC a)) :
    LSt w X opv (s + 1) (.slice (some ⟨g, 0, none⟩) (L.length + 1) cap) (L ++ [a]) (w3.setCell ⟨X, 3, none⟩ (.slice (some ⟨g, 0, none⟩) (L.length + 1) cap)) := by
  have hne : some X ≠ v.ownBlock := fun e => by have := (h.ow.lt X e.symm).1; omega
  have hgX := (ho.lt g rfl).1
  have q3 : w3.cell? ⟨X, 3, none⟩ = some v := by rw [gb_cell hg (p := ⟨X, 3, none⟩) h.lt hne]; exact h.c3
  have qf : w3.frozen? ⟨X, 3, none⟩ = false := by rw [gb_frozen hg (p := ⟨X, 3, none⟩) h.lt hne]; exact h.f3
  have q0 : w3.cell? ⟨X, 0, none⟩ = some (.int .i64 opv) := by rw [gb_cell hg (p := ⟨X, 0, none⟩) h.lt hne]; exact h.c0
  have q1 : w3.cell? ⟨X, 1, none⟩ = some (.int .i64 0) := by rw [gb_cell hg (p := ⟨X, 1, none⟩) h.lt hne]; exact h.c1
  have q2 : w3.cell? ⟨X, 2, none⟩ = some (.string ⟨#[]⟩) := by rw [gb_cell hg (p := ⟨X, 2, none⟩) h.lt hne]; exact h.c2
  refine ⟨?_, ?_, ?_, ?_, ?_, ?_, ?_, ?_, ?_, ?_, h.le⟩
  · simp [go_sem, q0, q3]
  · simp [go_sem, q1, q3]
  · simp [go_sem, q2, q3]
  · simp [go_sem, q3]
  · simp [go_sem, qf]
  · have e : (L ++ [a]).flatMap leafC = L.flatMap leafC ++ leafC a := by simp
    rw [e, List.length_append]
    exact own_setCell_ne ho (by simp [Value.ownBlock]; omega) _
  · intro b hb
    rcases List.mem_append.1 hb with hb | hb
    · exact h.ok b hb
    · rw [List.mem_singleton.1 hb]; exact ha
  · have := h.sm; simp; omega
  · simp [World.setCell]; exact Nat.lt_of_lt_of_le h.lt hg.size
  · refine Below.setCell (p := ⟨X, 3, none⟩) (h.bel.grown hg h.bel.size (fun k hk => ?_)) h.le _
    have := (h.ow.lt k hk).1
    have := h.le
    omega
/-- The row of leaves as a forest. -/
def leafF : List Nd → Fo
  | [] => .nil
  | a :: L => .node 0 0 a .nil (leafF L)
theorem leafF_len (L : List Nd) : len (leafF L) = L.length := by
  induction L with
  | nil => rfl
  | cons a L ih => simp [leafF, len, ih]
theorem leafF_ok (L : List Nd) (h : ∀ a ∈ L, LeafOk a) : FoOk (leafF L) := by
  induction L with
  | nil => trivial
  | cons a L ih => exact ⟨(h a (by simp)).1, trivial, ih (fun b hb => h b (by simp [hb]))⟩
theorem leafF_at (w : World) (g O : Nat) (L : List Nd) (h : ∀ a ∈ L, LeafOk a) (hc : ∀ j u, (L.flatMap leafC)[j]? = some u → w.cell? ⟨g, O + j, none⟩ = some u) : FoAt w (leafF L) g O := by
  induction L generalizing O with
  | nil => trivial
  | cons a L ih =>
    obtain ⟨-, hp, hq⟩ := h a (by simp)
    refine ⟨⟨hc 0 _ rfl, hc 1 _ rfl, hc 2 _ rfl, ?_⟩, fun q => absurd rfl q, trivial, ih (O + 4) (fun b hb => h b (by simp [hb])) (fun j u hu => ?_)⟩
    · rw [hp, hq]; exact hc 3 _ rfl
    · have := hc (4 + j) u (by rw [List.flatMap_cons, List.getElem?_append_right (by simp [leafC])]; simpa [leafC] using hu)
      rw [← Nat.add_assoc] at this
      exact this
theorem LSt.expr {w : World} {X : Nat} {opv : Int} {s : Nat} {v : Value} {L : List Nd} {wr : World} (h : LSt w X opv s v L wr) (ho : -9223372036854775808 ≤ opv ∧ opv ≤ 9223372036854775807) (hs : s ≤ 9) :
    ∃ (p : Option Addr) (cap : Nat) (b o : Nat), v = .slice p (len (leafF L)) cap ∧ ExAt wr b o ⟨opv, 0, ⟨#[]⟩, p, cap⟩ (leafF L) ∧ ExOk ⟨opv, 0, ⟨#[]⟩, p, cap⟩ (leafF L) := by
  have hok : ∀ p cap, ExOk ⟨opv, 0, ⟨#[]⟩, p, cap⟩ (leafF L) := fun p cap => ⟨⟨ho, by dsimp only; omega, Nat.zero_le _, by rw [leafF_len]; have := h.sm; omega⟩, leafF_ok L h.ok⟩
  rcases h.ow.2 with ⟨hv, h0⟩ | ⟨g, cap, cur, hv, -⟩
  · have hL : L = [] := List.length_eq_zero_iff.1 h0
    subst hL
    exact ⟨none, 0, 0, 0, hv, ⟨fun q => absurd rfl q, trivial⟩, hok _ _⟩
  · refine ⟨some ⟨g, 0, none⟩, cap, g, 0, by rw [leafF_len]; exact hv, ⟨fun _ => rfl, leafF_at wr g 0 L h.ok (fun j u hu => ?_)⟩, hok _ _⟩
    have ow := h.ow
    rw [hv] at ow
    have hj : j < L.length * 4 := by
      have h1 := (List.getElem?_eq_some_iff.1 hu).1
      have h2 := ow.1
      omega
    rw [Nat.zero_add, ow.cellAt j hj]; exact hu

theorem step_wanted {P : Program} {ops : Array Oper} {o : Oper} {a : Act} {w : World} {K : Act → World → Prop} {Q : Exit → Act → World → Prop} {E : Prop} (hgd : o.guard = none) (h : Oper.wp P o a w K Q) :
    if Region.wanted o (yielded ops a.tmps) = true then Oper.wp P o a w K Q else E := by
  have hw : Region.wanted o (yielded ops a.tmps) = true := by simp [Region.wanted, hgd]
  rw [if_pos hw]
  exact h
theorem leaf_one {a : Nd} : ∀ u ∈ leafC a, u.oneCell' = true := by
  intro u hu
  simp only [leafC, List.mem_cons, List.not_mem_nil, or_false] at hu
  rcases hu with rfl | rfl | rfl | rfl <;> rfl
theorem leaf_news (w : World) (a : Nd) : ∀ j u, (leafC a)[j]? = some u → (w.alloc (.cells #[.int .i64 a.op, .int .i64 a.num, .string a.name, .slice none 0 0] 25)).cell? ((⟨w.heap.size, 0, none⟩ : Addr).add j) = some u :=
  World.news_of_block (heap_alloc_new w _)

set_option maxHeartbeats 8000000 in
set_option maxRecDepth 100000 in
theorem walk_typesPairs (op a b c : Int) (w : World) (w0 : (Lit.int .i64 op).wf = true) (w1 : (Lit.int .i64 a).wf = true) (w2 : (Lit.int .i64 b).wf = true) (w3 : (Lit.int .i64 c).wf = true) :
    Calls Try.prog 5 #[.int .i64 op, .int .i64 a, .int .i64 b, .int .i64 c] w fun e w' => e = .returned (.bool true) ∧ Below w.heap.size w w' := by
  clear w0 w1 w2 w3
  obtain ⟨i0, hi, hi0, hi1, hi2⟩ := info_parts Try.infoX
  obtain ⟨opv, hopv⟩ : ∃ c, (bits BinOp.and IntKind.i64 op 65535).tmod 25 = c := ⟨_, rfl⟩
  have hob : 0 ≤ opv ∧ opv < 25 := by rw [← hopv]; exact tmod_bd _ _ (by rw [and_65535]; omega) (by omega)
  have HOB := Lib.hid hob
  clear hob
  go_enter Try.func5, Try.ntmps5
  go_wp2_with fail
  go_loopw [9] (fun i wr => ∃ j : Nat, j ≤ 4 ∧ i = .int .i64 j ∧ Hid (Below w.heap.size w wr)) (fun i _ => 4 - (intOf i).toNat)
  case atStart => exact ⟨0, by omega, rfl, Below.refl _ _⟩
  case round =>
    obtain ⟨j, hj, rfl, HB⟩ := hrel
    by_cases hlt : j ≤ 3
    · have hj1 : (j : Int) ≤ 3 := by omega
      go_upto_if 24 with (fail)
      have S0 : Hid (LSt w wr.heap.size opv 0 (.slice none 0 0) [] (wr.alloc (.cells #[.int .i64 opv, .int .i64 0, .string ⟨#[]⟩, .slice none 0 0] 25))) :=
        ⟨by simp [go_sem], by simp [go_sem], by simp [go_sem], by simp [go_sem], by simp [go_sem], World.ownsRow_nil _ _ _ _, (fun a ha => by cases ha), Nat.le_refl _, by simp, HB.out.alloc HB.out.size _, HB.out.size⟩
      generalize wr.alloc (.cells #[.int .i64 opv, .int .i64 0, .string ⟨#[]⟩, .slice none 0 0] 25) = wx0 at *
      obtain ⟨v, L, S0⟩ : ∃ (v : Value) (L : List Nd), Hid (LSt w wr.heap.size opv 0 v L wx0) := ⟨_, _, S0⟩
      go_cut [] (fun wx => ∃ (v : Value) (L : List Nd), Hid (LSt w wr.heap.size opv 1 v L wx))
      case first =>
        by_cases h1 : 0 < j
        · have b1 : (0 : Int) < (j : Int) := by omega
          obtain ⟨q, n, c9, rfl⟩ := own_slice S0.out.ow
          go_upto_region 6 with (fail)
          have S1 := Lib.hid (S0.out.next (Below.refl _ _).drew)
          have y3 := S0.out.c3
          have y6 := S0.out.lt
          go_region_law (first | (refine step_wanted (by rfl) ?_; go_simp; go_at_call 15; refine (leaf_any a _).mono ?_; rintro e w2 ⟨⟨a1, rfl, ha1⟩, hb⟩; have HA := Lib.hid ha1; have S2 := Lib.hid (S1.out.next hb); have y4 := S2.out.c3; have y5 := S2.out.lt; clear ha1 hb) | (refine step_append_lies _ (by rfl) _ _ 23 (by rfl) (wr.heap.size + 1) 25 i0 (.agg #[.int .i64 0, .int .i64 0, .string ⟨#[]⟩, .slice none 0 0]) 4 56 Try.underlying23 hi hi0 hi1 hi2 rfl (by decide) (.slice q n c9) L.length (L.flatMap leafC) (by rfl) (S2.out.ow.alloc _) _ 1 1 (leafC a1) (by rfl) (by rfl) (leaf_news _ _) leaf_one (by decide) (by have := S2.out.sm; unfold maxLen; omega) (by have := S2.out.sm; omega) (by have := y5; simp; omega) _ rfl ?_; intro g cap w3 hown hg hat hlt; have S9 := Lib.hid (S2.out.next ((Below.refl _ _).alloc (Nat.le_refl _) (.cells #[.int .i64 a1.op, .int .i64 a1.num, .string a1.name, .slice none 0 0] 25))); have CL := Lib.hid (S9.out.close hg HA.out hown); obtain ⟨z1, z2, z3⟩ := S9.out.mid hg; clear hown hg hat hlt))
          all_goals (go_wp2; go_meet; exact ⟨_, _, CL.out⟩)
        · have b1 : ¬ (0 : Int) < (j : Int) := by omega
          go_wp2
          go_meet
          exact ⟨_, _, S0.out.more⟩
      case rest =>
        obtain ⟨v, L, T1⟩ := hcut
        go_upto_if 33 with (fail)
        go_cut [] (fun wx => ∃ (v : Value) (L : List Nd), Hid (LSt w wr.heap.size opv 2 v L wx))
        case first =>
          by_cases h1 : 1 < j
          · have b1 : (1 : Int) < (j : Int) := by omega
            obtain ⟨q, n, c9, rfl⟩ := own_slice T1.out.ow
            go_upto_region 8 with (fail)
            have S1 := Lib.hid (T1.out.next (Below.refl _ _).drew)
            have y3 := T1.out.c3
            have y6 := T1.out.lt
            go_region_law (first | (refine step_wanted (by rfl) ?_; go_simp; go_at_call 15; refine (leaf_any b _).mono ?_; rintro e w2 ⟨⟨a1, rfl, ha1⟩, hb⟩; have HA := Lib.hid ha1; have S2 := Lib.hid (S1.out.next hb); have y4 := S2.out.c3; have y5 := S2.out.lt; clear ha1 hb) | (refine step_append_lies _ (by rfl) _ _ 23 (by rfl) (wr.heap.size + 1) 25 i0 (.agg #[.int .i64 0, .int .i64 0, .string ⟨#[]⟩, .slice none 0 0]) 4 56 Try.underlying23 hi hi0 hi1 hi2 rfl (by decide) (.slice q n c9) L.length (L.flatMap leafC) (by rfl) (S2.out.ow.alloc _) _ 1 1 (leafC a1) (by rfl) (by rfl) (leaf_news _ _) leaf_one (by decide) (by have := S2.out.sm; unfold maxLen; omega) (by have := S2.out.sm; omega) (by have := y5; simp; omega) _ rfl ?_; intro g cap w3 hown hg hat hlt; have S9 := Lib.hid (S2.out.next ((Below.refl _ _).alloc (Nat.le_refl _) (.cells #[.int .i64 a1.op, .int .i64 a1.num, .string a1.name, .slice none 0 0] 25))); have CL := Lib.hid (S9.out.close hg HA.out hown); obtain ⟨z1, z2, z3⟩ := S9.out.mid hg; clear hown hg hat hlt))
            all_goals (go_wp2; go_meet; exact ⟨_, _, CL.out⟩)
          · have b1 : ¬ (1 : Int) < (j : Int) := by omega
            go_wp2
            go_meet
            exact ⟨_, _, T1.out.more⟩
        case rest =>
          obtain ⟨v, L, T2⟩ := hcut
          go_upto_if 42 with (fail)
          go_cut [] (fun wx => ∃ (v : Value) (L : List Nd), Hid (LSt w wr.heap.size opv 3 v L wx))
          case first =>
            by_cases h1 : 2 < j
            · have b1 : (2 : Int) < (j : Int) := by omega
              obtain ⟨q, n, c9, rfl⟩ := own_slice T2.out.ow
              go_upto_region 10 with (fail)
              have S1 := Lib.hid (T2.out.next (Below.refl _ _).drew)
              have y3 := T2.out.c3
              have y6 := T2.out.lt
              go_region_law (first | (refine step_wanted (by rfl) ?_; go_simp; go_at_call 15; refine (leaf_any c _).mono ?_; rintro e w2 ⟨⟨a1, rfl, ha1⟩, hb⟩; have HA := Lib.hid ha1; have S2 := Lib.hid (S1.out.next hb); have y4 := S2.out.c3; have y5 := S2.out.lt; clear ha1 hb) | (refine step_append_lies _ (by rfl) _ _ 23 (by rfl) (wr.heap.size + 1) 25 i0 (.agg #[.int .i64 0, .int .i64 0, .string ⟨#[]⟩, .slice none 0 0]) 4 56 Try.underlying23 hi hi0 hi1 hi2 rfl (by decide) (.slice q n c9) L.length (L.flatMap leafC) (by rfl) (S2.out.ow.alloc _) _ 1 1 (leafC a1) (by rfl) (by rfl) (leaf_news _ _) leaf_one (by decide) (by have := S2.out.sm; unfold maxLen; omega) (by have := S2.out.sm; omega) (by have := y5; simp; omega) _ rfl ?_; intro g cap w3 hown hg hat hlt; have S9 := Lib.hid (S2.out.next ((Below.refl _ _).alloc (Nat.le_refl _) (.cells #[.int .i64 a1.op, .int .i64 a1.num, .string a1.name, .slice none 0 0] 25))); have CL := Lib.hid (S9.out.close hg HA.out hown); obtain ⟨z1, z2, z3⟩ := S9.out.mid hg; clear hown hg hat hlt))
              all_goals (go_wp2; go_meet; exact ⟨_, _, CL.out⟩)
            · have b1 : ¬ (2 : Int) < (j : Int) := by omega
              go_wp2
              go_meet
              exact ⟨_, _, T2.out.more⟩
          case rest =>
            obtain ⟨v, L, T3⟩ := hcut
            obtain ⟨pp, cap, b0, o0, rfl, hx, hok⟩ := T3.out.expr (by have := HOB.out; omega) (by omega)
            have HX := Lib.hid hx
            have HOK := Lib.hid hok
            have y0 := T3.out.c0
            have y1 := T3.out.c1
            have y2 := T3.out.c2
            have y3 := T3.out.c3
            have y6 := T3.out.lt
            clear hx hok
            go_wp2_with fail
            refine (typeof_any [] none 0 1 b0 o0 opv 0 ⟨#[]⟩ pp cap (leafF L) wc (csv_nil _) HX.out HOK.out).mono ?_
            rintro e w4 ⟨rfl, hb⟩
            have T4 := Lib.hid (T3.out.next hb)
            have X4 := Lib.hid (HX.out.next hb)
            clear hb y0 y1 y2 y3 y6
            have y0 := T4.out.c0
            have y1 := T4.out.c1
            have y2 := T4.out.c2
            have y3 := T4.out.c3
            go_wp2_with fail
            refine (rtypeof_any [] none 0 1 b0 o0 opv 0 ⟨#[]⟩ pp cap (leafF L) w4 (csv_nil _) (Nat.le_refl _) X4.out HOK.out).mono ?_
            generalize typeOfT [] 1 ⟨opv, 0, ⟨#[]⟩, pp, cap⟩ (leafF L) = R
            obtain ⟨r1, r2⟩ := R
            rintro e w5 ⟨rfl, hb⟩
            have B5 : Hid (Below w.heap.size w w5) := (T4.out.next hb).bel
            clear hb y0 y1 y2 y3
            go_wp2
            go_roundw
            case rel => exact ⟨j + 1, by omega, by go_num, B5.out⟩
            case measure => simp [intOf]; omega
    · have hj1 : ¬ (j : Int) ≤ 3 := by omega
      go_wp2_with fail
      refine (awake_any wr).mono ?_
      rintro e w2 ⟨rfl, hb⟩
      have B2 := Lib.hid (HB.out.trans (hb.mono HB.out.size))
      clear hb
      go_wp2
      go_ret
      exact ⟨rfl, B2.out⟩

end Go.Proofs.Ytijbjnbbglcacaa
