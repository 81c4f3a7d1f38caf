/-
  The contracts of pairingbase.Expr and pairingbase.Consts; an argument that is a list of numbers.
  The contract of pairingbase.Attrs. Printed by wip/mkbat.py.
  Expressions made of built ones, and their values. No program in sight.
-/
import Derived.Test.YtfoedbfkddoibaaBex
import Derived.Test.YtfoedbfkddoibaaOpe
import Derived.ChangeSlices
import Derived.Test.YtfoedbfkddoibaaEkn
import Derived.Test.YtfoedbfkddoibaaGe
import Derived.Test.YtfoedbfkddoibaaVok
namespace Go.Proofs.Ytfoedbfkddoibaa
section
set_option linter.unusedVariables false
set_option linter.unusedSimpArgs false
open Go.ChangeShapes Go.WideShapes Go.ChangeAt Go.RowKit
open Go.Deep (BT)

theorem bexpr_four : ExprQ 4 5120 := bexpr_of 3 1280 (by omega) (by omega) (by omega) (bexpr_of 2 320 (by omega) (by omega) (by omega) (bexpr_of 1 80 (by omega) (by omega) (by omega) bexpr_one))

/-- What pairingbase.Expr leaves. -/
def XPost (w : World) (sc kind : Int) (e : Ending) (w' : World) : Prop := ∃ c : Ch, e = .returned (.agg #[.int .i64 c.a.op, .int .i64 c.a.num, .string c.a.name, .slice c.a.ptr (len c.k) c.a.cap]) ∧ Plain sc kind 4 c.a c.k ∧ ExAt w' c.b c.o c.a c.k ∧ Below w.heap.size w w'

set_option maxHeartbeats 4000000 in
set_option maxRecDepth 100000 in
theorem bExpr_any (v : Value) (n : Nat) (sc kind : Int) (w : World) (h : IntsL w v n w.heap.size) (hs : sc = 1 ∨ sc = 2 ∨ sc = 3) (hk : kind = 1 ∨ kind = 2 ∨ kind = 3 ∨ kind = 4) :
    Calls Try.prog 11 #[v, .int .i64 sc, .int .i64 kind] w (XPost w sc kind) := by
  have H := Lib.hid h
  have HS := Lib.hid hs
  have HK := Lib.hid hk
  obtain ⟨p, cap, rfl, hn, -⟩ := h
  clear hs hk
  go_enter Try.func11, Try.ntmps11
  go_wp2_with fail
  have B0 : Hid (Below w.heap.size w ((w.alloc (.cells #[.int .i64 0, .int .i64 0, .string ⟨#[]⟩, .slice none 0 0] 31)).alloc (.cells #[.slice p n cap, .int .i64 0] 50))) := ((Below.refl _ _).alloc (Nat.le_refl _) _).alloc (by simp) _
  have R0 : Hid (RB ((w.alloc (.cells #[.int .i64 0, .int .i64 0, .string ⟨#[]⟩, .slice none 0 0] 31)).alloc (.cells #[.slice p n cap, .int .i64 0] 50)) w.heap.size) := by
    refine RB.next (w := w.alloc (.cells #[.int .i64 0, .int .i64 0, .string ⟨#[]⟩, .slice none 0 0] 31)) ⟨⟨_, by simp [go_sem]; rfl⟩, ⟨_, by simp [go_sem]; rfl⟩, ⟨_, by simp [go_sem]; rfl⟩, ⟨_, by simp [go_sem]; rfl⟩, by simp [go_sem], by simp [go_sem], by simp [go_sem], by simp [go_sem], by simp⟩ ((Below.refl _ _).alloc (Nat.le_refl _) _)
  have S0 : Hid (Src ((w.alloc (.cells #[.int .i64 0, .int .i64 0, .string ⟨#[]⟩, .slice none 0 0] 31)).alloc (.cells #[.slice p n cap, .int .i64 0] 50)) (w.heap.size + 1) (.slice p n cap) n 0) := by
    refine ⟨by simp [go_sem], by simp [go_sem], by simp [go_sem], by simp, ?_⟩
    obtain ⟨p', cap', h1, h2, h3⟩ := H.out
    refine ⟨p', cap', h1, h2, fun i hi => ?_⟩
    obtain ⟨B, O, x, q1, q2, q3⟩ := h3 i hi
    exact ⟨B, O, x, q1, Nat.lt_succ_of_lt q2, by rw [B0.out.cell (p := ⟨B, O + i, none⟩) q2]; exact q3⟩
  have Z0 : Hid (((w.alloc (.cells #[.int .i64 0, .int .i64 0, .string ⟨#[]⟩, .slice none 0 0] 31)).alloc (.cells #[.slice p n cap, .int .i64 0] 50)).heap.size = w.heap.size + 2) := by unfold Hid; simp
  generalize (w.alloc (.cells #[.int .i64 0, .int .i64 0, .string ⟨#[]⟩, .slice none 0 0] 31)).alloc (.cells #[.slice p n cap, .int .i64 0] 50) = w1 at *
  refine (bexpr_four (w.heap.size + 1) (.slice p n cap) n 0 sc kind 4 w1 S0.out (by omega) HS.out HK.out rfl).mono ?_
  rintro e wx ⟨c, rfl, hp, hc, ⟨⟨t9, h91, h92, hS⟩, hg⟩⟩
  have RX : Hid (RB wx w.heap.size) := R0.out.grown hg (by simp)
  have CX : Hid (ChAt wx (w.heap.size + 1) c) := hc.mono (by rw [Z0.out]; omega)
  have BX : Hid (Below w.heap.size w wx) := B0.out.grown hg (by rw [Z0.out]; omega) (fun m hm => by cases hm; omega)
  have PX := Lib.hid hp
  clear hS hg hc hp
  obtain ⟨⟨u0, q0⟩, ⟨u1, q1⟩, ⟨u2, q2⟩, ⟨u3, q3⟩, f0, f1, f2, f3, rlt⟩ := RX.out
  go_wp2
  refine bodyPost_ret (v := .agg #[.int .i64 c.a.op, .int .i64 c.a.num, .string c.a.name, .slice c.a.ptr (len c.k) c.a.cap]) ?_ rfl ⟨c, rfl, PX.out, (ch_four CX.out).1, BX.out.trans below_four⟩
  rw [results_cell1 rfl]
  go_simp

/-- The built constants. -/
def bcs (g : Nat) : List Cn := [⟨twoN, 0, 0, ⟨1, 2, ⟨#[]⟩, none, 0⟩, .nil⟩, ⟨shiftN, g, 0, ⟨10, 0, ⟨#[]⟩, some ⟨g, 0, none⟩, 2⟩, .node 0 0 ⟨6, 0, twoN, none, 0⟩ .nil (.node 0 0 ⟨2, 45, ⟨#[]⟩, none, 0⟩ .nil .nil)⟩]
theorem bcs_look (g : Nat) : LookOk (lookT (bcs g) (tabN (bcs g) (bcs g).length)) := ⟨by kernel_rfl, by kernel_rfl⟩
theorem bcs_ok (g : Nat) : CsOk (bcs g) := by
  intro c hc
  simp only [bcs, List.mem_cons, List.not_mem_nil, or_false] at hc
  rcases hc with rfl | rfl
  · simp only [CnOk, ExOk, NdOk, FoOk, len]; decide
  · simp only [CnOk, ExOk, NdOk, FoOk, len]; decide
def CPost (w : World) (e : Ending) (w' : World) : Prop := ∃ (cs : List Cn) (p : Option Addr) (cap : Nat), e = .returned (.slice p cs.length cap) ∧ CsV w' cs p ∧ LookOk (lookT cs (tabN cs cs.length)) ∧ cs.length ≤ cap ∧ Below w.heap.size w w'

set_option maxHeartbeats 4000000 in
set_option maxRecDepth 100000 in
theorem bconsts_any (w : World) : Calls Try.prog 10 #[] w (CPost w) := by
  go_enter Try.func10, Try.ntmps10
  go_wp2
  go_ret
  refine ⟨bcs w.heap.size, some ⟨w.heap.size + 1, 0, none⟩, 2, rfl, ⟨⟨w.heap.size + 1, 0, fun _ => rfl, ?_⟩, bcs_ok _, Nat.le_trans (show (bcs w.heap.size).length ≤ 2 from Nat.le_refl 2) (by decide)⟩, bcs_look _, Nat.le_refl 2, ((Below.refl _ _).alloc (Nat.le_refl _) _).alloc (by simp) _⟩
  refine ⟨⟨by simp [go_sem]; rfl, by simp [go_sem], by simp [go_sem], by simp [go_sem], by simp [go_sem, len]⟩, ⟨fun q => absurd rfl q, trivial⟩, ⟨by simp [go_sem]; rfl, by simp [go_sem], by simp [go_sem], by simp [go_sem], by simp [go_sem, len]⟩, ⟨fun _ => rfl, ⟨by simp [go_sem], by simp [go_sem], by simp [go_sem]; rfl, by simp [go_sem, len]⟩, fun q => absurd rfl q, trivial, ⟨by simp [go_sem], by simp [go_sem], by simp [go_sem], by simp [go_sem, len]⟩, fun q => absurd rfl q, trivial, trivial⟩, trivial⟩

theorem and_255 (n : Int) : bits .and .i64 n 255 = n % 256 := by
  have h127 : (BitVec.ofInt 64 255).toNat = 2 ^ 8 - 1 := by decide
  have key : (BitVec.ofInt 64 n &&& BitVec.ofInt 64 255).toNat = (n % ((2 ^ 64 : Nat) : Int)).toNat % 2 ^ 8 := by
    rw [BitVec.toNat_and, BitVec.toNat_ofInt, h127, Nat.and_two_pow_sub_one_eq_mod]
  show IntKind.i64.wrap ((BitVec.ofInt 64 n &&& BitVec.ofInt 64 255).toNat : Nat) = n % 256
  rw [key, IntKind.wrap_i64]
  omega
theorem and_3 (n : Int) : bits .and .i64 n 3 = n % 4 := by
  have h127 : (BitVec.ofInt 64 3).toNat = 2 ^ 2 - 1 := by decide
  have key : (BitVec.ofInt 64 n &&& BitVec.ofInt 64 3).toNat = (n % ((2 ^ 64 : Nat) : Int)).toNat % 2 ^ 2 := by
    rw [BitVec.toNat_and, BitVec.toNat_ofInt, h127, Nat.and_two_pow_sub_one_eq_mod]
  show IntKind.i64.wrap ((BitVec.ofInt 64 n &&& BitVec.ofInt 64 3).toNat : Nat) = n % 4
  rw [key, IntKind.wrap_i64]
  omega
theorem tmod_in (z k : Int) (h : 0 ≤ z) (hk : 0 < k) : 0 ≤ z.tmod k ∧ z.tmod k < k := by
  rw [Int.tmod_eq_emod_of_nonneg h]
  exact ⟨Int.emod_nonneg _ (by omega), Int.emod_lt_of_pos _ hk⟩
set_option maxRecDepth 100000 in
/-- An argument that is a list of numbers. -/
theorem open_intsl {H : Type} {enc : TypeId × Value → H} {w : World} {base : Nat} {spare : Nat → Bool} {held : Bool} {v : Value} {d : DataW H} {p : List MemPlace} {r : Reach} {b0 : Nat}
    (hv : Value.okWide Try.prog w r b0 26 v) (h : DataW.Trod enc Try.prog w base spare held 26 v d p) : ∃ n, IntsL w v n w.heap.size := by
  obtain ⟨a, n, cap, rfl⟩ := okWide_slice Try.underlying26 hv
  obtain ⟨fuel, hf⟩ := h
  rcases open_ints Try.underlying26 Try.underlying3 Try.cellsI hf with ⟨he, -⟩ | ⟨a', n', cap', zs, he, -, hl, hm, hz, -, hc, -⟩
  · have he' : [Value.slice a n cap] = [Value.slice none 0 0] := he
    simp only [List.cons.injEq, and_true] at he'
    exact ⟨0, none, 0, he', Nat.zero_le _, fun i hi => absurd hi (Nat.not_lt_zero _)⟩
  · have he' : [Value.slice a n cap] = [Value.slice (some a') n' cap'] := he
    simp only [List.cons.injEq, and_true] at he'
    have hzn : n' ≤ zs.length := by rw [hz]; split <;> omega
    refine ⟨n', some a', cap', he', Nat.le_trans hl hm, fun i hi => ?_⟩
    have q := hc i (by omega)
    have q0 := hc 0 (by omega)
    have hs : a'.spot = none := spot_none (by simpa [Addr.add] using q0)
    rw [addr_add0 _ _ hs] at q
    obtain ⟨B, O, sp⟩ := a'
    dsimp only at hs q
    subst hs
    exact ⟨B, O, _, rfl, block_lt_of_cell q, q⟩
end

section
set_option linter.unusedVariables false
set_option linter.unusedSimpArgs false
open Go.ChangeShapes Go.WideShapes Go.ChangeAt Go.RowKit
open Go.Deep (BT)

def avC (L : List Av) : List Value := L.flatMap fun a => [.string a.name, .int .i64 a.val]
theorem avC_len (L : List Av) : (avC L).length = L.length * 2 := by
  induction L with
  | nil => rfl
  | cons c l ih => simp [avC] at *; omega
theorem av_of_cells {w : World} {g O : Nat} (L : List Av) (hc : ∀ j u, (avC L)[j]? = some u → w.cell? ⟨g, O + j, none⟩ = some u) : AvAt w L g O := by
  induction L generalizing O with
  | nil => trivial
  | cons c l ih =>
    refine ⟨⟨hc 0 _ rfl, hc 1 _ rfl⟩, ih (O := O + 2) fun j u hu => ?_⟩
    have := hc (2 + j) u (by unfold avC; rw [List.flatMap_cons, List.getElem?_append_right (by simp)]; simpa [avC] using hu)
    rw [← Nat.add_assoc] at this
    exact this
theorem av_of_own {w : World} {base n : Nat} {v : Value} {L : List Av} (h : w.ownsRow base 39 2 v n (avC L)) (hok : ∀ a ∈ L, AvOk a) (hn : n ≤ 2932031007402) : ∃ p cap, v = .slice p L.length cap ∧ L.length ≤ cap ∧ AvV w L p ∧ (L ≠ [] → ∃ g, p = some ⟨g, 0, none⟩) := by
  have hl := h.1
  rw [avC_len] at hl
  have hl2 : L.length = n := by omega
  rcases h.2 with ⟨hv, h0⟩ | ⟨g, cap, cur, hv, hcap⟩
  · obtain rfl : L = [] := List.eq_nil_of_length_eq_zero (by omega)
    exact ⟨none, 0, hv, Nat.zero_le _, ⟨⟨0, 0, fun q => absurd rfl q, trivial⟩, hok, Nat.zero_le _⟩, fun q => absurd rfl q⟩
  · subst hv
    refine ⟨some ⟨g, 0, none⟩, cap, by rw [hl2], ?_, ⟨⟨g, 0, fun _ => rfl, av_of_cells L fun j u hu => ?_⟩, hok, by omega⟩, fun _ => ⟨g, rfl⟩⟩
    · rw [hl2]; exact hcap.2.2.1
    · have hj := (List.getElem?_eq_some_iff.1 hu).1
      rw [avC_len] at hj
      rw [Nat.zero_add, h.cellAt j (by omega)]
      exact hu
/-- What pairingbase.Attrs leaves: the attributes of the scope, in order, each with some value. -/
def BAP (w : World) (sc : Int) (e : Ending) (w' : World) : Prop := ∃ (L : List Av) (p : Option Addr) (cap : Nat), e = .returned (.slice p L.length cap) ∧ L.length ≤ cap ∧ AvV w' L p ∧ (L.map fun a => a.name) = ((Att.listL sc).map fun l => (⟨l.toArray⟩ : ByteArray)) ∧ Below w.heap.size w w'
theorem Try.infoAt : (Try.prog.info? 39).map (fun i => (i.zero, i.size, i.bytes)) = some (some (.agg #[.string ⟨#[]⟩, .int .i64 0]), 2, 24) := by kernel_rfl
theorem tmod_i64 (m : Nat) (k : Int) (h0 : 0 < k) (hk : k ≤ 1440) : i64B ((m : Int).tmod k) := by
  have := tmod_in (m : Int) k (by omega) h0
  unfold i64B; omega

set_option maxHeartbeats 4000000 in
set_option maxRecDepth 100000 in
theorem battrs_any (v : Value) (n : Nat) (sc : Int) (w : World) (h : IntsL w v n w.heap.size) (hs : sc = 1 ∨ sc = 2 ∨ sc = 3) : Calls Try.prog 12 #[v, .int .i64 sc] w (BAP w sc) := by
  have H := Lib.hid h
  obtain ⟨p, cap, rfl, hn63, -⟩ := h
  obtain ⟨i0, hi, hi0, hi1, hi2⟩ := info_parts Try.infoAt
  have hl25 := list_bd sc
  have hl20 := Lib.hid (list_wf sc hs)
  clear hs
  go_enter Try.func12, Try.ntmps12
  go_wp2_with fail
  refine (rattrs_any sc w).mono ?_
  rintro e w1 ⟨nv, rfl, hst, hb⟩
  have B1 := Lib.hid hb
  have ST := Lib.hid hst
  have hsl : ∃ q c, nv = .slice q (Att.listL sc).length c := by
    rcases hst with ⟨h1, h2⟩ | ⟨g, c, h1, -⟩
    · exact ⟨none, 0, by rw [h2, h1]; rfl⟩
    · exact ⟨_, c, h1⟩
  obtain ⟨nq, nc, rfl⟩ := hsl
  clear hb hst
  go_wp2_with fail
  go_loopw [5, 7] (fun u i wr => ∃ (vx : Value) (j : Nat) (D : List Av), vx = u ∧ i = .int .i64 j ∧ j ≤ (Att.listL sc).length ∧ w1.heap.size ≤ wr.heap.size ∧
    Hid (wr.ownsRow w1.heap.size 39 2 vx j (avC D) ∧ Below w1.heap.size w1 wr ∧ (∀ a ∈ D, AvOk a) ∧ (D.map fun a => a.name) = (((Att.listL sc).take j).map fun l => (⟨l.toArray⟩ : ByteArray)))) (fun _ i _ => (Att.listL sc).length - (intOf i).toNat)
  case atStart => exact ⟨_, 0, [], rfl, rfl, by omega, Nat.le_refl _, World.ownsRow_nil _ _ _ _, Below.refl _ _, (fun a ha => by cases ha), rfl⟩
  case round =>
    obtain ⟨vx, j, D, rfl, rfl, hj, hsz, HR⟩ := hrel
    by_cases hlt : j < (Att.listL sc).length
    · obtain ⟨l, hl⟩ : ∃ l, (Att.listL sc)[j]? = some l := ⟨_, List.getElem?_eq_getElem hlt⟩
      have hj1 : (j : Int) < ((Att.listL sc).length : Int) := by omega
      have hj0 : (0 : Int) ≤ (j : Int) := by omega
      have SR : Hid (StrsAt wr (.slice nq (Att.listL sc).length nc) (Att.listL sc)) := ST.out.next HR.out.2.1
      obtain ⟨g, rfl, kj⟩ : ∃ g, nq = some ⟨g, 0, none⟩ ∧ wr.cell? ⟨g, j, none⟩ = some (.string ⟨l.toArray⟩) := by
        rcases SR.out with ⟨h1, -⟩ | ⟨g, c, h1, h2⟩
        · rw [h1] at hlt; simp at hlt
        · injection h1 with q1 q2 q3
          exact ⟨g, q1, h2 j _ (by simp [strV, hl])⟩
      have LS := Lib.hid (hl20.out l (List.mem_of_getElem? hl))
      have hsz20 : Hid ((⟨l.toArray⟩ : ByteArray).size ≤ 9223372036854775807) := by have := LS.out.2; show l.toArray.size ≤ _; simp; omega
      have TK : Hid ((((Att.listL sc).take (j + 1)).map fun l => (⟨l.toArray⟩ : ByteArray)) = (D.map fun a => a.name) ++ [⟨l.toArray⟩]) := by
        unfold Hid; rw [HR.out.2.2.2, List.take_add_one, hl]; simp
      clear hl
      generalize (⟨l.toArray⟩ : ByteArray) = s at *
      go_wp2_with fail
      refine (ratt_any sc s wr hsz20.out).mono ?_
      rintro e w2 ⟨rfl, hb⟩
      have B2 := Lib.hid (HR.out.2.1.trans (hb.mono hsz))
      have hz2 : w1.heap.size ≤ w2.heap.size := Nat.le_trans hsz hb.size
      have O2 := Lib.hid (own_below HR.out.1 hb)
      have k2 : w2.cell? ⟨g, j, none⟩ = some (.string s) := by rw [hb.cell (block_lt_of_cell kj)]; exact kj
      have hglt := block_lt_of_cell kj
      clear hb kj
      generalize atS sc s = kd at *
      generalize atE sc s = ke at *
      have I2 : Hid (IntsL w2 (.slice p n cap) n w.heap.size) := (H.out.below B1.out (Nat.le_refl _)).below B2.out B1.out.size
      go_wp2_with fail
      refine (at_any (.slice p n cap) n w.heap.size j (j : Int) w2 I2.out (by omega) rfl).mono ?_
      rintro e w3 ⟨⟨m, rfl⟩, hb⟩
      have B3 := Lib.hid (B2.out.trans (hb.mono hz2))
      have hz3 : w1.heap.size ≤ w3.heap.size := Nat.le_trans hz2 hb.size
      have O3 := Lib.hid (own_below O2.out hb)
      have k3 : w3.cell? ⟨g, j, none⟩ = some (.string s) := by rw [hb.cell (block_lt_of_cell k2)]; exact k2
      have hglt3 : g < w3.heap.size := block_lt_of_cell k3
      clear hb k2
      by_cases q1 : kd = 1
      · have b1 : (kd == 1) = true := by simp [q1]
        clear q1
        obtain ⟨y, hy⟩ : ∃ y, (m : Int).tmod 7 = y := ⟨_, rfl⟩
        have YB : Hid (i64B y) := by unfold Hid; rw [← hy]; exact tmod_i64 m 7 (by omega) (by omega)
        have AK : Hid (Below w3.heap.size w3 (w3.alloc (.cells #[.string s, .int .i64 y] 39))) := (Below.refl _ _).alloc (Nat.le_refl _) _
        go_wp2_with (at_builtin; refine wpList_append_own _ rfl _ _ 33 rfl w1.heap.size 39 i0 (.agg #[.string ⟨#[]⟩, .int .i64 0]) 2 24 Try.underlying33 hi hi0 hi1 hi2 rfl (by decide) _ _ _ rfl (O3.out.alloc _) ⟨w3.heap.size, 0, none⟩ 1 1 [.string s, .int .i64 y] rfl rfl ?c1 ?c2 ?c3 ?c4 ?c5 ?_)
        case c1 =>
          intro q u hu
          match q with
          | 0 => simp at hu; subst hu; simp [Addr.add]
          | 1 => simp at hu; subst hu; simp [Addr.add]
          | q + 2 => simp at hu
        case c2 => intro u hu; simp at hu; rcases hu with rfl | rfl <;> rfl
        case c3 => unfold maxLen; omega
        case c4 => omega
        case c5 => simp; omega
        intro v' w4 hown hgrow hnil
        have B4 : Hid (Below w1.heap.size w1 w4) := (B3.out.alloc hz3 (.cells #[.string s, .int .i64 y] 39)).grown hgrow (by simp; omega) (fun m hm => (O3.out.lt m hm).1)
        have O4 : Hid (w4.ownsRow w1.heap.size 39 2 v' (j + 1) (avC (D ++ [⟨s, y⟩]))) := by
          have h9 : avC D ++ [Value.string s, .int .i64 y] = avC (D ++ [⟨s, y⟩]) := by simp [avC]
          rw [h9] at hown; exact hown
        have hz4 : w1.heap.size ≤ w4.heap.size := B4.out.size
        clear hown hgrow hnil
        go_wp2
        go_roundw
        case rel =>
          refine ⟨_, j + 1, D ++ [⟨s, y⟩], rfl, by go_num, by omega, hz4, O4.out, B4.out, ?_, ?_⟩
          · intro a ha
            rcases List.mem_append.1 ha with ha | ha
            · exact HR.out.2.2.1 a ha
            · rw [List.mem_singleton.1 ha]; exact ⟨hsz20.out, YB.out⟩
          · rw [TK.out]; simp
        case measure => simp [intOf]; omega
      · have b1 : (kd == 1) = false := by simp [q1]
        clear q1
        by_cases q2 : kd = 2
        · have b2 : (kd == 2) = true := by simp [q2]
          clear q2
          obtain ⟨y, hy⟩ : ∃ y, (m : Int).tmod 900 = y := ⟨_, rfl⟩
          have YB : Hid (i64B y) := by unfold Hid; rw [← hy]; exact tmod_i64 m 900 (by omega) (by omega)
          have AK : Hid (Below w3.heap.size w3 (w3.alloc (.cells #[.string s, .int .i64 y] 39))) := (Below.refl _ _).alloc (Nat.le_refl _) _
          go_wp2_with (at_builtin; refine wpList_append_own _ rfl _ _ 33 rfl w1.heap.size 39 i0 (.agg #[.string ⟨#[]⟩, .int .i64 0]) 2 24 Try.underlying33 hi hi0 hi1 hi2 rfl (by decide) _ _ _ rfl (O3.out.alloc _) ⟨w3.heap.size, 0, none⟩ 1 1 [.string s, .int .i64 y] rfl rfl ?c1 ?c2 ?c3 ?c4 ?c5 ?_)
          case c1 =>
            intro q u hu
            match q with
            | 0 => simp at hu; subst hu; simp [Addr.add]
            | 1 => simp at hu; subst hu; simp [Addr.add]
            | q + 2 => simp at hu
          case c2 => intro u hu; simp at hu; rcases hu with rfl | rfl <;> rfl
          case c3 => unfold maxLen; omega
          case c4 => omega
          case c5 => simp; omega
          intro v' w4 hown hgrow hnil
          have B4 : Hid (Below w1.heap.size w1 w4) := (B3.out.alloc hz3 (.cells #[.string s, .int .i64 y] 39)).grown hgrow (by simp; omega) (fun m hm => (O3.out.lt m hm).1)
          have O4 : Hid (w4.ownsRow w1.heap.size 39 2 v' (j + 1) (avC (D ++ [⟨s, y⟩]))) := by
            have h9 : avC D ++ [Value.string s, .int .i64 y] = avC (D ++ [⟨s, y⟩]) := by simp [avC]
            rw [h9] at hown; exact hown
          have hz4 : w1.heap.size ≤ w4.heap.size := B4.out.size
          clear hown hgrow hnil
          go_wp2
          go_roundw
          case rel =>
            refine ⟨_, j + 1, D ++ [⟨s, y⟩], rfl, by go_num, by omega, hz4, O4.out, B4.out, ?_, ?_⟩
            · intro a ha
              rcases List.mem_append.1 ha with ha | ha
              · exact HR.out.2.2.1 a ha
              · rw [List.mem_singleton.1 ha]; exact ⟨hsz20.out, YB.out⟩
            · rw [TK.out]; simp
          case measure => simp [intOf]; omega
        · have b2 : (kd == 2) = false := by simp [q2]
          clear q2
          by_cases q3 : kd = 3
          · have b3 : (kd == 3) = true := by simp [q3]
            clear q3
            obtain ⟨y, hy⟩ : ∃ y, (m : Int).tmod 1440 = y := ⟨_, rfl⟩
            have YB : Hid (i64B y) := by unfold Hid; rw [← hy]; exact tmod_i64 m 1440 (by omega) (by omega)
            have AK : Hid (Below w3.heap.size w3 (w3.alloc (.cells #[.string s, .int .i64 y] 39))) := (Below.refl _ _).alloc (Nat.le_refl _) _
            go_wp2_with (at_builtin; refine wpList_append_own _ rfl _ _ 33 rfl w1.heap.size 39 i0 (.agg #[.string ⟨#[]⟩, .int .i64 0]) 2 24 Try.underlying33 hi hi0 hi1 hi2 rfl (by decide) _ _ _ rfl (O3.out.alloc _) ⟨w3.heap.size, 0, none⟩ 1 1 [.string s, .int .i64 y] rfl rfl ?c1 ?c2 ?c3 ?c4 ?c5 ?_)
            case c1 =>
              intro q u hu
              match q with
              | 0 => simp at hu; subst hu; simp [Addr.add]
              | 1 => simp at hu; subst hu; simp [Addr.add]
              | q + 2 => simp at hu
            case c2 => intro u hu; simp at hu; rcases hu with rfl | rfl <;> rfl
            case c3 => unfold maxLen; omega
            case c4 => omega
            case c5 => simp; omega
            intro v' w4 hown hgrow hnil
            have B4 : Hid (Below w1.heap.size w1 w4) := (B3.out.alloc hz3 (.cells #[.string s, .int .i64 y] 39)).grown hgrow (by simp; omega) (fun m hm => (O3.out.lt m hm).1)
            have O4 : Hid (w4.ownsRow w1.heap.size 39 2 v' (j + 1) (avC (D ++ [⟨s, y⟩]))) := by
              have h9 : avC D ++ [Value.string s, .int .i64 y] = avC (D ++ [⟨s, y⟩]) := by simp [avC]
              rw [h9] at hown; exact hown
            have hz4 : w1.heap.size ≤ w4.heap.size := B4.out.size
            clear hown hgrow hnil
            go_wp2
            go_roundw
            case rel =>
              refine ⟨_, j + 1, D ++ [⟨s, y⟩], rfl, by go_num, by omega, hz4, O4.out, B4.out, ?_, ?_⟩
              · intro a ha
                rcases List.mem_append.1 ha with ha | ha
                · exact HR.out.2.2.1 a ha
                · rw [List.mem_singleton.1 ha]; exact ⟨hsz20.out, YB.out⟩
              · rw [TK.out]; simp
            case measure => simp [intOf]; omega
          · have b3 : (kd == 3) = false := by simp [q3]
            clear q3
            obtain ⟨y, hy⟩ : ∃ y, (m : Int).tmod 2 = y := ⟨_, rfl⟩
            have YB : Hid (i64B y) := by unfold Hid; rw [← hy]; exact tmod_i64 m 2 (by omega) (by omega)
            have AK : Hid (Below w3.heap.size w3 (w3.alloc (.cells #[.string s, .int .i64 y] 39))) := (Below.refl _ _).alloc (Nat.le_refl _) _
            go_wp2_with (at_builtin; refine wpList_append_own _ rfl _ _ 33 rfl w1.heap.size 39 i0 (.agg #[.string ⟨#[]⟩, .int .i64 0]) 2 24 Try.underlying33 hi hi0 hi1 hi2 rfl (by decide) _ _ _ rfl (O3.out.alloc _) ⟨w3.heap.size, 0, none⟩ 1 1 [.string s, .int .i64 y] rfl rfl ?c1 ?c2 ?c3 ?c4 ?c5 ?_)
            case c1 =>
              intro q u hu
              match q with
              | 0 => simp at hu; subst hu; simp [Addr.add]
              | 1 => simp at hu; subst hu; simp [Addr.add]
              | q + 2 => simp at hu
            case c2 => intro u hu; simp at hu; rcases hu with rfl | rfl <;> rfl
            case c3 => unfold maxLen; omega
            case c4 => omega
            case c5 => simp; omega
            intro v' w4 hown hgrow hnil
            have B4 : Hid (Below w1.heap.size w1 w4) := (B3.out.alloc hz3 (.cells #[.string s, .int .i64 y] 39)).grown hgrow (by simp; omega) (fun m hm => (O3.out.lt m hm).1)
            have O4 : Hid (w4.ownsRow w1.heap.size 39 2 v' (j + 1) (avC (D ++ [⟨s, y⟩]))) := by
              have h9 : avC D ++ [Value.string s, .int .i64 y] = avC (D ++ [⟨s, y⟩]) := by simp [avC]
              rw [h9] at hown; exact hown
            have hz4 : w1.heap.size ≤ w4.heap.size := B4.out.size
            clear hown hgrow hnil
            go_wp2
            go_roundw
            case rel =>
              refine ⟨_, j + 1, D ++ [⟨s, y⟩], rfl, by go_num, by omega, hz4, O4.out, B4.out, ?_, ?_⟩
              · intro a ha
                rcases List.mem_append.1 ha with ha | ha
                · exact HR.out.2.2.1 a ha
                · rw [List.mem_singleton.1 ha]; exact ⟨hsz20.out, YB.out⟩
              · rw [TK.out]; simp
            case measure => simp [intOf]; omega
    · have hj1 : ¬ (j : Int) < ((Att.listL sc).length : Int) := by omega
      obtain rfl : j = (Att.listL sc).length := by omega
      obtain ⟨q, c, rfl, hcap, hav, -⟩ := av_of_own HR.out.1 HR.out.2.2.1 (by omega)
      have AVV := Lib.hid hav
      clear hav
      go_wp2
      go_ret
      exact ⟨D, q, c, rfl, hcap, AVV.out, by rw [HR.out.2.2.2, List.take_length], B1.out.trans (HR.out.2.1.mono B1.out.size)⟩
end

section
set_option linter.unusedVariables false
set_option linter.unusedSimpArgs false
open Go.RowKit
open Go.Deep (BT)

/-- An expression of a type for a scope, of at most S nodes and D levels. -/
structure Bx (sc kind : Int) (S D : Nat) (c : Ch) : Prop where
  ok : ExOk c.a c.k
  wf : (wfB c.a (len c.k) && wfT c.k) = true
  sz : sz c.k + 1 ≤ S
  dp : dp c.k + 1 ≤ D
  ty : ∀ look, LookOk look → tyT look sc c.a c.k = (kind, 0)
theorem bx_plain {sc kind : Int} {c : Ch} (h : Plain sc kind 4 c.a c.k) : Bx sc kind 40 4 c := ⟨h.ok, h.wf, h.sz, h.dp, h.ty⟩
theorem Bx.mono {sc kind : Int} {S D S' D' : Nat} {c : Ch} (h : Bx sc kind S D c) (hS : S ≤ S') (hD : D ≤ D') : Bx sc kind S' D' c := ⟨h.ok, h.wf, Nat.le_trans h.sz hS, Nat.le_trans h.dp hD, h.ty⟩
/-- The value of a tree, its names' values known. -/
def exv (nm : ByteArray → Int) (c : Ch) : Int := ev1 nm c.a (evF nm c.k)
/-- All attributes of the scope are given. -/
def AttrsOk (sc : Int) (L : List Av) : Prop := ∀ s, atE sc s = 0 → (firstAv s L).isSome = true
theorem firstAv_mem (s : ByteArray) (L : List Av) (h : s ∈ L.map fun a => a.name) : (firstAv s L).isSome = true := by
  induction L with
  | nil => cases h
  | cons d L ih =>
    unfold firstAv
    by_cases q : d.name = s
    · rw [if_pos q]; rfl
    · rw [if_neg q]
      rcases List.mem_cons.1 h with h | h
      · exact absurd h.symm q
      · exact ih h
theorem attrs_ok (sc : Int) (L : List Av) (h : (L.map fun a => a.name) = ((Att.listL sc).map fun l => (⟨l.toArray⟩ : ByteArray))) : AttrsOk sc L := by
  intro s hs
  apply firstAv_mem
  rw [h]
  have hm : s.data.toList ∈ Att.listL sc := by
    apply at_mem
    intro z
    unfold atE atS at hs
    rw [if_pos z] at hs
    cases hs
  exact List.mem_map.2 ⟨_, hm, by simp⟩
theorem kn_all (sc : Int) (L : List Av) (h : AttrsOk sc L) (T : Fo) : knF sc L T = true := by
  have key : ∀ s, ((firstAv s L).isSome || decide (atE sc s ≠ 0)) = true := by
    intro s
    by_cases q : atE sc s = 0
    · rw [h s q]; rfl
    · simp [q]
  induction T with
  | nil => rfl
  | node b o a k r ihk ihr =>
    show ((if a.op = 6 then (firstAv a.name L).isSome || decide (atE sc a.name ≠ 0) else knF sc L k) && knF sc L r) = true
    rw [ihr, Bool.and_true]
    split
    · exact key _
    · exact ihk
theorem kn_allT (sc : Int) (L : List Av) (h : AttrsOk sc L) (a : Nd) (k : Fo) : knT sc L a k = true := by
  have := kn_all sc L h (.node 0 0 a k .nil)
  have e : knF sc L (.node 0 0 a k .nil) = (knT sc L a k && true) := rfl
  rw [e, Bool.and_true] at this
  exact this
/-- What Eval answers for such an expression. -/
theorem bx_eval (cs : List Cn) (sc kind : Int) (S D : Nat) (L : List Av) (c : Ch) (h : Bx sc kind S D c) (hS : S ≤ 200) (hD : D ≤ 16) (hl : LookOk (lookT cs (tabN cs cs.length))) (hL : AttrsOk sc L) :
    evR cs sc L c.a c.k = (kind, exv (nmT sc (valsT sc L) (cvT cs)) c, 0) ∧ vok kind (exv (nmT sc (valsT sc L) (cvT cs)) c) := by
  have hv : valE c.a c.k = 0 := by
    have h1 := h.sz
    have h2 := h.dp
    have hf : fitB 0 1 c.k = true := by unfold fitB; rw [decide_eq_true_eq]; omega
    unfold valE
    rw [if_pos hf, if_pos h.wf]
  have ht : typeOfT cs sc c.a c.k = (kind, 0) := by
    unfold typeOfT
    rw [if_pos hv]
    exact h.ty _ hl
  have e : evR cs sc L c.a c.k = (kind, exv (nmT sc (valsT sc L) (cvT cs)) c, 0) := by
    unfold evR
    rw [ht, kn_allT sc L hL]
    rfl
  refine ⟨e, ?_⟩
  have := evR_ok cs sc L c.a c.k (by rw [e])
  rw [e] at this
  exact this.1
end

end Go.Proofs.Ytfoedbfkddoibaa
