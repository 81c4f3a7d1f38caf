/-
  The contracts of pairingbase.Expr and pairingbase.Consts, and the walk of TypesBuilt.
-/
import Derived.Test.YtijbjnbbglcacaaBex
import Derived.Test.YtijbjnbbglcacaaAwk
import Derived.Test.YtijbjnbbglcacaaOpe
import Derived.ChangeSlices
namespace Go.Proofs.Ytijbjnbbglcacaa
set_option linter.unusedVariables false
set_option linter.unusedSimpArgs false
open Go.ChangeShapes Go.WideShapes Go.ChangeAt Go.RowKit
open Go.Deep (BT)

theorem bexpr_four : ExprQ 4 5120 := bexpr_of 3 1280 (by omega) (by omega) (by omega) (bexpr_of 2 320 (by omega) (by omega) (by omega) (bexpr_of 1 80 (by omega) (by omega) (by omega) bexpr_one))

/-- What pairingbase.Expr leaves. -/
def XPost (w : World) (sc kind : Int) (e : Ending) (w' : World) : Prop := ∃ c : Ch, e = .returned (.agg #[.int .i64 c.a.op, .int .i64 c.a.num, .string c.a.name, .slice c.a.ptr (len c.k) c.a.cap]) ∧ Plain sc kind 4 c.a c.k ∧ ExAt w' c.b c.o c.a c.k ∧ Below w.heap.size w w'

set_option maxHeartbeats 4000000 in
set_option maxRecDepth 100000 in
theorem bExpr_any (v : Value) (n : Nat) (sc kind : Int) (w : World) (h : IntsL w v n w.heap.size) (hs : sc = 1 ∨ sc = 2 ∨ sc = 3) (hk : kind = 1 ∨ kind = 2 ∨ kind = 3 ∨ kind = 4) :
    Calls Try.prog 14 #[v, .int .i64 sc, .int .i64 kind] w (XPost w sc kind) := by
  have H := Lib.hid h
  have HS := Lib.hid hs
  have HK := Lib.hid hk
  obtain ⟨p, cap, rfl, hn, -⟩ := h
  clear hs hk
  go_enter Try.func14, Try.ntmps14
  go_wp2_with fail
  have B0 : Hid (Below w.heap.size w ((w.alloc (.cells #[.int .i64 0, .int .i64 0, .string ⟨#[]⟩, .slice none 0 0] 25)).alloc (.cells #[.slice p n cap, .int .i64 0] 66))) := ((Below.refl _ _).alloc (Nat.le_refl _) _).alloc (by simp) _
  have R0 : Hid (RB ((w.alloc (.cells #[.int .i64 0, .int .i64 0, .string ⟨#[]⟩, .slice none 0 0] 25)).alloc (.cells #[.slice p n cap, .int .i64 0] 66)) w.heap.size) := by
    refine RB.next (w := w.alloc (.cells #[.int .i64 0, .int .i64 0, .string ⟨#[]⟩, .slice none 0 0] 25)) ⟨⟨_, by simp [go_sem]; rfl⟩, ⟨_, by simp [go_sem]; rfl⟩, ⟨_, by simp [go_sem]; rfl⟩, ⟨_, by simp [go_sem]; rfl⟩, by simp [go_sem], by simp [go_sem], by simp [go_sem], by simp [go_sem], by simp⟩ ((Below.refl _ _).alloc (Nat.le_refl _) _)
  have S0 : Hid (Src ((w.alloc (.cells #[.int .i64 0, .int .i64 0, .string ⟨#[]⟩, .slice none 0 0] 25)).alloc (.cells #[.slice p n cap, .int .i64 0] 66)) (w.heap.size + 1) (.slice p n cap) n 0) := by
    refine ⟨by simp [go_sem], by simp [go_sem], by simp [go_sem], by simp, ?_⟩
    obtain ⟨p', cap', h1, h2, h3⟩ := H.out
    refine ⟨p', cap', h1, h2, fun i hi => ?_⟩
    obtain ⟨B, O, x, q1, q2, q3⟩ := h3 i hi
    exact ⟨B, O, x, q1, Nat.lt_succ_of_lt q2, by rw [B0.out.cell (p := ⟨B, O + i, none⟩) q2]; exact q3⟩
  have Z0 : Hid (((w.alloc (.cells #[.int .i64 0, .int .i64 0, .string ⟨#[]⟩, .slice none 0 0] 25)).alloc (.cells #[.slice p n cap, .int .i64 0] 66)).heap.size = w.heap.size + 2) := by unfold Hid; simp
  generalize (w.alloc (.cells #[.int .i64 0, .int .i64 0, .string ⟨#[]⟩, .slice none 0 0] 25)).alloc (.cells #[.slice p n cap, .int .i64 0] 66) = w1 at *
  refine (bexpr_four (w.heap.size + 1) (.slice p n cap) n 0 sc kind 4 w1 S0.out (by omega) HS.out HK.out rfl).mono ?_
  rintro e wx ⟨c, rfl, hp, hc, ⟨⟨t9, h91, h92, hS⟩, hg⟩⟩
  have RX : Hid (RB wx w.heap.size) := R0.out.grown hg (by simp)
  have CX : Hid (ChAt wx (w.heap.size + 1) c) := hc.mono (by rw [Z0.out]; omega)
  have BX : Hid (Below w.heap.size w wx) := B0.out.grown hg (by rw [Z0.out]; omega) (fun m hm => by cases hm; omega)
  have PX := Lib.hid hp
  clear hS hg hc hp
  obtain ⟨⟨u0, q0⟩, ⟨u1, q1⟩, ⟨u2, q2⟩, ⟨u3, q3⟩, f0, f1, f2, f3, rlt⟩ := RX.out
  go_wp2
  refine bodyPost_ret (v := .agg #[.int .i64 c.a.op, .int .i64 c.a.num, .string c.a.name, .slice c.a.ptr (len c.k) c.a.cap]) ?_ rfl ⟨c, rfl, PX.out, (ch_four CX.out).1, BX.out.trans below_four⟩
  rw [results_cell1 rfl]
  go_simp

/-- The built constants. -/
def bcs (g : Nat) : List Cn := [⟨twoN, 0, 0, ⟨1, 2, ⟨#[]⟩, none, 0⟩, .nil⟩, ⟨shiftN, g, 0, ⟨10, 0, ⟨#[]⟩, some ⟨g, 0, none⟩, 2⟩, .node 0 0 ⟨6, 0, twoN, none, 0⟩ .nil (.node 0 0 ⟨2, 45, ⟨#[]⟩, none, 0⟩ .nil .nil)⟩]
theorem bcs_look (g : Nat) : LookOk (lookT (bcs g) (tabN (bcs g) (bcs g).length)) := ⟨by kernel_rfl, by kernel_rfl⟩
theorem bcs_ok (g : Nat) : CsOk (bcs g) := by
  intro c hc
  simp only [bcs, List.mem_cons, List.not_mem_nil, or_false] at hc
  rcases hc with rfl | rfl
  · simp only [CnOk, ExOk, NdOk, FoOk, len]; decide
  · simp only [CnOk, ExOk, NdOk, FoOk, len]; decide
def CPost (w : World) (e : Ending) (w' : World) : Prop := ∃ (cs : List Cn) (p : Option Addr) (cap : Nat), e = .returned (.slice p cs.length cap) ∧ CsV w' cs p ∧ LookOk (lookT cs (tabN cs cs.length)) ∧ cs.length ≤ cap ∧ Below w.heap.size w w'

set_option maxHeartbeats 4000000 in
set_option maxRecDepth 100000 in
theorem bconsts_any (w : World) : Calls Try.prog 13 #[] w (CPost w) := by
  go_enter Try.func13, Try.ntmps13
  go_wp2
  go_ret
  refine ⟨bcs w.heap.size, some ⟨w.heap.size + 1, 0, none⟩, 2, rfl, ⟨⟨w.heap.size + 1, 0, fun _ => rfl, ?_⟩, bcs_ok _, Nat.le_trans (show (bcs w.heap.size).length ≤ 2 from Nat.le_refl 2) (by decide)⟩, bcs_look _, Nat.le_refl 2, ((Below.refl _ _).alloc (Nat.le_refl _) _).alloc (by simp) _⟩
  refine ⟨⟨by simp [go_sem]; rfl, by simp [go_sem], by simp [go_sem], by simp [go_sem], by simp [go_sem, len]⟩, ⟨fun q => absurd rfl q, trivial⟩, ⟨by simp [go_sem]; rfl, by simp [go_sem], by simp [go_sem], by simp [go_sem], by simp [go_sem, len]⟩, ⟨fun _ => rfl, ⟨by simp [go_sem], by simp [go_sem], by simp [go_sem]; rfl, by simp [go_sem, len]⟩, fun q => absurd rfl q, trivial, ⟨by simp [go_sem], by simp [go_sem], by simp [go_sem], by simp [go_sem, len]⟩, fun q => absurd rfl q, trivial, trivial⟩, trivial⟩

theorem and_255 (n : Int) : bits .and .i64 n 255 = n % 256 := by
  have h127 : (BitVec.ofInt 64 255).toNat = 2 ^ 8 - 1 := by decide
  have key : (BitVec.ofInt 64 n &&& BitVec.ofInt 64 255).toNat = (n % ((2 ^ 64 : Nat) : Int)).toNat % 2 ^ 8 := by
    rw [BitVec.toNat_and, BitVec.toNat_ofInt, h127, Nat.and_two_pow_sub_one_eq_mod]
  show IntKind.i64.wrap ((BitVec.ofInt 64 n &&& BitVec.ofInt 64 255).toNat : Nat) = n % 256
  rw [key, IntKind.wrap_i64]
  omega
theorem and_3 (n : Int) : bits .and .i64 n 3 = n % 4 := by
  have h127 : (BitVec.ofInt 64 3).toNat = 2 ^ 2 - 1 := by decide
  have key : (BitVec.ofInt 64 n &&& BitVec.ofInt 64 3).toNat = (n % ((2 ^ 64 : Nat) : Int)).toNat % 2 ^ 2 := by
    rw [BitVec.toNat_and, BitVec.toNat_ofInt, h127, Nat.and_two_pow_sub_one_eq_mod]
  show IntKind.i64.wrap ((BitVec.ofInt 64 n &&& BitVec.ofInt 64 3).toNat : Nat) = n % 4
  rw [key, IntKind.wrap_i64]
  omega
theorem tmod_in (z k : Int) (h : 0 ≤ z) (hk : 0 < k) : 0 ≤ z.tmod k ∧ z.tmod k < k := by
  rw [Int.tmod_eq_emod_of_nonneg h]
  exact ⟨Int.emod_nonneg _ (by omega), Int.emod_lt_of_pos _ hk⟩
theorem foge0 (T : Fo) (B : Nat) : FoGe 0 T B := by
  induction T generalizing B with
  | nil => trivial
  | node b o a k r ihk ihr => exact ⟨Nat.zero_le _, ihk _, ihr _⟩
/-- What TypeOf answers for a built expression. -/
theorem built_type {cs : List Cn} {sc kind : Int} {lv : Nat} {a : Nd} {k : Fo} (h : Plain sc kind lv a k) (hl : lv ≤ 5) (hlook : LookOk (lookT cs (tabN cs cs.length))) : typeOfT cs sc a k = (kind, 0) := by
  unfold typeOfT
  rw [if_pos (h.val hl)]
  exact h.ty _ hlook

set_option maxHeartbeats 8000000 in
set_option maxRecDepth 100000 in
theorem walk_typesBuilt (v : Value) (n : Nat) (a1 a2 : Int) (w : World) (h : IntsL w v n w.heap.size) (w1 : (Lit.int .i64 a1).wf = true) (w2 : (Lit.int .i64 a2).wf = true) :
    Calls Try.prog 4 #[v, .int .i64 a1, .int .i64 a2] w fun e w' => e = .returned (.bool true) ∧ Below w.heap.size w w' := by
  clear w1 w2
  have H := Lib.hid h
  obtain ⟨p, cap, rfl, -, -⟩ := h
  obtain ⟨z1, hz1⟩ : ∃ z, (bits BinOp.and IntKind.i64 a1 255).tmod 3 = z := ⟨_, rfl⟩
  have hz1b : 0 ≤ z1 ∧ z1 < 3 := by rw [← hz1]; exact tmod_in _ _ (by rw [and_255]; omega) (by omega)
  obtain ⟨z2, hz2⟩ : ∃ z, bits BinOp.and IntKind.i64 a2 3 = z := ⟨_, rfl⟩
  have hz2b : 0 ≤ z2 ∧ z2 < 4 := by rw [← hz2, and_3]; omega
  obtain ⟨sc, hsc, hscb⟩ : ∃ sc, IntKind.i64.wrap (1 + z1) = sc ∧ (sc = 1 ∨ sc = 2 ∨ sc = 3) := ⟨1 + z1, IntWalk.i64_in _ (by omega), by omega⟩
  obtain ⟨kind, hkd, hkdb⟩ : ∃ kd, IntKind.i64.wrap (1 + z2) = kd ∧ (kd = 1 ∨ kd = 2 ∨ kd = 3 ∨ kd = 4) := ⟨1 + z2, IntWalk.i64_in _ (by omega), by omega⟩
  have HS := Lib.hid hscb
  have HK := Lib.hid hkdb
  clear hscb hkdb hz1b hz2b
  have AW := Lib.hid awake_any
  go_enter Try.func4, Try.ntmps4
  go_wp2_with fail
  clear hz1 hz2 hsc hkd
  refine (bconsts_any w).mono ?_
  rintro e x1 ⟨cs, cp, ccap, rfl, hcs, hlk, hcc, hb⟩
  have CS1 := Lib.hid hcs
  have LK := Lib.hid hlk
  have B1 := Lib.hid hb
  clear hcs hlk hb
  go_wp2_with fail
  refine (bExpr_any (.slice p n cap) n sc kind x1 ?_ HS.out HK.out).mono ?_
  · obtain ⟨p', cap', h1, h2, h3⟩ := H.out
    refine ⟨p', cap', h1, h2, fun i hi => ?_⟩
    obtain ⟨B, O, x, q1, q2, q3⟩ := h3 i hi
    exact ⟨B, O, x, q1, Nat.lt_of_lt_of_le q2 B1.out.size, by rw [B1.out.cell (p := ⟨B, O + i, none⟩) q2]; exact q3⟩
  rintro e x2 ⟨c, rfl, hp, hx, hb⟩
  have CS2 := Lib.hid (CS1.out.next hb)
  have B2 := Lib.hid (B1.out.trans (hb.mono B1.out.size))
  have PX := Lib.hid hp
  have X2 := Lib.hid hx
  clear hb hp hx
  go_wp2_with fail
  have K0 : Hid (Below x2.heap.size x2 (x2.alloc (.cells #[.int .i64 c.a.op, .int .i64 c.a.num, .string c.a.name, .slice c.a.ptr (len c.k) c.a.cap] 25))) := (Below.refl _ _).alloc (Nat.le_refl _) _
  have BX : Hid (∀ wr, Below (x2.heap.size + 1) (x2.alloc (.cells #[.int .i64 c.a.op, .int .i64 c.a.num, .string c.a.name, .slice c.a.ptr (len c.k) c.a.cap] 25)) wr →
      wr.cell? ⟨x2.heap.size, 0, none⟩ = some (.int .i64 c.a.op) ∧ wr.cell? ⟨x2.heap.size, 1, none⟩ = some (.int .i64 c.a.num) ∧ wr.cell? ⟨x2.heap.size, 2, none⟩ = some (.string c.a.name) ∧ wr.cell? ⟨x2.heap.size, 3, none⟩ = some (.slice c.a.ptr (len c.k) c.a.cap)) := by
    intro wr hb
    refine ⟨?_, ?_, ?_, ?_⟩
    · rw [hb.cell (p := ⟨x2.heap.size, 0, none⟩) (by simp)]; simp [go_sem]
    · rw [hb.cell (p := ⟨x2.heap.size, 1, none⟩) (by simp)]; simp [go_sem]
    · rw [hb.cell (p := ⟨x2.heap.size, 2, none⟩) (by simp)]; simp [go_sem]
    · rw [hb.cell (p := ⟨x2.heap.size, 3, none⟩) (by simp)]; simp [go_sem]
  have hz0 : Hid ((x2.alloc (.cells #[.int .i64 c.a.op, .int .i64 c.a.num, .string c.a.name, .slice c.a.ptr (len c.k) c.a.cap] 25)).heap.size = x2.heap.size + 1) := by unfold Hid; simp
  generalize x2.alloc (.cells #[.int .i64 c.a.op, .int .i64 c.a.num, .string c.a.name, .slice c.a.ptr (len c.k) c.a.cap] 25) = x3 at *
  have CS3 := Lib.hid (CS2.out.next K0.out)
  have X3 := Lib.hid (X2.out.next K0.out)
  have B3 := Lib.hid (B2.out.trans (K0.out.mono B2.out.size))
  have T1 := typeof_any cs cp ccap sc c.b c.o c.a.op c.a.num c.a.name c.a.ptr c.a.cap c.k x3 CS3.out X3.out PX.out.ok
  rw [show typeOfT cs sc ⟨c.a.op, c.a.num, c.a.name, c.a.ptr, c.a.cap⟩ c.k = (kind, 0) from built_type PX.out (by omega) LK.out] at T1
  refine T1.mono ?_
  clear T1
  rintro e x4 ⟨rfl, hb⟩
  have Y4 : Hid (Below (x2.heap.size + 1) x3 x4) := by rw [← hz0.out]; exact hb
  have CS4 := Lib.hid (CS3.out.next hb)
  have X4 := Lib.hid (X3.out.next hb)
  have B4 := Lib.hid (B3.out.trans (hb.mono B3.out.size))
  have hz4 : Hid (x2.heap.size + 1 ≤ x4.heap.size) := by unfold Hid; rw [← hz0.out]; exact hb.size
  clear hb
  have Y5 : Hid (Below (x2.heap.size + 1) x3 (x4.alloc (.cells #[.int .i64 4, .int .i64 0, .string ⟨#[]⟩, .slice none 0 0] 25))) := Y4.out.alloc hz4.out _
  have A5 : Hid (Below x4.heap.size x4 (x4.alloc (.cells #[.int .i64 4, .int .i64 0, .string ⟨#[]⟩, .slice none 0 0] 25))) := (Below.refl _ _).alloc (Nat.le_refl _) _
  obtain ⟨c0, c1, c2, c3⟩ := BX.out _ Y4.out
  have hzz : x2.heap.size < x4.heap.size := hz4.out
  go_wp2_with fail
  generalize hx5 : x4.alloc (.cells #[.int .i64 4, .int .i64 0, .string ⟨#[]⟩, .slice none 0 0] 25) = x5 at *
  have CS5 := Lib.hid (CS4.out.next A5.out)
  have X5 := Lib.hid (X4.out.next A5.out)
  have B5 := Lib.hid (B4.out.trans (A5.out.mono B4.out.size))
  have HZ5 : Hid (x5.heap.size = x4.heap.size + 1) := by unfold Hid; rw [← hx5]; simp
  have SZx5 : Hid (x2.heap.size + 1 ≤ x5.heap.size) := by unfold Hid; rw [HZ5.out]; have := hz4.out; omega
  have CSx5 := CS5
  have Xx5 := X5
  have Bx5 := B5
  have Yx5 := Y5
  clear hx5 c0 c1 c2 c3
  have PY : Hid (Plain sc 4 4 ⟨4, 0, ⟨#[]⟩, none, 0⟩ .nil) := (plain_lit sc 4 0 4 rfl (by decide) (by decide) rfl (by decide)).mono (by omega)
  have RN := Lib.hid (row_new (w := x5) (B0 := 0) [⟨0, 0, ⟨4, 0, ⟨#[]⟩, none, 0⟩, .nil⟩, c, c] (by intro d hd; simp only [List.mem_cons, List.not_mem_nil, or_false] at hd; rcases hd with rfl | rfl | rfl; exact ⟨⟨fun q => absurd rfl q, trivial⟩, trivial⟩; exact ⟨Xx5.out, foge0 _ _⟩; exact ⟨Xx5.out, foge0 _ _⟩) (Nat.zero_le _) 25 #[.int .i64 4, .int .i64 0, .string ⟨#[]⟩, .slice none 0 0, .int .i64 c.a.op, .int .i64 c.a.num, .string c.a.name, .slice c.a.ptr (len c.k) c.a.cap, .int .i64 c.a.op, .int .i64 c.a.num, .string c.a.name, .slice c.a.ptr (len c.k) c.a.cap] rfl)
  have AA : Hid (Below x5.heap.size x5 (x5.alloc (.cells #[.int .i64 4, .int .i64 0, .string ⟨#[]⟩, .slice none 0 0, .int .i64 c.a.op, .int .i64 c.a.num, .string c.a.name, .slice c.a.ptr (len c.k) c.a.cap, .int .i64 c.a.op, .int .i64 c.a.num, .string c.a.name, .slice c.a.ptr (len c.k) c.a.cap] 25))) := (Below.refl _ _).alloc (Nat.le_refl _) _
  generalize x5.alloc (.cells #[.int .i64 4, .int .i64 0, .string ⟨#[]⟩, .slice none 0 0, .int .i64 c.a.op, .int .i64 c.a.num, .string c.a.name, .slice c.a.ptr (len c.k) c.a.cap, .int .i64 c.a.op, .int .i64 c.a.num, .string c.a.name, .slice c.a.ptr (len c.k) c.a.cap] 25) = xr at *
  have T1 := typeof_any cs cp ccap sc x5.heap.size 0 14 0 ⟨#[]⟩ (some ⟨x5.heap.size, 0, none⟩) 3 (rowF [⟨0, 0, ⟨4, 0, ⟨#[]⟩, none, 0⟩, .nil⟩, c, c]) xr (CSx5.out.next AA.out) ⟨fun _ => rfl, RN.out.1⟩ (node_val sc 4 [⟨0, 0, ⟨4, 0, ⟨#[]⟩, none, 0⟩, .nil⟩, c, c] [4, kind, kind] 14 ⟨PY.out, PX.out, PX.out, trivial⟩ (by simp) (by omega) (by omega) rfl _ _).2
  rw [built_type (plain_node sc 4 [⟨0, 0, ⟨4, 0, ⟨#[]⟩, none, 0⟩, .nil⟩, c, c] [4, kind, kind] 14 kind ⟨PY.out, PX.out, PX.out, trivial⟩ (by simp) (by omega) rfl (by rcases HK.out with rfl | rfl | rfl | rfl <;> rfl) (by have := HK.out; omega) _ _) (by omega) LK.out] at T1
  rw [HZ5.out] at T1
  refine T1.mono ?_
  clear T1
  rintro e x6 ⟨rfl, hb⟩
  have Sx6 : Hid (Below x5.heap.size x5 x6) := AA.out.trans (hb.mono AA.out.size)
  clear hb RN AA
  have Yx6 : Hid (Below (x2.heap.size + 1) x3 x6) := Yx5.out.trans (Sx6.out.mono (SZx5.out))
  have SZx6 : Hid (x2.heap.size + 1 ≤ x6.heap.size) := Nat.le_trans SZx5.out Sx6.out.size
  have CSx6 := Lib.hid (CSx5.out.next Sx6.out)
  have Xx6 := Lib.hid (Xx5.out.next Sx6.out)
  have Bx6 := Lib.hid (Bx5.out.trans (Sx6.out.mono Bx5.out.size))
  obtain ⟨c0, c1, c2, c3⟩ := BX.out _ Yx6.out
  have hzz6 : x2.heap.size < x6.heap.size := SZx6.out
  go_wp2_with fail
  have RN := Lib.hid (row_new (w := x6) (B0 := 0) [c, c] (by intro d hd; simp only [List.mem_cons, List.not_mem_nil, or_false] at hd; rcases hd with rfl | rfl; exact ⟨Xx6.out, foge0 _ _⟩; exact ⟨Xx6.out, foge0 _ _⟩) (Nat.zero_le _) 25 #[.int .i64 c.a.op, .int .i64 c.a.num, .string c.a.name, .slice c.a.ptr (len c.k) c.a.cap, .int .i64 c.a.op, .int .i64 c.a.num, .string c.a.name, .slice c.a.ptr (len c.k) c.a.cap] rfl)
  have AA : Hid (Below x6.heap.size x6 (x6.alloc (.cells #[.int .i64 c.a.op, .int .i64 c.a.num, .string c.a.name, .slice c.a.ptr (len c.k) c.a.cap, .int .i64 c.a.op, .int .i64 c.a.num, .string c.a.name, .slice c.a.ptr (len c.k) c.a.cap] 25))) := (Below.refl _ _).alloc (Nat.le_refl _) _
  generalize x6.alloc (.cells #[.int .i64 c.a.op, .int .i64 c.a.num, .string c.a.name, .slice c.a.ptr (len c.k) c.a.cap, .int .i64 c.a.op, .int .i64 c.a.num, .string c.a.name, .slice c.a.ptr (len c.k) c.a.cap] 25) = xr at *
  have T1 := typeof_any cs cp ccap sc x6.heap.size 0 18 0 ⟨#[]⟩ (some ⟨x6.heap.size, 0, none⟩) 2 (rowF [c, c]) xr (CSx6.out.next AA.out) ⟨fun _ => rfl, RN.out.1⟩ (node_val sc 4 [c, c] [kind, kind] 18 ⟨PX.out, PX.out, trivial⟩ (by simp) (by omega) (by omega) rfl _ _).2
  rw [built_type (plain_node sc 4 [c, c] [kind, kind] 18 4 ⟨PX.out, PX.out, trivial⟩ (by simp) (by omega) rfl (by rcases HK.out with rfl | rfl | rfl | rfl <;> rfl) (by omega) _ _) (by omega) LK.out] at T1
  refine T1.mono ?_
  clear T1
  rintro e x7 ⟨rfl, hb⟩
  have Sx7 : Hid (Below x6.heap.size x6 x7) := AA.out.trans (hb.mono AA.out.size)
  clear hb RN AA
  have Yx7 : Hid (Below (x2.heap.size + 1) x3 x7) := Yx6.out.trans (Sx7.out.mono (SZx6.out))
  have SZx7 : Hid (x2.heap.size + 1 ≤ x7.heap.size) := Nat.le_trans SZx6.out Sx7.out.size
  have CSx7 := Lib.hid (CSx6.out.next Sx7.out)
  have Xx7 := Lib.hid (Xx6.out.next Sx7.out)
  have Bx7 := Lib.hid (Bx6.out.trans (Sx7.out.mono Bx6.out.size))
  clear c0 c1 c2 c3
  obtain ⟨c0, c1, c2, c3⟩ := BX.out _ Yx7.out
  have hzz7 : x2.heap.size < x7.heap.size := SZx7.out
  go_wp2_with fail
  have RN := Lib.hid (row_new (w := x7) (B0 := 0) [c] (by intro d hd; simp only [List.mem_cons, List.not_mem_nil, or_false] at hd; subst hd; exact ⟨Xx7.out, foge0 _ _⟩) (Nat.zero_le _) 25 #[.int .i64 c.a.op, .int .i64 c.a.num, .string c.a.name, .slice c.a.ptr (len c.k) c.a.cap] rfl)
  have AA : Hid (Below x7.heap.size x7 (x7.alloc (.cells #[.int .i64 c.a.op, .int .i64 c.a.num, .string c.a.name, .slice c.a.ptr (len c.k) c.a.cap] 25))) := (Below.refl _ _).alloc (Nat.le_refl _) _
  generalize x7.alloc (.cells #[.int .i64 c.a.op, .int .i64 c.a.num, .string c.a.name, .slice c.a.ptr (len c.k) c.a.cap] 25) = xr at *
  have T1 := typeof_any cs cp ccap sc x7.heap.size 0 7 0 ⟨#[]⟩ (some ⟨x7.heap.size, 0, none⟩) 1 (rowF [c]) xr (CSx7.out.next AA.out) ⟨fun _ => rfl, RN.out.1⟩ (node_val sc 4 [c] [kind] 7 ⟨PX.out, trivial⟩ (by simp) (by omega) (by omega) rfl _ _).2
  rw [show typeOfT cs sc ⟨7, 0, ⟨#[]⟩, some ⟨x7.heap.size, 0, none⟩, 1⟩ (rowF [c]) = if resT 7 [kind] = 0 then (0, 9) else (resT 7 [kind], 0) from by
    unfold typeOfT
    rw [if_pos (node_val sc 4 [c] [kind] 7 ⟨PX.out, trivial⟩ (by simp) (by omega) (by omega) rfl _ _).1]
    exact node_type sc 4 [c] [kind] 7 ⟨PX.out, trivial⟩ (by omega) _ LK.out _ _] at T1
  obtain ⟨RK, hRK⟩ : ∃ RK : Int × Int, RK = if resT 7 [kind] = 0 then ((0 : Int), (9 : Int)) else (resT 7 [kind], 0) := ⟨_, rfl⟩
  rw [← hRK] at T1
  have HRK := Lib.hid hRK
  clear hRK
  refine T1.mono ?_
  clear T1
  rintro e x8 ⟨rfl, hb⟩
  have Sx8 : Hid (Below x7.heap.size x7 x8) := AA.out.trans (hb.mono AA.out.size)
  clear hb RN AA
  have Yx8 : Hid (Below (x2.heap.size + 1) x3 x8) := Yx7.out.trans (Sx8.out.mono (SZx7.out))
  have SZx8 : Hid (x2.heap.size + 1 ≤ x8.heap.size) := Nat.le_trans SZx7.out Sx8.out.size
  have CSx8 := Lib.hid (CSx7.out.next Sx8.out)
  have Xx8 := Lib.hid (Xx7.out.next Sx8.out)
  have Bx8 := Lib.hid (Bx7.out.trans (Sx8.out.mono Bx7.out.size))
  clear c0 c1 c2 c3
  rcases HK.out with rfl | rfl | rfl | rfl
  · obtain rfl : RK = (1, 0) := HRK.out
    go_wp2_with fail
    refine (AW.out x8).mono ?_
    rintro e x9 ⟨rfl, hb⟩
    have B9 := Lib.hid (Bx8.out.trans (hb.mono Bx8.out.size))
    clear hb
    go_wp2
    go_ret
    exact ⟨rfl, B9.out⟩
  · obtain rfl : RK = (2, 0) := HRK.out
    go_wp2_with fail
    refine (AW.out x8).mono ?_
    rintro e x9 ⟨rfl, hb⟩
    have B9 := Lib.hid (Bx8.out.trans (hb.mono Bx8.out.size))
    clear hb
    go_wp2
    go_ret
    exact ⟨rfl, B9.out⟩
  · obtain rfl : RK = (0, 9) := HRK.out
    go_wp2_with fail
    refine (AW.out x8).mono ?_
    rintro e x9 ⟨rfl, hb⟩
    have B9 := Lib.hid (Bx8.out.trans (hb.mono Bx8.out.size))
    clear hb
    go_wp2
    go_ret
    exact ⟨rfl, B9.out⟩
  · obtain rfl : RK = (0, 9) := HRK.out
    go_wp2_with fail
    refine (AW.out x8).mono ?_
    rintro e x9 ⟨rfl, hb⟩
    have B9 := Lib.hid (Bx8.out.trans (hb.mono Bx8.out.size))
    clear hb
    go_wp2
    go_ret
    exact ⟨rfl, B9.out⟩

set_option maxRecDepth 100000 in
/-- An argument that is a list of numbers. -/
theorem open_intsl {H : Type} {enc : TypeId × Value → H} {w : World} {base : Nat} {spare : Nat → Bool} {held : Bool} {v : Value} {d : DataW H} {p : List MemPlace} {r : Reach} {b0 : Nat}
    (hv : Value.okWide Try.prog w r b0 33 v) (h : DataW.Trod enc Try.prog w base spare held 33 v d p) : ∃ n, IntsL w v n w.heap.size := by
  obtain ⟨a, n, cap, rfl⟩ := okWide_slice Try.underlying33 hv
  obtain ⟨fuel, hf⟩ := h
  rcases open_ints Try.underlying33 Try.underlying3 Try.cellsI hf with ⟨he, -⟩ | ⟨a', n', cap', zs, he, -, hl, hm, hz, -, hc, -⟩
  · have he' : [Value.slice a n cap] = [Value.slice none 0 0] := he
    simp only [List.cons.injEq, and_true] at he'
    exact ⟨0, none, 0, he', Nat.zero_le _, fun i hi => absurd hi (Nat.not_lt_zero _)⟩
  · have he' : [Value.slice a n cap] = [Value.slice (some a') n' cap'] := he
    simp only [List.cons.injEq, and_true] at he'
    have hzn : n' ≤ zs.length := by rw [hz]; split <;> omega
    refine ⟨n', some a', cap', he', Nat.le_trans hl hm, fun i hi => ?_⟩
    have q := hc i (by omega)
    have q0 := hc 0 (by omega)
    have hs : a'.spot = none := spot_none (by simpa [Addr.add] using q0)
    rw [addr_add0 _ _ hs] at q
    obtain ⟨B, O, sp⟩ := a'
    dsimp only at hs q
    subst hs
    exact ⟨B, O, _, rfl, block_lt_of_cell q, q⟩

end Go.Proofs.Ytijbjnbbglcacaa
