/-
  The walk of EvalBuilt.
-/
import Derived.Test.YtinbkhchhlkjgaaGreatGl
import Derived.Test.YtinbkhchhlkjgaaGreatEaw
import Derived.Test.YtinbkhchhlkjgaaGreatEev
import Derived.Test.YtinbkhchhlkjgaaGreatRvz
import Derived.Deep.AppendLies
import Derived.Deep.CutBlock
import Derived.Deep.DeepCutAuto
namespace Go.Proofs.YtinbkhchhlkjgaaGreat
set_option linter.unusedVariables false
set_option linter.unusedSimpArgs false
open Go.ChangeShapes Go.WideShapes Go.ChangeAt Go.RowKit
open Go.Deep (BT)

theorem intsl_fore {w w' : World} {v : Value} {n s : Nat} (h : IntsL w v n s) (hb : Below w.heap.size w w') (hs : s ≤ w.heap.size) : IntsL w' v n w'.heap.size := by
  obtain ⟨p, cap, h1, h2, h3⟩ := h
  refine ⟨p, cap, h1, h2, fun i hi => ?_⟩
  obtain ⟨B, O, x, q1, q2, q3⟩ := h3 i hi
  have hB : B < w.heap.size := Nat.lt_of_lt_of_le q2 hs
  exact ⟨B, O, x, q1, Nat.lt_of_lt_of_le hB hb.size, by rw [hb.cell (p := ⟨B, O + i, none⟩) hB]; exact q3⟩
/-- What both Evals answer, of an expression in a box. -/
theorem eval_ch {cs : List Cn} {p : Option Addr} {cap : Nat} {sc : Int} {L : List Av} {ap : Option Addr} {apc : Nat} {r1 r2 r3 : Int} (c : Ch) (w : World) (hcs : CsV w cs p) (hav : AvV w L ap) (hx : ExAt w c.b c.o c.a c.k) (hok : ExOk c.a c.k) (he : evR cs sc L c.a c.k = (r1, r2, r3)) :
    Calls Tryz.prog 7 #[.slice p cs.length cap, .int .i64 sc, .slice ap L.length apc, .agg #[.int .i64 c.a.op, .int .i64 c.a.num, .string c.a.name, .slice c.a.ptr (len c.k) c.a.cap]] w
      fun e w' => e = .returned (.tuple #[.agg #[.int .i64 r1, .int .i64 r2], .int .i64 r3]) ∧ Below w.heap.size w w' := by
  have q := eval_any cs p cap sc L ap apc c.b c.o c.a.op c.a.num c.a.name c.a.ptr c.a.cap c.k w hcs hav hx hok
  rw [show evR cs sc L ⟨c.a.op, c.a.num, c.a.name, c.a.ptr, c.a.cap⟩ c.k = (r1, r2, r3) from he] at q
  exact q
theorem reval_ch {cs : List Cn} {p : Option Addr} {cap : Nat} {sc : Int} {L : List Av} {ap : Option Addr} {apc : Nat} {r1 r2 r3 : Int} (c : Ch) (w : World) (hcs : CsV w cs p) (hcap : cs.length ≤ cap) (hav : AvV w L ap) (hx : ExAt w c.b c.o c.a c.k) (hok : ExOk c.a c.k) (he : evR cs sc L c.a c.k = (r1, r2, r3)) :
    Calls Tryz.prog 8 #[.slice p cs.length cap, .int .i64 sc, .slice ap L.length apc, .agg #[.int .i64 c.a.op, .int .i64 c.a.num, .string c.a.name, .slice c.a.ptr (len c.k) c.a.cap]] w
      fun e w' => e = .returned (.tuple #[.agg #[.int .i64 r1, .int .i64 r2], .int .i64 r3]) ∧ Below w.heap.size w w' := by
  have q := reval_any cs p cap sc L ap apc c.b c.o c.a.op c.a.num c.a.name c.a.ptr c.a.cap c.k w hcs hcap hav hx hok
  rw [show evR cs sc L ⟨c.a.op, c.a.num, c.a.name, c.a.ptr, c.a.cap⟩ c.k = (r1, r2, r3) from he] at q
  exact q
theorem list_ne (sc : Int) (h : sc = 1 ∨ sc = 2 ∨ sc = 3) : 0 < (Att.listL sc).length := by rcases h with rfl | rfl | rfl <;> decide

theorem avC_at {w : World} {L : List Av} {B O : Nat} (h : AvAt w L B O) : ∀ j u, (avC L)[j]? = some u → w.cell? ⟨B, O + j, none⟩ = some u := by
  induction L generalizing O with
  | nil => intro j u hu; simp [avC] at hu
  | cons a l ih =>
    intro j u hu
    have e : avC (a :: l) = [.string a.name, .int .i64 a.val] ++ avC l := by simp [avC]
    rw [e] at hu
    match j with
    | 0 => simp at hu; subst hu; exact h.1.1
    | 1 => simp at hu; subst hu; exact h.1.2
    | j + 2 =>
      rw [List.getElem?_append_right (by simp)] at hu
      have := ih h.2 j u (by simpa using hu)
      rw [show O + 2 + j = O + (j + 2) by omega] at this
      exact this
theorem avC_take (L : List Av) (k : Nat) : avC (L.take k) = (avC L).take (k * 2) := by
  induction L generalizing k with
  | nil => simp [avC]
  | cons a l ih =>
    cases k with
    | zero => simp [avC]
    | succ k =>
      have e : ∀ (b : Av) (m : List Av), avC (b :: m) = .string b.name :: .int .i64 b.val :: avC m := fun b m => by simp [avC]
      rw [List.take_succ_cons, e, e, ih, show (k + 1) * 2 = k * 2 + 1 + 1 by omega, List.take_succ_cons, List.take_succ_cons]
theorem avC_drop (L : List Av) (k : Nat) : avC (L.drop k) = (avC L).drop (k * 2) := by
  induction L generalizing k with
  | nil => simp [avC]
  | cons a l ih =>
    cases k with
    | zero => simp
    | succ k =>
      have e : ∀ (b : Av) (m : List Av), avC (b :: m) = .string b.name :: .int .i64 b.val :: avC m := fun b m => by simp [avC]
      rw [List.drop_succ_cons, e, ih, show (k + 1) * 2 = k * 2 + 1 + 1 by omega, List.drop_succ_cons, List.drop_succ_cons]
theorem avC_one (L : List Av) : ∀ u ∈ avC L, u.oneCell' = true := by
  intro u hu
  simp only [avC, List.mem_flatMap] at hu
  obtain ⟨a, -, ha⟩ := hu
  simp only [List.mem_cons, List.not_mem_nil, or_false] at ha
  rcases ha with rfl | rfl <;> rfl
theorem addr_add (B O j : Nat) : (⟨B, O, none⟩ : Addr).add j = ⟨B, O + j, none⟩ := by unfold Addr.add; simp
/-- An append at a step of a region that draws, of any number of cells. -/
theorem step_append_at {P : Program} (w : World) {ops : Array Oper} {o : Oper} {a : Act} {K : Act → World → Prop} {Q : Exit → Act → World → Prop} {E : Prop} (hgd : o.guard = none) (s x : Operand) (t : TypeId)
    (ho : o.op = .call { callee := .builtin .append, args := #[s, x], argTypes := #[t, t] })
    (base : Nat) (e : TypeId) (i : TypeInfo) (z : Value) (size bytes : Nat) (ht : P.underlying t = some (.slice e)) (hi : P.info? e = some i) (hz : i.zero = some z)
    (hsize : i.size = size) (hby : i.bytes = bytes) (hzs : z.cells.size = size) (hsz : 0 < size)
    (v : Value) (n : Nat) (xs : List Value) (hs : a.eval s = v) (hown : w.ownsRow base e size v n xs)
    (ad : Addr) (m c : Nat) (news : List Value) (hx : a.eval x = .slice (some ad) m c) (hl : news.length = m * size) (hnews : ∀ j u, news[j]? = some u → w.cell? (ad.add j) = some u) (h1 : ∀ u ∈ news, u.oneCell' = true)
    (h63 : n + m ≤ maxLen) (hbytes : (n + m) * bytes ≤ 140737488355328) (hbase : base ≤ w.heap.size)
    (h : ∀ v' w', w'.ownsRow base e size v' (n + m) (xs ++ news) → w.grownBy w' v.ownBlock → (v'.ownBlock = v.ownBlock ∨ v'.ownBlock = some w.heap.size) → K (a.put o.dst v') w') :
    if Region.wanted o (yielded ops a.tmps) = true then Oper.wp P o a w K Q else E := by
  have hw : Region.wanted o (yielded ops a.tmps) = true := by simp [Region.wanted, hgd]
  rw [if_pos hw]
  obtain ⟨v', w', hr, h2, h3, _, h5⟩ := run_append_own_at (P := P) w base t o.type e i z size bytes ht hi hz hsize hby hzs hsz v n xs hown ad m c news hl hnews h1 h63 hbytes hbase
  unfold Oper.wp execOp
  simp only [ho, resolve, invoke, builtin, Sem.run_bind, Sem.run_pure, Result.andThen_ok, List.map_toArray, List.map_cons, List.map_nil, hs, hx, hr]
  exact h v' w' h2 h3 h5
/-- A row of attributes in a block of its own, read in any world that leaves that block alone. -/
def AvS (w : World) (base : Nat) (L : List Av) (q : Option Addr) : Prop := ∀ wr : World, (∀ p : Addr, base ≤ p.block → p.block < w.heap.size → wr.cell? p = w.cell? p) → AvV wr L q
theorem avS_of_own {w : World} {base n : Nat} {v : Value} {L : List Av} (h : w.ownsRow base 50 2 v n (avC L)) (hok : ∀ a ∈ L, AvOk a) (hn : n ≤ 2932031007402) : ∃ q cap, v = .slice q L.length cap ∧ AvS w base L q := by
  obtain ⟨p, cap, rfl, hcap, hav, hg⟩ := av_of_own h hok hn
  refine ⟨p, cap, rfl, fun wr hwr => ⟨?_, hok, hav.small⟩⟩
  by_cases hL : L = []
  · subst hL; exact ⟨0, 0, fun q => absurd rfl q, trivial⟩
  · obtain ⟨g, rfl⟩ := hg hL
    refine ⟨g, 0, fun _ => rfl, ?_⟩
    obtain ⟨⟨B, O, h1, h2⟩, -, -⟩ := hav
    have h3 := h1 hL
    injection h3 with h3
    injection h3 with h3 h4
    subst h3; subst h4
    have hl := h.1
    rw [avC_len] at hl
    have hpos : 0 < n := by have := List.length_pos_iff.2 hL; omega
    obtain ⟨g', cap', e1, e2, e3⟩ := h.form hpos
    injection e1 with e1
    injection e1 with e1
    injection e1 with e1
    subst e1
    refine av_of_cells L fun j u hu => ?_
    rw [hwr ⟨g, 0 + j, none⟩ e2 e3]
    exact avC_at h2 j u hu

set_option maxHeartbeats 8000000 in
set_option maxRecDepth 100000 in
theorem walk_evalBuilt (v0 : Value) (n0 : Nat) (v1 : Value) (n1 : Nat) (a2 a3 a4 : Int) (w : World) (h0 : IntsL w v0 n0 w.heap.size) (h1 : IntsL w v1 n1 w.heap.size) (_ : (Lit.int .i64 a2).wf = true) (_ : (Lit.int .i64 a3).wf = true) (_ : (Lit.int .i64 a4).wf = true) :
    Calls Tryz.prog 3 #[v0, v1, .int .i64 a2, .int .i64 a3, .int .i64 a4] w fun e w' => e = .returned (.bool true) ∧ Below w.heap.size w w' := by
  have H0 := Lib.hid h0
  have H1 := Lib.hid h1
  obtain ⟨p0, cap0, rfl, -, -⟩ := h0
  obtain ⟨p1, cap1, rfl, -, -⟩ := h1
  obtain ⟨i0, hi, hi0, hi1, hi2⟩ := info_parts Tryz.infoAt
  obtain ⟨z1, hz1⟩ : ∃ z, (bits BinOp.and IntKind.i64 a2 255).tmod 3 = z := ⟨_, rfl⟩
  have hz1b : 0 ≤ z1 ∧ z1 < 3 := by rw [← hz1]; exact tmod_in _ _ (by rw [and_255]; omega) (by omega)
  obtain ⟨sc, hsc, hscb⟩ : ∃ sc, IntKind.i64.wrap (1 + z1) = sc ∧ (sc = 1 ∨ sc = 2 ∨ sc = 3) := ⟨1 + z1, IntWalk.i64_in _ (by omega), by omega⟩
  have HS := Lib.hid hscb
  obtain ⟨z2, hz2⟩ : ∃ z, bits BinOp.and IntKind.i64 a3 3 = z := ⟨_, rfl⟩
  have hz2b : 0 ≤ z2 ∧ z2 < 4 := by rw [← hz2, and_3]; omega
  obtain ⟨kd, hkd, hkdb⟩ : ∃ kd, IntKind.i64.wrap (1 + z2) = kd ∧ (kd = 1 ∨ kd = 2 ∨ kd = 3 ∨ kd = 4) := ⟨1 + z2, IntWalk.i64_in _ (by omega), by omega⟩
  have HK := Lib.hid hkdb
  obtain ⟨z4, hz4⟩ : ∃ z, bits BinOp.and IntKind.i64 a4 65535 = z := ⟨_, rfl⟩
  have hz4b : 0 ≤ z4 := by rw [← hz4, and_ffff]; omega
  clear hscb hz1b hkdb hz2b
  have AW := Lib.hid eawake_any
  go_enter Tryz.func3, Tryz.ntmps3
  go_wp2_with fail
  clear hz1 hsc
  refine (bconsts_any w).mono ?_
  rintro e x1 ⟨cs, cp, ccap, rfl, hcs, hlk, hcc, hb⟩
  have CS1 := Lib.hid hcs
  have LK := Lib.hid hlk
  have B1 := Lib.hid hb
  clear hcs hlk hb
  go_wp2_with fail
  clear hz2 hkd
  refine (bExpr_any (.slice p0 n0 cap0) n0 sc kd x1 (intsl_fore H0.out B1.out (Nat.le_refl _)) HS.out HK.out).mono ?_
  rintro e x2 ⟨c, rfl, hp, hx, hb⟩
  have PB : Hid (Bx sc kd 40 4 c) := bx_plain hp
  have X2 := Lib.hid hx
  have CS2 := Lib.hid (CS1.out.next hb)
  have B2 := Lib.hid (B1.out.trans (hb.mono B1.out.size))
  clear hp hx hb
  have BX : Hid (∀ wr, Below (x2.heap.size + 1) (x2.alloc (.cells #[.int .i64 c.a.op, .int .i64 c.a.num, .string c.a.name, .slice c.a.ptr (len c.k) c.a.cap] 27)) wr →
      wr.cell? ⟨x2.heap.size, 0, none⟩ = some (.int .i64 c.a.op) ∧ wr.cell? ⟨x2.heap.size, 1, none⟩ = some (.int .i64 c.a.num) ∧ wr.cell? ⟨x2.heap.size, 2, none⟩ = some (.string c.a.name) ∧ wr.cell? ⟨x2.heap.size, 3, none⟩ = some (.slice c.a.ptr (len c.k) c.a.cap)) := by
    intro wr hb
    refine ⟨?_, ?_, ?_, ?_⟩
    · rw [hb.cell (p := ⟨x2.heap.size, 0, none⟩) (by simp)]; simp [go_sem]
    · rw [hb.cell (p := ⟨x2.heap.size, 1, none⟩) (by simp)]; simp [go_sem]
    · rw [hb.cell (p := ⟨x2.heap.size, 2, none⟩) (by simp)]; simp [go_sem]
    · rw [hb.cell (p := ⟨x2.heap.size, 3, none⟩) (by simp)]; simp [go_sem]
  have Z0 : Hid ((x2.alloc (.cells #[.int .i64 c.a.op, .int .i64 c.a.num, .string c.a.name, .slice c.a.ptr (len c.k) c.a.cap] 27)).heap.size = x2.heap.size + 1) := by unfold Hid; simp
  have K0 : Hid (Below x2.heap.size x2 (x2.alloc (.cells #[.int .i64 c.a.op, .int .i64 c.a.num, .string c.a.name, .slice c.a.ptr (len c.k) c.a.cap] 27))) := (Below.refl _ _).alloc (Nat.le_refl _) _
  go_wp2_with fail
  generalize hy0 : x2.alloc (.cells #[.int .i64 c.a.op, .int .i64 c.a.num, .string c.a.name, .slice c.a.ptr (len c.k) c.a.cap] 27) = y0 at *
  clear hy0
  have BK0 : Hid (Below w.heap.size w y0) := B2.out.trans (K0.out.mono B2.out.size)
  refine (battrs_any (.slice p1 n1 cap1) n1 sc y0 (intsl_fore H1.out BK0.out (Nat.le_refl _)) HS.out).mono ?_
  rintro e x3 ⟨L, ap, acap, rfl, hac, hav, hnm, hb⟩
  have Y3 : Hid (Below (x2.heap.size + 1) y0 x3) := by rw [← Z0.out]; exact hb
  have AV3 := Lib.hid hav
  have AO := Lib.hid (attrs_ok sc L hnm)
  have hLn : 0 < L.length := by have := congrArg List.length hnm; simp at this; rw [this]; exact list_ne sc HS.out
  have hL25 : L.length ≤ 25 := by have := congrArg List.length hnm; simp at this; rw [this]; exact list_bd sc
  clear hav hnm hb
  have ST : Hid (∀ wr, Below (x2.heap.size + 1) y0 wr → CsV wr cs cp ∧ ExAt wr c.b c.o c.a c.k ∧ Below w.heap.size w wr ∧ x2.heap.size < wr.heap.size) := by
    intro wr hb
    have h9 : Below x2.heap.size x2 wr := K0.out.trans (hb.mono (by omega))
    exact ⟨CS2.out.next h9, X2.out.next h9, B2.out.trans (h9.mono B2.out.size), by have := hb.size; rw [Z0.out] at this; exact this⟩
  have EP := Lib.hid (bx_eval cs sc kd 40 4 L c PB.out (by omega) (by omega) LK.out AO.out).1
  generalize exv (nmT sc (valsT sc L) (cvT cs)) c = fv at *
  obtain ⟨c0, c1, c2, c3⟩ := BX.out x3 Y3.out
  go_wp2_with fail
  refine (eval_ch c x3 (ST.out x3 Y3.out).1 AV3.out (ST.out x3 Y3.out).2.1 PB.out.ok EP.out).mono ?_
  rintro e t1 ⟨rfl, hb⟩
  have YT1 : Hid (Below (x2.heap.size + 1) y0 t1) := Y3.out.trans (hb.mono (ST.out x3 Y3.out).2.2.2)
  have AV4 := Lib.hid (AV3.out.next hb)
  clear hb c0 c1 c2 c3
  obtain ⟨c0, c1, c2, c3⟩ := BX.out t1 YT1.out
  have hz1 : x2.heap.size < t1.heap.size := (ST.out t1 YT1.out).2.2.2
  have Y4 : Hid (Below (x2.heap.size + 1) y0 (t1.alloc (.cells #[.int .i64 kd, .int .i64 fv] 32))) := YT1.out.alloc hz1 _
  have AV5 : Hid (AvV (t1.alloc (.cells #[.int .i64 kd, .int .i64 fv] 32)) L ap) := AV4.out.next ((Below.refl _ _).alloc (Nat.le_refl _) _)
  have d0 : (t1.alloc (.cells #[.int .i64 kd, .int .i64 fv] 32)).cell? ⟨t1.heap.size, 0, none⟩ = some (.int .i64 kd) := by simp [go_sem]
  have d1 : (t1.alloc (.cells #[.int .i64 kd, .int .i64 fv] 32)).cell? ⟨t1.heap.size, 1, none⟩ = some (.int .i64 fv) := by simp [go_sem]
  have g0 : (t1.alloc (.cells #[.int .i64 kd, .int .i64 fv] 32)).frozen? ⟨t1.heap.size, 0, none⟩ = false := by simp [go_sem]
  have g1 : (t1.alloc (.cells #[.int .i64 kd, .int .i64 fv] 32)).frozen? ⟨t1.heap.size, 1, none⟩ = false := by simp [go_sem]
  go_wp2_with fail
  generalize t1.alloc (.cells #[.int .i64 kd, .int .i64 fv] 32) = y4 at *
  refine (reval_ch c y4 (ST.out y4 Y4.out).1 hcc AV5.out (ST.out y4 Y4.out).2.1 PB.out.ok EP.out).mono ?_
  rintro e t2 ⟨rfl, hb⟩
  have YT2 : Hid (Below (x2.heap.size + 1) y0 t2) := Y4.out.trans (hb.mono (ST.out y4 Y4.out).2.2.2)
  have AV6 := Lib.hid (AV5.out.next hb)
  have d0' : t2.cell? ⟨t1.heap.size, 0, none⟩ = some (.int .i64 kd) := by rw [hb.cell (block_lt_of_cell d0)]; exact d0
  have d1' : t2.cell? ⟨t1.heap.size, 1, none⟩ = some (.int .i64 fv) := by rw [hb.cell (block_lt_of_cell d1)]; exact d1
  have g0' : t2.frozen? ⟨t1.heap.size, 0, none⟩ = false := by rw [hb.frozen (p := ⟨t1.heap.size, 0, none⟩) (block_lt_of_cell d0)]; exact g0
  have g1' : t2.frozen? ⟨t1.heap.size, 1, none⟩ = false := by rw [hb.frozen (p := ⟨t1.heap.size, 1, none⟩) (block_lt_of_cell d1)]; exact g1
  have hz2 : t1.heap.size < t2.heap.size := block_lt_of_cell d0'
  clear hb c0 c1 c2 c3 d0 d1 g0 g1
  have AV7 : Hid (AvV (t2.alloc (.cells #[.int .i64 kd, .int .i64 fv] 32)) L ap) := AV6.out.next ((Below.refl _ _).alloc (Nat.le_refl _) _)
  have Y5 : Hid (Below (x2.heap.size + 1) y0 (t2.alloc (.cells #[.int .i64 kd, .int .i64 fv] 32))) := YT2.out.alloc (ST.out t2 YT2.out).2.2.2 _
  have hkd0 : (0 : Int) ≤ (L.length : Int) := by omega
  have hrm : 0 ≤ z4.tmod (L.length : Int) ∧ z4.tmod (L.length : Int) < (L.length : Int) := tmod_in _ _ hz4b (by omega)
  obtain ⟨k, hk⟩ : ∃ k : Nat, z4.tmod (L.length : Int) = k := ⟨(z4.tmod (L.length : Int)).toNat, (Int.toNat_of_nonneg hrm.1).symm⟩
  have hkl : k < L.length := by have := hrm.2; rw [hk] at this; exact Int.ofNat_lt.1 this
  have hL0 : ((L.length : Int) == 0) = false := beq_eq_false_iff_ne.2 (by omega)
  clear hrm
  go_upto_region 9 with (fail)
  go_cut [18] (fun v wx => v = .int .i64 (k : Int) ∧ wx = t2.alloc (.cells #[.int .i64 kd, .int .i64 fv] 32))
  case first =>
    go_wp2
    go_meet
    exact ⟨rfl, rfl⟩
  case rest =>
  obtain ⟨rfl, rfl⟩ := hcut
  have AVX := Lib.hid AV7.out
  obtain ⟨B, O, hap, hcells⟩ : ∃ B O, ap = some ⟨B, O, none⟩ ∧ AvAt (t2.alloc (.cells #[.int .i64 kd, .int .i64 fv] 32)) L B O := by
    obtain ⟨⟨B, O, q1, q2⟩, -, -⟩ := AVX.out
    exact ⟨B, O, q1 (by rintro rfl; simp at hLn), q2⟩
  subst hap
  have AC := Lib.hid (avC_at hcells)
  clear hcells
  have N1 : Hid (∀ j u, (avC (L.take k))[j]? = some u → (t2.alloc (.cells #[.int .i64 kd, .int .i64 fv] 32)).cell? ((⟨B, O, none⟩ : Addr).add j) = some u) := by
    intro j u hu
    rw [avC_take, List.getElem?_take] at hu
    split at hu
    · rw [addr_add]; exact AC.out j u hu
    · cases hu
  have N2 : Hid (∀ j u, (avC (L.drop (k + 1)))[j]? = some u → (t2.alloc (.cells #[.int .i64 kd, .int .i64 fv] 32)).cell? ((⟨B, O + (k + 1) * 2, none⟩ : Addr).add j) = some u) := by
    intro j u hu
    rw [avC_drop, List.getElem?_drop] at hu
    rw [addr_add, Nat.add_assoc]; exact AC.out _ u hu
  have hk1 : k + 1 ≤ L.length := hkl
  have hk1i : (k : Int) + 1 ≤ (L.length : Int) := by omega
  have hk0i : (0 : Int) ≤ (k : Int) + 1 := by omega
  have hk2 : k ≤ acap := by omega
  have hwk : IntKind.i64.wrap ((k : Int) + 1) = (k : Int) + 1 := IntWalk.i64_in _ (by omega)
  obtain ⟨ad, had, N2'⟩ : ∃ ad : Addr, (if acap = k + 1 then (⟨B, O, none⟩ : Addr) else ⟨B, O + (k + 1) * 2, none⟩) = ad ∧ Hid (ad.block = B ∧ ∀ j u, (avC (L.drop (k + 1)))[j]? = some u → (t2.alloc (.cells #[.int .i64 kd, .int .i64 fv] 32)).cell? (ad.add j) = some u) := by
    by_cases hq : acap = k + 1
    · refine ⟨⟨B, O, none⟩, by rw [if_pos hq], rfl, fun j u hu => ?_⟩
      rw [List.drop_of_length_le (by omega)] at hu
      simp [avC] at hu
    · exact ⟨⟨B, O + (k + 1) * 2, none⟩, by rw [if_neg hq], rfl, N2.out⟩
  clear N2
  have hB : B < t2.heap.size + 1 := by
    obtain ⟨⟨B', O', q1, q2⟩, -, -⟩ := AVX.out
    have q3 := q1 (by rintro rfl; simp at hLn)
    injection q3 with q3
    injection q3 with q3 q4
    subst q3
    cases L with
    | nil => simp at hLn
    | cons a l => have := block_lt_of_cell q2.1.1; simpa using this
  go_upto_region 10 with (fail)
  have HB := Lib.hid hB
  have HT2 : Hid (t2.heap.size < (t2.alloc (.cells #[.int .i64 kd, .int .i64 fv] 32)).heap.size) := by unfold Hid; simp
  have HD : Hid ((t2.alloc (.cells #[.int .i64 kd, .int .i64 fv] 32)).cell? ⟨t1.heap.size, 0, none⟩ = some (.int .i64 kd) ∧ (t2.alloc (.cells #[.int .i64 kd, .int .i64 fv] 32)).cell? ⟨t1.heap.size, 1, none⟩ = some (.int .i64 fv) ∧
      (t2.alloc (.cells #[.int .i64 kd, .int .i64 fv] 32)).cell? ⟨t2.heap.size, 0, none⟩ = some (.int .i64 kd) ∧ (t2.alloc (.cells #[.int .i64 kd, .int .i64 fv] 32)).cell? ⟨t2.heap.size, 1, none⟩ = some (.int .i64 fv) ∧
      (t2.alloc (.cells #[.int .i64 kd, .int .i64 fv] 32)).frozen? ⟨t1.heap.size, 0, none⟩ = false ∧ (t2.alloc (.cells #[.int .i64 kd, .int .i64 fv] 32)).frozen? ⟨t1.heap.size, 1, none⟩ = false ∧
      (t2.alloc (.cells #[.int .i64 kd, .int .i64 fv] 32)).frozen? ⟨t2.heap.size, 0, none⟩ = false ∧ (t2.alloc (.cells #[.int .i64 kd, .int .i64 fv] 32)).frozen? ⟨t2.heap.size, 1, none⟩ = false) := by
    have BA : Below t2.heap.size t2 (t2.alloc (.cells #[.int .i64 kd, .int .i64 fv] 32)) := (Below.refl _ _).alloc (Nat.le_refl _) _
    refine ⟨?_, ?_, by simp [go_sem], by simp [go_sem], ?_, ?_, by simp [go_sem], by simp [go_sem]⟩
    · rw [BA.cell (p := ⟨t1.heap.size, 0, none⟩) hz2]; exact d0'
    · rw [BA.cell (p := ⟨t1.heap.size, 1, none⟩) hz2]; exact d1'
    · rw [BA.frozen (p := ⟨t1.heap.size, 0, none⟩) hz2]; exact g0'
    · rw [BA.frozen (p := ⟨t1.heap.size, 1, none⟩) hz2]; exact g1'
  clear d0' d1' g0' g1'
  have Z5 : Hid ((t2.alloc (.cells #[.int .i64 kd, .int .i64 fv] 32)).heap.size = t2.heap.size + 1) := by unfold Hid; simp
  rw [← Z5.out] at HB
  clear hB
  generalize hy5 : t2.alloc (.cells #[.int .i64 kd, .int .i64 fv] 32) = y5 at *
  go_cut [19] (fun v wx => ∃ q c', v = .slice q (L.take k ++ L.drop (k + 1)).length c' ∧ Hid (AvS wx y5.heap.size (L.take k ++ L.drop (k + 1)) q ∧ Below y5.heap.size y5 wx))
  case first =>
    clear AW CS1 LK B1 PB X2 CS2 B2 BX Z0 K0 BK0 Y3 AV3 AO ST EP YT1 AV4 Y4 AV5 YT2 AV6 HD hz1 hz2 Y5 AV7 H0 H1 HS HK
    have hsl : (if acap = k + 1 then (some ⟨B, O, none⟩ : Option Addr) else some ⟨B, O + (k + 1) * 2, none⟩) = some ad := by rw [← had]; split <;> rfl
    have FAR : Hid (∀ w1, y5.drew.grownBy w1 (Value.slice none 0 0).ownBlock → ∀ j u, (avC (L.drop (k + 1)))[j]? = some u → w1.cell? (ad.add j) = some u) := by
      intro w1 hg j u hu
      have q := N2'.out.2 j u hu
      have hb : (ad.add j).block = B := by unfold Addr.add; rw [← N2'.out.1]; split <;> rfl
      rw [hg.cell_far _ (by rw [hb]; exact HB.out) (by simp [Value.ownBlock])]
      exact q
    have CLO : Hid (∀ v1 v2 w1 w2, w1.ownsRow y5.heap.size 50 2 v1 (0 + k) ([] ++ avC (L.take k)) → y5.drew.grownBy w1 (Value.slice none 0 0).ownBlock → w2.ownsRow y5.heap.size 50 2 v2 (0 + k + (L.length - (k + 1))) ([] ++ avC (L.take k) ++ avC (L.drop (k + 1))) → w1.grownBy w2 v1.ownBlock →
        ∃ q c', v2 = .slice q (L.take k ++ L.drop (k + 1)).length c' ∧ Hid (AvS w2 y5.heap.size (L.take k ++ L.drop (k + 1)) q ∧ Below y5.heap.size y5 w2)) := by
      intro v1 v2 w1 w2 o1 g1 o2 g2
      have e9 : [] ++ avC (L.take k) ++ avC (L.drop (k + 1)) = avC (L.take k ++ L.drop (k + 1)) := by simp [avC]
      rw [e9] at o2
      obtain ⟨q, c', e1, e2⟩ := avS_of_own o2 (fun a ha => AVX.out.ok a (by
        rcases List.mem_append.1 ha with ha | ha
        · exact List.mem_of_mem_take ha
        · exact List.mem_of_mem_drop ha)) (by omega)
      refine ⟨q, c', e1, e2, ?_⟩
      have b1 : Below y5.heap.size y5 w1 := ⟨g1.os, g1.tape, g1.output, g1.size, fun i hi => g1.block i hi (by simp [Value.ownBlock])⟩
      refine b1.grown g2 g1.size (fun m hm => (o1.lt m hm).1)
    go_region_law (first | (refine step_append_at _ (by rfl) _ _ 29 (by rfl) y5.heap.size 50 i0 (.agg #[.string ⟨#[]⟩, .int .i64 0]) 2 24 Tryz.underlying29 hi hi0 hi1 hi2 rfl (by decide) (.slice none 0 0) 0 [] (by rfl) (World.ownsRow_nil _ _ _ _) ⟨B, O, none⟩ k _ (avC (L.take k)) (by rfl) (by rw [avC_len, List.length_take, Nat.min_eq_left (by omega)]) N1.out (avC_one _) (by unfold maxLen; omega) (by omega) (Nat.le_refl _) ?_; intro v1 w1 hown1 hg1 hat1) | (refine step_append_at _ (by rfl) _ _ 29 (by rfl) y5.heap.size 50 i0 (.agg #[.string ⟨#[]⟩, .int .i64 0]) 2 24 Tryz.underlying29 hi hi0 hi1 hi2 rfl (by decide) v1 (0 + k) _ (by rfl) hown1 ad (L.length - (k + 1)) _ (avC (L.drop (k + 1))) (by rfl) (by rw [avC_len, List.length_drop]) (FAR.out w1 hg1) (avC_one _) (by unfold maxLen; omega) (by omega) hg1.size ?_; intro v2 w2 hown2 hg2 hat2; have FIN := Lib.hid (CLO.out v1 v2 w1 w2 hown1 hg1 hown2 hg2); clear hown1 hg1 hat1 hown2 hg2 hat2))
    all_goals (go_wp2_with fail; go_meet; exact FIN.out)
  case rest =>
    obtain ⟨q, c', rfl, HC⟩ := hcut
    have AO2 := Lib.hid HC.out.1
    have Bc := Lib.hid HC.out.2
    clear HC N1 N2' hk1 hk1i hk0i hk2 hwk had HB Z5 AC hy5
    have Yc : Hid (Below (x2.heap.size + 1) y0 wc) := Y5.out.trans (Bc.out.mono (ST.out y5 Y5.out).2.2.2)
    obtain ⟨c0, c1, c2, c3⟩ := BX.out wc Yc.out
    obtain ⟨L', hL'⟩ : ∃ L', L.take k ++ L.drop (k + 1) = L' := ⟨_, rfl⟩
    rw [hL'] at AO2 ⊢
    clear hL'
    obtain ⟨r1, r2, r3, hR⟩ : ∃ r1 r2 r3, evR cs sc L' c.a c.k = (r1, r2, r3) := ⟨_, _, _, rfl⟩
    have RR := Lib.hid hR
    clear hR
    have hbig : t2.heap.size < y5.heap.size := HT2.out
    have AVc : Hid (AvV wc L' q) := AO2.out wc (fun _ _ _ => rfl)
    have b0 : wc.cell? ⟨t1.heap.size, 0, none⟩ = some (.int .i64 kd) := by rw [Bc.out.cell (p := ⟨t1.heap.size, 0, none⟩) (by simp; omega)]; exact HD.out.1
    have b1 : wc.cell? ⟨t1.heap.size, 1, none⟩ = some (.int .i64 fv) := by rw [Bc.out.cell (p := ⟨t1.heap.size, 1, none⟩) (by simp; omega)]; exact HD.out.2.1
    have e0 : wc.cell? ⟨t2.heap.size, 0, none⟩ = some (.int .i64 kd) := by rw [Bc.out.cell (p := ⟨t2.heap.size, 0, none⟩) (by simp; omega)]; exact HD.out.2.2.1
    have e1 : wc.cell? ⟨t2.heap.size, 1, none⟩ = some (.int .i64 fv) := by rw [Bc.out.cell (p := ⟨t2.heap.size, 1, none⟩) (by simp; omega)]; exact HD.out.2.2.2.1
    have f0 : wc.frozen? ⟨t1.heap.size, 0, none⟩ = false := by rw [Bc.out.frozen (p := ⟨t1.heap.size, 0, none⟩) (by simp; omega)]; exact HD.out.2.2.2.2.1
    have f1 : wc.frozen? ⟨t1.heap.size, 1, none⟩ = false := by rw [Bc.out.frozen (p := ⟨t1.heap.size, 1, none⟩) (by simp; omega)]; exact HD.out.2.2.2.2.2.1
    have f2 : wc.frozen? ⟨t2.heap.size, 0, none⟩ = false := by rw [Bc.out.frozen (p := ⟨t2.heap.size, 0, none⟩) (by simp; omega)]; exact HD.out.2.2.2.2.2.2.1
    have f3 : wc.frozen? ⟨t2.heap.size, 1, none⟩ = false := by rw [Bc.out.frozen (p := ⟨t2.heap.size, 1, none⟩) (by simp; omega)]; exact HD.out.2.2.2.2.2.2.2
    have HD2 := Lib.hid (And.intro b0 (And.intro b1 (And.intro e0 (And.intro e1 (And.intro f0 (And.intro f1 (And.intro f2 f3)))))))
    clear b0 b1 e0 e1 f0 f1 f2 f3 HD
    have hzc : y5.heap.size ≤ wc.heap.size := Bc.out.size
    go_wp2_with fail
    refine (eval_ch c wc (ST.out wc Yc.out).1 AVc.out (ST.out wc Yc.out).2.1 PB.out.ok RR.out).mono ?_
    rintro e t3 ⟨rfl, hb⟩
    have KB := Lib.hid hb
    clear hb c0 c1 c2 c3
    have YT3 : Hid (Below (x2.heap.size + 1) y0 t3) := Yc.out.trans (KB.out.mono (ST.out wc Yc.out).2.2.2)
    have hz3 : wc.heap.size ≤ t3.heap.size := KB.out.size
    have b0 : t3.cell? ⟨t1.heap.size, 0, none⟩ = some (.int .i64 kd) := by rw [KB.out.cell (p := ⟨t1.heap.size, 0, none⟩) (by simp; omega)]; exact HD2.out.1
    have b1 : t3.cell? ⟨t1.heap.size, 1, none⟩ = some (.int .i64 fv) := by rw [KB.out.cell (p := ⟨t1.heap.size, 1, none⟩) (by simp; omega)]; exact HD2.out.2.1
    have f0 : t3.frozen? ⟨t1.heap.size, 0, none⟩ = false := by rw [KB.out.frozen (p := ⟨t1.heap.size, 0, none⟩) (by simp; omega)]; exact HD2.out.2.2.2.2.1
    have f1 : t3.frozen? ⟨t1.heap.size, 1, none⟩ = false := by rw [KB.out.frozen (p := ⟨t1.heap.size, 1, none⟩) (by simp; omega)]; exact HD2.out.2.2.2.2.2.1
    have e0 : t3.cell? ⟨t2.heap.size, 0, none⟩ = some (.int .i64 kd) := by rw [KB.out.cell (p := ⟨t2.heap.size, 0, none⟩) (by simp; omega)]; exact HD2.out.2.2.1
    have e1 : t3.cell? ⟨t2.heap.size, 1, none⟩ = some (.int .i64 fv) := by rw [KB.out.cell (p := ⟨t2.heap.size, 1, none⟩) (by simp; omega)]; exact HD2.out.2.2.2.1
    have f2 : t3.frozen? ⟨t2.heap.size, 0, none⟩ = false := by rw [KB.out.frozen (p := ⟨t2.heap.size, 0, none⟩) (by simp; omega)]; exact HD2.out.2.2.2.2.2.2.1
    have f3 : t3.frozen? ⟨t2.heap.size, 1, none⟩ = false := by rw [KB.out.frozen (p := ⟨t2.heap.size, 1, none⟩) (by simp; omega)]; exact HD2.out.2.2.2.2.2.2.2
    have hx1 : x2.heap.size + 1 ≤ t1.heap.size := hz1
    have Y6 : Hid (Below (x2.heap.size + 1) y0 ((t3.setCell ⟨t1.heap.size, 0, none⟩ (.int .i64 r1)).setCell ⟨t1.heap.size, 1, none⟩ (.int .i64 r2))) := (YT3.out.setCell (p := ⟨t1.heap.size, 0, none⟩) hx1 _).setCell (p := ⟨t1.heap.size, 1, none⟩) hx1 _
    have g6 : ∀ p : Addr, p.block ≠ t1.heap.size → ((t3.setCell ⟨t1.heap.size, 0, none⟩ (.int .i64 r1)).setCell ⟨t1.heap.size, 1, none⟩ (.int .i64 r2)).cell? p = t3.cell? p ∧ ((t3.setCell ⟨t1.heap.size, 0, none⟩ (.int .i64 r1)).setCell ⟨t1.heap.size, 1, none⟩ (.int .i64 r2)).frozen? p = t3.frozen? p := by
      intro p hp
      have hb : ((t3.setCell ⟨t1.heap.size, 0, none⟩ (.int .i64 r1)).setCell ⟨t1.heap.size, 1, none⟩ (.int .i64 r2)).heap[p.block]? = t3.heap[p.block]? := by
        rw [Below.heap_setCell _ _ _ _ (by exact hp), Below.heap_setCell _ _ _ _ (by exact hp)]
      exact ⟨World.cell?_of_block hb, World.frozen?_of_block hb⟩
    have G6 := Lib.hid g6
    clear g6
    have AV6' : Hid (AvV ((t3.setCell ⟨t1.heap.size, 0, none⟩ (.int .i64 r1)).setCell ⟨t1.heap.size, 1, none⟩ (.int .i64 r2)) L' q) := AO2.out _ (fun p h1 h2 => by
      rw [(G6.out p (by omega)).1]; exact KB.out.cell h2)
    have k0 : ((t3.setCell ⟨t1.heap.size, 0, none⟩ (.int .i64 r1)).setCell ⟨t1.heap.size, 1, none⟩ (.int .i64 r2)).cell? ⟨t1.heap.size, 0, none⟩ = some (.int .i64 r1) := by simp [go_sem, b0, b1]
    have k1 : ((t3.setCell ⟨t1.heap.size, 0, none⟩ (.int .i64 r1)).setCell ⟨t1.heap.size, 1, none⟩ (.int .i64 r2)).cell? ⟨t1.heap.size, 1, none⟩ = some (.int .i64 r2) := by simp [go_sem, b0, b1]
    have k2 := (G6.out ⟨t2.heap.size, 0, none⟩ (by simp; omega)).1.trans e0
    have k3 := (G6.out ⟨t2.heap.size, 1, none⟩ (by simp; omega)).1.trans e1
    have k4 := (G6.out ⟨t2.heap.size, 0, none⟩ (by simp; omega)).2.trans f2
    have k5 := (G6.out ⟨t2.heap.size, 1, none⟩ (by simp; omega)).2.trans f3
    have HK2 := Lib.hid (And.intro k0 (And.intro k1 (And.intro k2 (And.intro k3 (And.intro k4 k5)))))
    clear k0 k1 k2 k3 k4 k5 e0 e1 f2 f3 G6
    have hz6 : t2.heap.size < ((t3.setCell ⟨t1.heap.size, 0, none⟩ (.int .i64 r1)).setCell ⟨t1.heap.size, 1, none⟩ (.int .i64 r2)).heap.size := by simp; omega
    obtain ⟨c0, c1, c2, c3⟩ := BX.out t3 YT3.out
    go_wp2_with fail
    generalize (t3.setCell ⟨t1.heap.size, 0, none⟩ (.int .i64 r1)).setCell ⟨t1.heap.size, 1, none⟩ (.int .i64 r2) = y6 at *
    refine (reval_ch c y6 (ST.out y6 Y6.out).1 hcc AV6'.out (ST.out y6 Y6.out).2.1 PB.out.ok RR.out).mono ?_
    rintro e t4 ⟨rfl, hb⟩
    have YT4 : Hid (Below (x2.heap.size + 1) y0 t4) := Y6.out.trans (hb.mono (ST.out y6 Y6.out).2.2.2)
    clear c0 c1 c2 c3 b0 b1 f0 f1
    have b0 : t4.cell? ⟨t1.heap.size, 0, none⟩ = some (.int .i64 r1) := by rw [hb.cell (p := ⟨t1.heap.size, 0, none⟩) (by simp; omega)]; exact HK2.out.1
    have b1 : t4.cell? ⟨t1.heap.size, 1, none⟩ = some (.int .i64 r2) := by rw [hb.cell (p := ⟨t1.heap.size, 1, none⟩) (by simp; omega)]; exact HK2.out.2.1
    have e0 : t4.cell? ⟨t2.heap.size, 0, none⟩ = some (.int .i64 kd) := by rw [hb.cell (p := ⟨t2.heap.size, 0, none⟩) (by simp; omega)]; exact HK2.out.2.2.1
    have e1 : t4.cell? ⟨t2.heap.size, 1, none⟩ = some (.int .i64 fv) := by rw [hb.cell (p := ⟨t2.heap.size, 1, none⟩) (by simp; omega)]; exact HK2.out.2.2.2.1
    have f2 : t4.frozen? ⟨t2.heap.size, 0, none⟩ = false := by rw [hb.frozen (p := ⟨t2.heap.size, 0, none⟩) (by simp; omega)]; exact HK2.out.2.2.2.2.1
    have f3 : t4.frozen? ⟨t2.heap.size, 1, none⟩ = false := by rw [hb.frozen (p := ⟨t2.heap.size, 1, none⟩) (by simp; omega)]; exact HK2.out.2.2.2.2.2
    clear hb
    have hne : t1.heap.size < t2.heap.size := hz2
    have hx2 : w.heap.size ≤ t2.heap.size := Nat.le_trans (ST.out t1 YT1.out).2.2.1.size (Nat.le_of_lt hz2)
    have B7 : Hid (Below w.heap.size w ((t4.setCell ⟨t2.heap.size, 0, none⟩ (.int .i64 r1)).setCell ⟨t2.heap.size, 1, none⟩ (.int .i64 r2))) := ((ST.out t4 YT4.out).2.2.1.setCell (p := ⟨t2.heap.size, 0, none⟩) hx2 _).setCell (p := ⟨t2.heap.size, 1, none⟩) hx2 _
    go_wp2_with fail
    refine (AW.out _).mono ?_
    rintro e t5 ⟨rfl, hb⟩
    have B8 := Lib.hid (B7.out.trans (hb.mono B7.out.size))
    clear hb
    go_wp2
    go_ret
    exact ⟨rfl, B8.out⟩

end Go.Proofs.YtinbkhchhlkjgaaGreat
