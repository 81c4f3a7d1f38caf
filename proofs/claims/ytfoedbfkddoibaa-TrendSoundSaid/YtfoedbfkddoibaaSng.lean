/-
  The walk of TrendSound.
-/
import Derived.Test.YtfoedbfkddoibaaSnf
import Derived.Test.YtfoedbfkddoibaaEev
import Derived.Maps.AppendAt
namespace Go.Proofs.Ytfoedbfkddoibaa
set_option linter.unusedVariables false
set_option linter.unusedSimpArgs false
open Go.ChangeShapes Go.WideShapes Go.ChangeAt Go.RowKit
open Go.Deep (BT)

theorem intsl_fore {w w' : World} {v : Value} {n s : Nat} (h : IntsL w v n s) (hb : Below w.heap.size w w') (hs : s ≤ w.heap.size) : IntsL w' v n w'.heap.size := by
  obtain ⟨p, cap, h1, h2, h3⟩ := h
  refine ⟨p, cap, h1, h2, fun i hi => ?_⟩
  obtain ⟨B, O, x, q1, q2, q3⟩ := h3 i hi
  have hB : B < w.heap.size := Nat.lt_of_lt_of_le q2 hs
  exact ⟨B, O, x, q1, Nat.lt_of_lt_of_le hB hb.size, by rw [hb.cell (p := ⟨B, O + i, none⟩) hB]; exact q3⟩
theorem avC_at {w : World} {L : List Av} {B O : Nat} (h : AvAt w L B O) : ∀ j u, (avC L)[j]? = some u → w.cell? ⟨B, O + j, none⟩ = some u := by
  induction L generalizing O with
  | nil => intro j u hu; simp [avC] at hu
  | cons a l ih =>
    intro j u hu
    have e : avC (a :: l) = [.string a.name, .int .i64 a.val] ++ avC l := by simp [avC]
    rw [e] at hu
    match j with
    | 0 => simp at hu; subst hu; exact h.1.1
    | 1 => simp at hu; subst hu; exact h.1.2
    | j + 2 =>
      rw [List.getElem?_append_right (by simp)] at hu
      have := ih h.2 j u (by simpa using hu)
      rw [show O + 2 + j = O + (j + 2) by omega] at this
      exact this
theorem avC_one (L : List Av) : ∀ u ∈ avC L, u.oneCell' = true := by
  intro u hu
  simp only [avC, List.mem_flatMap] at hu
  obtain ⟨a, -, ha⟩ := hu
  simp only [List.mem_cons, List.not_mem_nil, or_false] at ha
  rcases ha with rfl | rfl <;> rfl
theorem addr_add (B O j : Nat) : (⟨B, O, none⟩ : Addr).add j = ⟨B, O + j, none⟩ := by unfold Addr.add; simp

theorem and_1023 (n : Int) : bits .and .i64 n 1023 = n % 1024 := by
  have h127 : (BitVec.ofInt 64 1023).toNat = 2 ^ 10 - 1 := by decide
  have key : (BitVec.ofInt 64 n &&& BitVec.ofInt 64 1023).toNat = (n % ((2 ^ 64 : Nat) : Int)).toNat % 2 ^ 10 := by
    rw [BitVec.toNat_and, BitVec.toNat_ofInt, h127, Nat.and_two_pow_sub_one_eq_mod]
  show IntKind.i64.wrap ((BitVec.ofInt 64 n &&& BitVec.ofInt 64 1023).toNat : Nat) = n % 1024
  rw [key, IntKind.wrap_i64]
  omega
theorem avC_set : ∀ (L : List Av) (k : Nat) (a : Av) (v : Int), L[k]? = some a → (avC L).set (k * 2 + 1) (.int .i64 v) = avC (L.set k ⟨a.name, v⟩)
  | [], _, _, _, h => by simp at h
  | x :: l, 0, a, v, h => by
    simp at h
    subst h
    simp [avC]
  | x :: l, k + 1, a, v, h => by
    have e : ∀ (b : Av) (m : List Av), avC (b :: m) = .string b.name :: .int .i64 b.val :: avC m := fun b m => by simp [avC]
    rw [List.set_cons_succ, e, e, show (k + 1) * 2 + 1 = (k * 2 + 1) + 1 + 1 by omega, List.set_cons_succ, List.set_cons_succ, avC_set l k a v (by simpa using h)]
theorem avC_get (L : List Av) (k : Nat) (a : Av) (h : L[k]? = some a) : (avC L)[k * 2 + 1]? = some (.int .i64 a.val) := by
  induction L generalizing k with
  | nil => simp at h
  | cons x l ih =>
    have e : ∀ (b : Av) (m : List Av), avC (b :: m) = .string b.name :: .int .i64 b.val :: avC m := fun b m => by simp [avC]
    cases k with
    | zero => simp at h; subst h; rw [e]; rfl
    | succ k => rw [e, show (k + 1) * 2 + 1 = (k * 2 + 1) + 1 + 1 by omega, List.getElem?_cons_succ, List.getElem?_cons_succ]; exact ih k (by simpa using h)
/-- A box of two cells. -/
structure BX2 (w : World) (g : Nat) (v0 v1 : Value) : Prop where
  r0 : w.cell? ⟨g, 0, none⟩ = some v0
  r1 : w.cell? ⟨g, 1, none⟩ = some v1
theorem BX2.next {w w' : World} {g : Nat} {v0 v1 : Value} (h : BX2 w g v0 v1) (hb : Below w.heap.size w w') : BX2 w' g v0 v1 :=
  ⟨by rw [hb.cell (block_lt_of_cell h.r0)]; exact h.r0, by rw [hb.cell (block_lt_of_cell h.r1)]; exact h.r1⟩
theorem BX2.new (w : World) (v0 v1 : Value) (T : TypeId) : BX2 (w.alloc (.cells #[v0, v1] T)) w.heap.size v0 v1 := by
  constructor <;> simp [go_sem]
theorem eval_c {cs : List Cn} {p : Option Addr} {cap : Nat} {sc : Int} {L : List Av} {ap : Option Addr} {apc : Nat} {r1 r2 r3 : Int} (c : Ch) (w : World) (hcs : CsV w cs p) (hav : AvV w L ap) (hx : ExAt w c.b c.o c.a c.k) (hok : ExOk c.a c.k) (he : evR cs sc L c.a c.k = (r1, r2, r3)) :
    Calls Try.prog 15 #[.slice p cs.length cap, .int .i64 sc, .slice ap L.length apc, .agg #[.int .i64 c.a.op, .int .i64 c.a.num, .string c.a.name, .slice c.a.ptr (len c.k) c.a.cap]] w
      fun e w' => e = .returned (.tuple #[.agg #[.int .i64 r1, .int .i64 r2], .int .i64 r3]) ∧ Below w.heap.size w w' := by
  have q := eval_any cs p cap sc L ap apc c.b c.o c.a.op c.a.num c.a.name c.a.ptr c.a.cap c.k w hcs hav hx hok
  rw [show evR cs sc L ⟨c.a.op, c.a.num, c.a.name, c.a.ptr, c.a.cap⟩ c.k = (r1, r2, r3) from he] at q
  exact q
theorem lim_up (t v d : Int) (ht : 0 ≤ t ∧ t ≤ 4) (h3 : t ≠ 3) (h4 : t ≠ 4) (hd : 0 ≤ d) : limV t v ≤ limV t (v + d) := by
  unfold limV
  rw [if_neg h3, if_neg h4, if_neg h3, if_neg h4]
  exact clampI_mono (by omega)
theorem lim_bool (v : Int) : limV 4 v ≤ limV 4 1 := by
  unfold limV
  rw [if_neg (by decide), if_pos rfl, if_neg (by decide), if_pos rfl]
  have : ∀ b : Bool, flagI b ≤ 1 := fun b => by cases b <;> decide
  exact this _

set_option maxHeartbeats 16000000 in
set_option maxRecDepth 100000 in
theorem walk_trendSound (v0 : Value) (n0 : Nat) (v1 : Value) (n1 : Nat) (a2 a3 a4 a5 : Int) (w : World) (h0 : IntsL w v0 n0 w.heap.size) (h1 : IntsL w v1 n1 w.heap.size) (_ : (Lit.int .i64 a2).wf = true) (_ : (Lit.int .i64 a3).wf = true) (_ : (Lit.int .i64 a4).wf = true) (_ : (Lit.int .i64 a5).wf = true) :
    Calls Try.prog 4 #[v0, v1, .int .i64 a2, .int .i64 a3, .int .i64 a4, .int .i64 a5] w fun e w' => e = .returned (.bool true) ∧ Below w.heap.size w w' := by
  have H0 := Lib.hid h0
  have H1 := Lib.hid h1
  obtain ⟨p0, cap0, rfl, -, -⟩ := h0
  obtain ⟨p1, cap1, rfl, -, -⟩ := h1
  obtain ⟨i0, hi, hi0, hi1, hi2⟩ := info_parts Try.infoAt
  obtain ⟨z1, hz1⟩ : ∃ z, (bits BinOp.and IntKind.i64 a2 255).tmod 3 = z := ⟨_, rfl⟩
  have hz1b : 0 ≤ z1 ∧ z1 < 3 := by rw [← hz1]; exact tmod_in _ _ (by rw [and_255]; omega) (by omega)
  obtain ⟨sc, hsc, hscb⟩ : ∃ sc, IntKind.i64.wrap (1 + z1) = sc ∧ (sc = 1 ∨ sc = 2 ∨ sc = 3) := ⟨1 + z1, IntWalk.i64_in _ (by omega), by omega⟩
  have HS := Lib.hid hscb
  obtain ⟨z2, hz2⟩ : ∃ z, bits BinOp.and IntKind.i64 a3 3 = z := ⟨_, rfl⟩
  have hz2b : 0 ≤ z2 ∧ z2 < 4 := by rw [← hz2, and_3]; omega
  obtain ⟨kd, hkd, hkdb⟩ : ∃ kd, IntKind.i64.wrap (1 + z2) = kd ∧ (kd = 1 ∨ kd = 2 ∨ kd = 3 ∨ kd = 4) := ⟨1 + z2, IntWalk.i64_in _ (by omega), by omega⟩
  have HK := Lib.hid hkdb
  obtain ⟨z4, hz4⟩ : ∃ z, bits BinOp.and IntKind.i64 a4 65535 = z := ⟨_, rfl⟩
  have hz4b : 0 ≤ z4 := by rw [← hz4, and_ffff]; omega
  obtain ⟨z5, hz5⟩ : ∃ z, bits BinOp.and IntKind.i64 a5 1023 = z := ⟨_, rfl⟩
  have hz5b : 0 ≤ z5 ∧ z5 ≤ 1023 := by rw [← hz5, and_1023]; omega
  clear hscb hz1b hkdb hz2b
  have AW := Lib.hid tawake_any
  go_enter Try.func4, Try.ntmps4
  go_wp2_with fail
  clear hz1 hsc
  refine (bconsts_any w).mono ?_
  rintro e x1 ⟨cs, cp, ccap, rfl, hcs, hlk, hcc, hb⟩
  have CS1 := Lib.hid hcs
  have LK := Lib.hid hlk
  have B1 := Lib.hid hb
  clear hcs hlk hb
  go_wp2_with fail
  clear hz2 hkd
  refine (bExpr_any (.slice p0 n0 cap0) n0 sc kd x1 (intsl_fore H0.out B1.out (Nat.le_refl _)) HS.out HK.out).mono ?_
  rintro e x2 ⟨c, rfl, hp, hx, hb⟩
  have PB : Hid (Bx sc kd 40 4 c) := bx_plain hp
  have bb : Below x2.heap.size x2 (x2.alloc (.cells #[.int .i64 c.a.op, .int .i64 c.a.num, .string c.a.name, .slice c.a.ptr (len c.k) c.a.cap] 31)) := below_box _ _
  have X2 := Lib.hid (hx.next bb)
  have CS2 := Lib.hid (CS1.out.next (hb.trans (bb.mono hb.size)))
  have B2 := Lib.hid (B1.out.trans ((hb.trans (bb.mono hb.size)).mono B1.out.size))
  have Y2 : Hid (BX4 (x2.alloc (.cells #[.int .i64 c.a.op, .int .i64 c.a.num, .string c.a.name, .slice c.a.ptr (len c.k) c.a.cap] 31)) x2.heap.size (.int .i64 c.a.op) (.int .i64 c.a.num) (.string c.a.name) (.slice c.a.ptr (len c.k) c.a.cap)) := BX4.new x2 _ _ _ _ _
  clear hp hx hb bb CS1 B1
  go_wp2_with fail
  generalize x2.alloc (.cells #[.int .i64 c.a.op, .int .i64 c.a.num, .string c.a.name, .slice c.a.ptr (len c.k) c.a.cap] 31) = y0 at *
  refine (battrs2_any (.slice p1 n1 cap1) n1 sc y0 (intsl_fore H1.out B2.out (Nat.le_refl _)) HS.out).mono ?_
  rintro e x3 ⟨L, ap, acap, rfl, hac, hav, hnm, hvb, hb⟩
  have AV3 := Lib.hid hav
  have NM := Lib.hid hnm
  have VB := Lib.hid hvb
  have Y3 := Lib.hid (Y2.out.next hb)
  have X3 := Lib.hid (X2.out.next hb)
  have CS3 := Lib.hid (CS2.out.next hb)
  have B3 := Lib.hid (B2.out.trans (hb.mono B2.out.size))
  have hLn : 0 < L.length := by
    have := congrArg List.length hnm; simp at this; rw [this]
    rcases HS.out with rfl | rfl | rfl <;> decide
  have hL25 : L.length ≤ 25 := by have := congrArg List.length hnm; simp at this; rw [this]; exact list_bd sc
  clear hav hnm hvb hb Y2 X2 CS2 B2
  have hrm : 0 ≤ z4.tmod (L.length : Int) ∧ z4.tmod (L.length : Int) < (L.length : Int) := tmod_in _ _ hz4b (by omega)
  obtain ⟨k, hk⟩ : ∃ k : Nat, z4.tmod (L.length : Int) = k := ⟨(z4.tmod (L.length : Int)).toNat, (Int.toNat_of_nonneg hrm.1).symm⟩
  have hkl : k < L.length := by have := hrm.2; rw [hk] at this; exact Int.ofNat_lt.1 this
  have hL0 : ((L.length : Int) == 0) = false := beq_eq_false_iff_ne.2 (by omega)
  clear hrm
  obtain ⟨at0, hat0⟩ : ∃ a, L[k]? = some a := ⟨_, List.getElem?_eq_getElem hkl⟩
  obtain ⟨B, O, rfl, q0, q1⟩ := AV3.out.get hat0
  have HA := Lib.hid hat0
  have hvk : 0 ≤ at0.val ∧ at0.val ≤ 1440 := VB.out at0 (List.mem_of_getElem? hat0)
  have hks : at0.name.size ≤ 9223372036854775807 := (AV3.out.ok at0 (List.mem_of_getElem? hat0)).1
  have hki : (k : Int) < (L.length : Int) := by omega
  have hk0 : (0 : Int) ≤ (k : Int) := by omega
  clear hat0
  obtain ⟨R, hR⟩ : ∃ R, ofT cs sc c.a c.k at0.name = R := ⟨_, rfl⟩
  have OP := Lib.hid (fun (wk : World) h1 h2 => ofP_any cs cp ccap sc c.b c.o c.a.op c.a.num c.a.name c.a.ptr c.a.cap c.k at0.name wk h1 h2 PB.out.ok)
  rw [show ofT cs sc ⟨c.a.op, c.a.num, c.a.name, c.a.ptr, c.a.cap⟩ c.k at0.name = R from hR] at OP
  have c0 := Y3.out.r0
  have c1 := Y3.out.r1
  have c2 := Y3.out.r2
  have c3 := Y3.out.r3
  go_upto_region 6 with (fail)
  go_cut [17, 18] (fun va vb wx => va = .int .i64 R.1 ∧ vb = .int .i64 R.2 ∧ Hid (Below x3.heap.size x3 wx))
  case first =>
    have bd : Hid (Below x3.heap.size x3 x3.drew) := (Below.refl _ _).drew
    go_region_with (go_at_call 13; go_must (refine (OP.out _ (CS3.out.next bd.out) (X3.out.next bd.out)).mono ?_; rintro e wf ⟨rfl, hb⟩; have BF : Hid (Below x3.heap.size x3 wf) := bd.out.trans hb))
    all_goals (go_wp2; go_meet; exact ⟨rfl, rfl, BF.out⟩)
  case rest =>
  obtain ⟨rfl, rfl, hcb⟩ := hcut
  have BC : Hid (Below x3.heap.size x3 wc) := hcb
  clear hcb c0 c1 c2 c3 q0 q1 OP
  have Y4 := Lib.hid (Y3.out.next BC.out)
  have X4 := Lib.hid (X3.out.next BC.out)
  have CS4 := Lib.hid (CS3.out.next BC.out)
  have AV4 := Lib.hid (AV3.out.next BC.out)
  have B4 := Lib.hid (B3.out.trans (BC.out.mono B3.out.size))
  clear Y3 X3 CS3 AV3 B3 BC
  have SL := Lib.hid (fun v hup => sound_law cs sc kd L c k at0 v HS.out PB.out LK.out NM.out HA.out hup)
  rw [hR] at SL
  clear hR
  by_cases hr : R.2 = 0
  · have n0 : (R.2 != 0) = false := by simp [hr]
    obtain ⟨q0', q1'⟩ : wc.cell? ⟨B, O + k * 2, none⟩ = some (.string at0.name) ∧ wc.cell? ⟨B, O + k * 2 + 1, none⟩ = some (.int .i64 at0.val) := by
      obtain ⟨B', O', e, r1, r2⟩ := AV4.out.get HA.out
      cases e
      exact ⟨r1, r2⟩
    have SL0 : Hid (∀ v, (atS sc at0.name ≠ 3 → limV (atS sc at0.name) at0.val ≤ limV (atS sc at0.name) v) → tr3 R.1 ∧ rel R.1 (exv (nmT sc (valsT sc L) (cvT cs)) c) (exv (nmT sc (valsT sc (L.set k ⟨at0.name, v⟩)) (cvT cs)) c)) := by
      intro v hup
      rcases SL.out v hup with q | q
      · rw [q] at hr; cases hr
      · exact q.2
    have NC : Hid (∀ j u, (avC L)[j]? = some u → wc.cell? ((⟨B, O, none⟩ : Addr).add j) = some u) := by
      intro j u hu
      obtain ⟨⟨B', O', r1, r2⟩, -, -⟩ := AV4.out
      cases r1 (by rintro rfl; simp at hLn)
      rw [addr_add]
      exact avC_at r2 j u hu
    clear SL hr
    go_wp2_with (at_builtin; refine wpList_append_own_at _ rfl _ _ 33 rfl wc.heap.size 39 i0 (.agg #[.string ⟨#[]⟩, .int .i64 0]) 2 24 Try.underlying33 hi hi0 hi1 hi2 rfl (by decide) (.slice none 0 0) 0 [] rfl (World.ownsRow_nil _ _ _ _) ⟨B, O, none⟩ L.length acap (avC L) rfl (avC_len L) NC.out (avC_one L) ?d3 ?d4 ?d5 ?_)
    case d3 => unfold maxLen; omega
    case d4 => omega
    case d5 => exact Nat.le_refl _
    intro vn w5 hown hgrow hnil hob
    try rw [Nat.zero_add] at hown
    try rw [List.nil_append] at hown
    obtain ⟨g, cg, hvn⟩ : ∃ g cg, vn = .slice (some ⟨g, 0, none⟩) L.length cg := by
      rcases hown.2 with ⟨-, hn⟩ | ⟨g, cap, cur, e, -⟩
      · omega
      · exact ⟨g, cap, e⟩
    subst hvn
    have hgl := hown.lt g rfl
    have BG : Hid (Below wc.heap.size wc w5) := (Below.refl _ _).grown hgrow (Nat.le_refl _) (fun m hm => by cases hm)
    have s1 : w5.cell? ⟨g, k * 2 + 1, none⟩ = some (.int .i64 at0.val) := by
      rw [hown.cellAt (k * 2 + 1) (by omega)]
      exact avC_get L k at0 HA.out
    have f1 : w5.frozen? ⟨g, k * 2 + 1, none⟩ = false := hown.frozenAt (k * 2 + 1)
    have OW := Lib.hid hown
    have q2 : w5.cell? ⟨B, O + k * 2 + 1, none⟩ = some (.int .i64 at0.val) := by rw [BG.out.cell (block_lt_of_cell q1')]; exact q1'
    have q3 : w5.cell? ⟨B, O + k * 2, none⟩ = some (.string at0.name) := by rw [BG.out.cell (block_lt_of_cell q0')]; exact q0'
    have hbg : B ≠ g := by have := block_lt_of_cell q1'; simp at this; omega
    have hwa : IntKind.i64.wrap (at0.val + z5) = at0.val + z5 := IntWalk.i64_in _ (by omega)
    obtain ⟨ow6, gr6⟩ := hown.stored (k * 2 + 1) (.int .i64 (at0.val + z5))
    rw [avC_set L k at0 _ HA.out] at ow6
    have OW6 := Lib.hid ow6
    have GR6 := Lib.hid gr6
    have B6 : Hid (Below wc.heap.size wc (w5.setCell ⟨g, k * 2 + 1, none⟩ (.int .i64 (at0.val + z5)))) := BG.out.setCell hgl.1 _
    have q4 : (w5.setCell ⟨g, k * 2 + 1, none⟩ (.int .i64 (at0.val + z5))).cell? ⟨B, O + k * 2, none⟩ = some (.string at0.name) := by rw [B6.out.cell (block_lt_of_cell q0')]; exact q0'
    clear hown hgrow hnil hob ow6 gr6
    go_wp2_with fail
    generalize w5.setCell ⟨g, k * 2 + 1, none⟩ (.int .i64 (at0.val + z5)) = w6 at *
    refine (ratt_any sc at0.name w6 hks).mono ?_
    rintro e w7 ⟨rfl, hb⟩
    have B7 : Hid (Below wc.heap.size wc w7) := B6.out.trans (hb.mono B6.out.size)
    have OW7 := Lib.hid (own_below OW6.out hb)
    have hgl7 := OW7.out.lt g rfl
    clear hb OW OW6 GR6 s1 f1 q2 q3 q4 q0' q1' BG B6
    by_cases h4 : atS sc at0.name = 4
    · have n4 : (atS sc at0.name == 4) = true := by simp [h4]
      have s2 : w7.cell? ⟨g, k * 2 + 1, none⟩ = some (.int .i64 (at0.val + z5)) := by
        rw [OW7.out.cellAt (k * 2 + 1) (by omega)]
        exact avC_get _ k ⟨at0.name, at0.val + z5⟩ (by rw [List.getElem?_set]; simp [hkl])
      have f2 : w7.frozen? ⟨g, k * 2 + 1, none⟩ = false := OW7.out.frozenAt (k * 2 + 1)
      obtain ⟨ow8, gr8⟩ := OW7.out.stored (k * 2 + 1) (.int .i64 1)
      rw [avC_set _ k ⟨at0.name, at0.val + z5⟩ 1 (by rw [List.getElem?_set]; simp [hkl]), List.set_set] at ow8
      have OW8 := Lib.hid ow8
      have BB8 : Hid (Below wc.heap.size wc (w7.setCell ⟨g, k * 2 + 1, none⟩ (.int .i64 1))) := B7.out.setCell hgl.1 _
      have UP : Hid (atS sc at0.name ≠ 3 → limV (atS sc at0.name) at0.val ≤ limV (atS sc at0.name) 1) := fun _ => by rw [h4]; exact lim_bool _
      clear ow8 gr8 h4
      have RL := Lib.hid (SL0.out (1) UP.out)
      have NS := Lib.hid (name_set L k at0 (1) HA.out)
      have LL : Hid ((L.set k ⟨at0.name, 1⟩).length = L.length) := List.length_set ..
      have AV8 : Hid (AvV (w7.setCell ⟨g, k * 2 + 1, none⟩ (.int .i64 1)) (L.set k ⟨at0.name, 1⟩) (some ⟨g, 0, none⟩)) := by
        obtain ⟨p, cap, e1, -, e2, -⟩ := av_of_own OW8.out (fun b hb => by
          rcases List.mem_or_eq_of_mem_set hb with q | q
          · exact AV4.out.ok b q
          · rw [q]; exact ⟨hks, (by show -9223372036854775808 ≤ (1 : Int) ∧ (1 : Int) ≤ 9223372036854775807; omega)⟩) (by omega)
        injection e1 with e3 e4 e5
        rw [e3]
        exact e2
      have A2 : Hid (AttrsOk sc (L.set k ⟨at0.name, 1⟩)) := attrs_ok sc _ (NS.out.trans NM.out)
      have E1 := Lib.hid (bx_eval cs sc kd 40 4 L c PB.out (by omega) (by omega) LK.out (attrs_ok sc L NM.out)).1
      have E2 := Lib.hid (bx_eval cs sc kd 40 4 (L.set k ⟨at0.name, 1⟩) c PB.out (by omega) (by omega) LK.out A2.out).1
      generalize exv (nmT sc (valsT sc L) (cvT cs)) c = u1 at *
      generalize exv (nmT sc (valsT sc (L.set k ⟨at0.name, 1⟩)) (cvT cs)) c = u2 at *
      generalize hL2 : L.set k ⟨at0.name, 1⟩ = L2 at *
      clear hL2
      have Y8 := Lib.hid (Y4.out.next BB8.out)
      have X8 := Lib.hid (X4.out.next BB8.out)
      have CS8 := Lib.hid (CS4.out.next BB8.out)
      have AV9 := Lib.hid (AV4.out.next BB8.out)
      have B8 := Lib.hid (B4.out.trans (BB8.out.mono B4.out.size))
      have EV1 := Lib.hid (eval_c (p := cp) (cap := ccap) (ap := some ⟨B, O, none⟩) (apc := acap) c (w7.setCell ⟨g, k * 2 + 1, none⟩ (.int .i64 1)) CS8.out AV9.out X8.out PB.out.ok E1.out)
      have c0 := Y8.out.r0
      have c1 := Y8.out.r1
      have c2 := Y8.out.r2
      have c3 := Y8.out.r3
      clear Y4 X4 CS4 B4
      go_wp2_with fail
      refine EV1.out.mono ?_
      rintro e w9 ⟨rfl, hb⟩
      have bv : Below w9.heap.size w9 (w9.alloc (.cells #[.int .i64 kd, .int .i64 u1] 42)) := below_box _ _
      have bw := hb.trans (bv.mono hb.size)
      have Y9 := Lib.hid (Y8.out.next bw)
      have X9 := Lib.hid (X8.out.next bw)
      have CS9 := Lib.hid (CS8.out.next bw)
      have AVc := Lib.hid (AV8.out.next bw)
      have B9 := Lib.hid (B8.out.trans (bw.mono B8.out.size))
      have V1 : Hid (BX2 (w9.alloc (.cells #[.int .i64 kd, .int .i64 u1] 42)) w9.heap.size (.int .i64 kd) (.int .i64 u1)) := BX2.new w9 _ _ _
      have EV2 := Lib.hid (eval_c (p := cp) (cap := ccap) (ap := some ⟨g, 0, none⟩) (apc := cg) c (w9.alloc (.cells #[.int .i64 kd, .int .i64 u1] 42)) CS9.out AVc.out X9.out PB.out.ok E2.out)
      rw [LL.out] at EV2
      clear hb bv bw c0 c1 c2 c3 Y8 X8 CS8 AV9 AV8 EV1
      have c0 := Y9.out.r0
      have c1 := Y9.out.r1
      have c2 := Y9.out.r2
      have c3 := Y9.out.r3
      go_wp2_with fail
      refine EV2.out.mono ?_
      rintro e wa ⟨rfl, hb⟩
      have bv : Below wa.heap.size wa (wa.alloc (.cells #[.int .i64 kd, .int .i64 u2] 42)) := below_box _ _
      have Ba := Lib.hid (B9.out.trans ((hb.trans (bv.mono hb.size)).mono B9.out.size))
      have V1a := Lib.hid (V1.out.next (hb.trans (bv.mono hb.size)))
      have V2a : Hid (BX2 (wa.alloc (.cells #[.int .i64 kd, .int .i64 u2] 42)) wa.heap.size (.int .i64 kd) (.int .i64 u2)) := BX2.new wa _ _ _
      clear hb bv c0 c1 c2 c3 EV2 V1 Y9 X9 CS9 AVc B9 B8
      have d0 := V1a.out.r0
      have d1 := V1a.out.r1
      have d2 := V2a.out.r0
      have d3 := V2a.out.r1
      have hq : R.1 = 0 ∨ R.1 = 1 ∨ R.1 = 2 ∨ R.1 = 3 := by have := RL.out.1; unfold tr3 at this; omega
      have RR := Lib.hid RL.out.2
      clear RL
      generalize R.1 = r1 at *
      rcases hq with rfl | rfl | rfl | rfl
      · have e : u1 = u2 := RR.out.1 rfl
        subst e
        clear RR
        go_wp2_with (go_at_call 9; refine (AW.out _).mono ?_; rintro e wz ⟨rfl, hbz⟩)
        go_ret
        exact ⟨rfl, Ba.out.trans (hbz.mono Ba.out.size)⟩
      · have e : u1 ≤ u2 := RR.out.2.1 rfl
        clear RR
        go_wp2_with (go_at_call 9; refine (AW.out _).mono ?_; rintro e wz ⟨rfl, hbz⟩)
        go_ret
        exact ⟨rfl, Ba.out.trans (hbz.mono Ba.out.size)⟩
      · have e : u2 ≤ u1 := RR.out.2.2 rfl
        clear RR
        go_wp2_with (go_at_call 9; refine (AW.out _).mono ?_; rintro e wz ⟨rfl, hbz⟩)
        go_ret
        exact ⟨rfl, Ba.out.trans (hbz.mono Ba.out.size)⟩
      · clear RR
        go_wp2_with (go_at_call 9; refine (AW.out _).mono ?_; rintro e wz ⟨rfl, hbz⟩)
        go_ret
        exact ⟨rfl, Ba.out.trans (hbz.mono Ba.out.size)⟩
    · have n4 : (atS sc at0.name == 4) = false := beq_eq_false_iff_ne.2 h4
      have UP : Hid (atS sc at0.name ≠ 3 → limV (atS sc at0.name) at0.val ≤ limV (atS sc at0.name) (at0.val + z5)) := fun h3 => lim_up _ _ _ (atS_bd sc at0.name) h3 h4 hz5b.1
      clear h4
      have RL := Lib.hid (SL0.out (at0.val + z5) UP.out)
      have NS := Lib.hid (name_set L k at0 (at0.val + z5) HA.out)
      have LL : Hid ((L.set k ⟨at0.name, at0.val + z5⟩).length = L.length) := List.length_set ..
      have AV8 : Hid (AvV w7 (L.set k ⟨at0.name, at0.val + z5⟩) (some ⟨g, 0, none⟩)) := by
        obtain ⟨p, cap, e1, -, e2, -⟩ := av_of_own OW7.out (fun b hb => by
          rcases List.mem_or_eq_of_mem_set hb with q | q
          · exact AV4.out.ok b q
          · rw [q]; exact ⟨hks, (by show -9223372036854775808 ≤ (at0.val + z5 : Int) ∧ (at0.val + z5 : Int) ≤ 9223372036854775807; omega)⟩) (by omega)
        injection e1 with e3 e4 e5
        rw [e3]
        exact e2
      have A2 : Hid (AttrsOk sc (L.set k ⟨at0.name, at0.val + z5⟩)) := attrs_ok sc _ (NS.out.trans NM.out)
      have E1 := Lib.hid (bx_eval cs sc kd 40 4 L c PB.out (by omega) (by omega) LK.out (attrs_ok sc L NM.out)).1
      have E2 := Lib.hid (bx_eval cs sc kd 40 4 (L.set k ⟨at0.name, at0.val + z5⟩) c PB.out (by omega) (by omega) LK.out A2.out).1
      generalize exv (nmT sc (valsT sc L) (cvT cs)) c = u1 at *
      generalize exv (nmT sc (valsT sc (L.set k ⟨at0.name, at0.val + z5⟩)) (cvT cs)) c = u2 at *
      generalize hL2 : L.set k ⟨at0.name, at0.val + z5⟩ = L2 at *
      clear hL2
      have Y8 := Lib.hid (Y4.out.next B7.out)
      have X8 := Lib.hid (X4.out.next B7.out)
      have CS8 := Lib.hid (CS4.out.next B7.out)
      have AV9 := Lib.hid (AV4.out.next B7.out)
      have B8 := Lib.hid (B4.out.trans (B7.out.mono B4.out.size))
      have EV1 := Lib.hid (eval_c (p := cp) (cap := ccap) (ap := some ⟨B, O, none⟩) (apc := acap) c w7 CS8.out AV9.out X8.out PB.out.ok E1.out)
      have c0 := Y8.out.r0
      have c1 := Y8.out.r1
      have c2 := Y8.out.r2
      have c3 := Y8.out.r3
      clear Y4 X4 CS4 B4
      go_wp2_with fail
      refine EV1.out.mono ?_
      rintro e w9 ⟨rfl, hb⟩
      have bv : Below w9.heap.size w9 (w9.alloc (.cells #[.int .i64 kd, .int .i64 u1] 42)) := below_box _ _
      have bw := hb.trans (bv.mono hb.size)
      have Y9 := Lib.hid (Y8.out.next bw)
      have X9 := Lib.hid (X8.out.next bw)
      have CS9 := Lib.hid (CS8.out.next bw)
      have AVc := Lib.hid (AV8.out.next bw)
      have B9 := Lib.hid (B8.out.trans (bw.mono B8.out.size))
      have V1 : Hid (BX2 (w9.alloc (.cells #[.int .i64 kd, .int .i64 u1] 42)) w9.heap.size (.int .i64 kd) (.int .i64 u1)) := BX2.new w9 _ _ _
      have EV2 := Lib.hid (eval_c (p := cp) (cap := ccap) (ap := some ⟨g, 0, none⟩) (apc := cg) c (w9.alloc (.cells #[.int .i64 kd, .int .i64 u1] 42)) CS9.out AVc.out X9.out PB.out.ok E2.out)
      rw [LL.out] at EV2
      clear hb bv bw c0 c1 c2 c3 Y8 X8 CS8 AV9 AV8 EV1
      have c0 := Y9.out.r0
      have c1 := Y9.out.r1
      have c2 := Y9.out.r2
      have c3 := Y9.out.r3
      go_wp2_with fail
      refine EV2.out.mono ?_
      rintro e wa ⟨rfl, hb⟩
      have bv : Below wa.heap.size wa (wa.alloc (.cells #[.int .i64 kd, .int .i64 u2] 42)) := below_box _ _
      have Ba := Lib.hid (B9.out.trans ((hb.trans (bv.mono hb.size)).mono B9.out.size))
      have V1a := Lib.hid (V1.out.next (hb.trans (bv.mono hb.size)))
      have V2a : Hid (BX2 (wa.alloc (.cells #[.int .i64 kd, .int .i64 u2] 42)) wa.heap.size (.int .i64 kd) (.int .i64 u2)) := BX2.new wa _ _ _
      clear hb bv c0 c1 c2 c3 EV2 V1 Y9 X9 CS9 AVc B9 B8
      have d0 := V1a.out.r0
      have d1 := V1a.out.r1
      have d2 := V2a.out.r0
      have d3 := V2a.out.r1
      have hq : R.1 = 0 ∨ R.1 = 1 ∨ R.1 = 2 ∨ R.1 = 3 := by have := RL.out.1; unfold tr3 at this; omega
      have RR := Lib.hid RL.out.2
      clear RL
      generalize R.1 = r1 at *
      rcases hq with rfl | rfl | rfl | rfl
      · have e : u1 = u2 := RR.out.1 rfl
        subst e
        clear RR
        go_wp2_with (go_at_call 9; refine (AW.out _).mono ?_; rintro e wz ⟨rfl, hbz⟩)
        go_ret
        exact ⟨rfl, Ba.out.trans (hbz.mono Ba.out.size)⟩
      · have e : u1 ≤ u2 := RR.out.2.1 rfl
        clear RR
        go_wp2_with (go_at_call 9; refine (AW.out _).mono ?_; rintro e wz ⟨rfl, hbz⟩)
        go_ret
        exact ⟨rfl, Ba.out.trans (hbz.mono Ba.out.size)⟩
      · have e : u2 ≤ u1 := RR.out.2.2 rfl
        clear RR
        go_wp2_with (go_at_call 9; refine (AW.out _).mono ?_; rintro e wz ⟨rfl, hbz⟩)
        go_ret
        exact ⟨rfl, Ba.out.trans (hbz.mono Ba.out.size)⟩
      · clear RR
        go_wp2_with (go_at_call 9; refine (AW.out _).mono ?_; rintro e wz ⟨rfl, hbz⟩)
        go_ret
        exact ⟨rfl, Ba.out.trans (hbz.mono Ba.out.size)⟩
  · have n0 : (R.2 != 0) = true := by simp [hr]
    have R10 : Hid (R = (0, 10)) := by
      rcases SL.out at0.val (fun _ => Int.le_refl _) with q | q
      · exact q
      · exact absurd q.1 hr
    have n10 : (R.2 == 10) = true := by rw [R10.out]; rfl
    clear SL hr R10
    go_wp2_with fail
    refine (AW.out wc).mono ?_
    rintro e w5 ⟨rfl, hb⟩
    have B5 := Lib.hid (B4.out.trans (hb.mono B4.out.size))
    clear hb
    go_wp2
    go_ret
    exact ⟨rfl, B5.out⟩

end Go.Proofs.Ytfoedbfkddoibaa
