/-
  The reference's parser: all parts together, tokensExpr, ParseExpr.
-/
import Derived.Test.YtgcjkfkfdehpcaaGreatRzP
import Derived.Test.YtgcjkfkfdehpcaaGreatRzQ
import Derived.Test.YtgcjkfkfdehpcaaGreatRzU
import Derived.Test.YtgcjkfkfdehpcaaGreatRzX
import Derived.Test.YtgcjkfkfdehpcaaGreatPzX
import Derived.Test.YtgcjkfkfdehpcaaGreatTkR
namespace Go.Proofs.YtgcjkfkfdehpcaaGreat
set_option linter.unusedVariables false
set_option linter.unusedSimpArgs false
open Go.ChangeShapes Go.WideShapes Go.ChangeAt Go.RowKit
open Go.Deep (BT)

structure RAll (L : List Tk.T4) (i : Nat) : Prop where
  ex : RC 28 L .ex i
  dj : RC 47 L .dj i
  cj : RC 66 L .cj i
  ng : RC 85 L .ng i
  cm : RC 98 L .cm i
  sm : RC 103 L .sm i
  tm : RC 106 L .tm i
  fc : RC 110 L .fc i
theorem rparser_all (L : List Tk.T4) (hV : ∀ t ∈ L, VT t.t) : ∀ n i, i ≤ L.length → L.length - i < n → RAll L i := by
  intro n
  induction n with
  | zero => intro i _ h; omega
  | succ n ih =>
    intro i hi hn
    have IH : ∀ j, i < j → j ≤ L.length → RAll L j := fun j a b => ih j b (by omega)
    have hfc := fc_rof L i hV (fun j a b => (IH j a b).fc) (fun j a b => (IH j a b).ex) (fun hi op hop => xt_rof L i hi op hop (fun j a b => (IH j a b).ex))
    have htm := tm_rof L i hfc (fun j a b => (IH j a b).fc)
    have hsm := sm_rof L i htm (fun j a b => (IH j a b).tm)
    have hcm := cm_rof L i hsm (fun j a b => (IH j a b).sm)
    have hng := ng_rof L i hcm (fun j a b => (IH j a b).ng)
    have hcj := cj_rof L i hng (fun j a b => (IH j a b).ng)
    have hdj := dj_rof L i hcj (fun j a b => (IH j a b).cj)
    exact ⟨ex_rof L i hdj (fun j a b => (IH j a b).ex), hdj, hcj, hng, hcm, hsm, htm, hfc⟩
/-- **The reference's parser does what the plain parser says.** -/
theorem rexpr_parsed (L : List Tk.T4) (hV : ∀ t ∈ L, VT t.t) (i : Nat) (hi : i ≤ L.length) : RC 28 L .ex i := (rparser_all L hV _ i hi (Nat.lt_succ_self _)).ex
/-- The first token that does not fit, -1 without one. -/
def badT (L : List Tk.T4) : Int := match Pz.pv L .ex 0 with
  | (some _, j) => if j < L.length then j else -1
  | (none, j) => j
def TxP (L : List Tk.T4) (w : World) (e : Ending) (w' : World) : Prop := ∃ c : Ch, e = .returned (.tuple #[.agg #[.int .i64 c.a.op, .int .i64 c.a.num, .string c.a.name, .slice c.a.ptr (len c.k) c.a.cap], .int .i64 (badT L)]) ∧ (∀ x j, Pz.pv L .ex 0 = (some x, j) → Pz.nr c = x ∧ ExAt w' c.b c.o c.a c.k ∧ ∀ r, r < w.heap.size → Pz.FNe r c.k c.b) ∧ Below w.heap.size w w'

theorem txp_drew {L : List Tk.T4} {w W : World} {e : Ending} (h : TxP L w e W) : TxP L w e W.drew := by
  obtain ⟨c, h1, h2, h3⟩ := h
  exact ⟨c, h1, fun x j hx => ⟨(h2 x j hx).1, ⟨(h2 x j hx).2.1.1, (h2 x j hx).2.1.2.next ((Below.refl _ _).drew)⟩, (h2 x j hx).2.2⟩, h3.drew⟩
set_option maxHeartbeats 1000000 in
set_option maxRecDepth 100000 in
theorem tokexpr_any (L : List Tk.T4) (p : Option Addr) (cap : Nat) (w : World) (hV : ∀ t ∈ L, VT t.t) (ht : TkB w L p w.heap.size) :
    Calls Tryz.prog 15 #[.slice p L.length cap] w (TxP L w) := by
  have TB := Lib.hid ht
  have HV := Lib.hid hV
  have hL4 := ht.1
  clear ht hV
  go_enter Tryz.func15, Tryz.ntmps15
  go_wp2_with fail
  have S1 : Hid (RGd (w.heap.size + 1) L p cap 0 ((w.alloc (.cells #[.int .i64 0, .int .i64 0, .string ⟨#[]⟩, .slice none 0 0] 25)).alloc (.cells #[.slice p L.length cap, .int .i64 0, .int .i64 (-1)] 59))) :=
    ⟨⟨by simp [go_sem], by simp [go_sem], by simp [go_sem], by simp [go_sem], by simp [go_sem], by simp, by
      have h9 := TB.out.below (((Below.refl w.heap.size w).alloc (Nat.le_refl _) (.cells #[.int .i64 0, .int .i64 0, .string ⟨#[]⟩, .slice none 0 0] 25)).alloc (by simp) (.cells #[.slice p L.length cap, .int .i64 0, .int .i64 (-1)] 59)) (Nat.le_refl _)
      refine ⟨h9.1, fun q => ?_⟩
      obtain ⟨g, O, e, hg, hc⟩ := h9.2 q
      exact ⟨g, O, e, by omega, hc⟩⟩, Nat.zero_le _⟩
  have B1 : Hid (Below w.heap.size w ((w.alloc (.cells #[.int .i64 0, .int .i64 0, .string ⟨#[]⟩, .slice none 0 0] 25)).alloc (.cells #[.slice p L.length cap, .int .i64 0, .int .i64 (-1)] 59))) := ((Below.refl _ _).alloc (Nat.le_refl _) _).alloc (by simp) _
  have R1 : Hid (Pz.B4 ((w.alloc (.cells #[.int .i64 0, .int .i64 0, .string ⟨#[]⟩, .slice none 0 0] 25)).alloc (.cells #[.slice p L.length cap, .int .i64 0, .int .i64 (-1)] 59)) w.heap.size Pz.z0) := (Pz.b4_alloc w Pz.z0 _ rfl _).next ((Below.refl _ _).alloc (Nat.le_refl _) _)
  generalize (w.alloc (.cells #[.int .i64 0, .int .i64 0, .string ⟨#[]⟩, .slice none 0 0] 25)).alloc (.cells #[.slice p L.length cap, .int .i64 0, .int .i64 (-1)] 59) = w1 at *
  refine (rexpr_parsed L HV.out 0 (Nat.zero_le _) (w.heap.size + 1) p cap w1 S1.out).mono ?_
  rintro e w2 ⟨c, rfl, hf⟩
  have AD : Hid (Pz.Ok L 0 (Pz.pv L .ex 0) 1) := Pz.pv_adv L .ex 0 (Nat.zero_le _)
  have BT : Hid (badT L = match Pz.pv L .ex 0 with
    | (some _, j) => if j < L.length then (j : Int) else -1
    | (none, j) => (j : Int)) := rfl
  have hs1 : w.heap.size + 1 < w1.heap.size := rgd_lt S1.out
  have PV : Hid (Pz.pv L .ex 0 = Pz.pv L .ex 0) := rfl
  obtain ⟨r0, hr0⟩ : ∃ r0, Pz.pv L .ex 0 = r0 := ⟨_, rfl⟩
  rw [hr0] at hf AD BT
  clear PV
  have PV := Lib.hid hr0
  clear hr0
  obtain ⟨o, j⟩ := r0
  dsimp only at BT hf
  have F2 := Lib.hid hf.1
  have S2 := Lib.hid hf.2.1
  have G2 := Lib.hid hf.2.2
  have R2 := Lib.hid (R1.out.grown hf.2.2 (by simp))
  have B2 : Hid (Below w.heap.size w w2) := B1.out.trans (Pz.below_of_gb G2.out (by omega) hs1)
  have hjl : j ≤ L.length := AD.out.2.1
  clear hf B1 S1 R1
  go_upto_region 3 with (fail)
  have X3 : Hid (Pz.B4 (w2.alloc (.cells #[.int .i64 c.a.op, .int .i64 c.a.num, .string c.a.name, .slice c.a.ptr (len c.k) c.a.cap] 25)) w2.heap.size c) := Pz.b4_alloc w2 c _ rfl _
  have N3 : Hid (Below w2.heap.size w2 (w2.alloc (.cells #[.int .i64 c.a.op, .int .i64 c.a.num, .string c.a.name, .slice c.a.ptr (len c.k) c.a.cap] 25))) := (Below.refl _ _).alloc (Nat.le_refl _) _
  have hs2 : w.heap.size + 1 < w2.heap.size := Nat.lt_of_lt_of_le hs1 G2.out.size
  obtain ⟨xb, hxb⟩ : ∃ xb, w2.heap.size = xb := ⟨_, rfl⟩
  rw [hxb] at X3
  rw [hxb]
  have hxs : w.heap.size + 1 < xb := by omega
  have hxr : xb ≠ w.heap.size := by omega
  have hrx : w.heap.size ≠ xb := by omega
  have B3 := Lib.hid (B2.out.trans (N3.out.mono B2.out.size))
  have R3 := Lib.hid (R2.out.next N3.out)
  have FX : Hid (∀ x, o = some x → Pz.nr c = x ∧ ExAt (w2.alloc (.cells #[.int .i64 c.a.op, .int .i64 c.a.num, .string c.a.name, .slice c.a.ptr (len c.k) c.a.cap] 25)) c.b c.o c.a c.k ∧ Pz.FNe w.heap.size c.k c.b ∧ Pz.FNe (w.heap.size + 1) c.k c.b) := fun x hx => by
    obtain ⟨h1, h2, h3, h4⟩ := F2.out x hx
    exact ⟨h1, h2.next N3.out, h4 w.heap.size (by omega) (fun d hd => by cases hd), h3⟩
  have S3 := Lib.hid (rso_cl _ _ _ _ _ _ _ _ S2.out (N3.out.mono hs2))
  have FR : Hid (∀ x, o = some x → ∀ r, r < w.heap.size → Pz.FNe r c.k c.b) := fun x hx r hr => (F2.out x hx).2.2.2 r (by omega) (fun d hd => by cases hd)
  generalize w2.alloc (.cells #[.int .i64 c.a.op, .int .i64 c.a.num, .string c.a.name, .slice c.a.ptr (len c.k) c.a.cap] 25) = w3 at *
  clear F2 S2 G2 R2 B2 N3 hxb
  -- the end, by what region 5 finds
  have END : Hid (∀ (w4 : World) (b : Int), Below w.heap.size w w4 → Pz.B4 w4 xb c → Pz.B4 w4 w.heap.size Pz.z0 → badT L = b → (∀ x, o = some x → Pz.nr c = x ∧ ExAt w4 c.b c.o c.a c.k ∧ Pz.FNe w.heap.size c.k c.b) →
      TxP L w (.returned (.tuple #[.agg #[.int .i64 c.a.op, .int .i64 c.a.num, .string c.a.name, .slice c.a.ptr (len c.k) c.a.cap], .int .i64 b])) ((((w4.setCell ⟨w.heap.size, 0, none⟩ (.int .i64 c.a.op)).setCell ⟨w.heap.size, 1, none⟩ (.int .i64 c.a.num)).setCell ⟨w.heap.size, 2, none⟩ (.string c.a.name)).setCell ⟨w.heap.size, 3, none⟩ (.slice c.a.ptr (len c.k) c.a.cap))) := fun w4 b h1 h2 h3 h4 h5 => by
    refine ⟨c, by rw [h4], fun x j9 hx => ?_, h1.trans (Pz.below_of_gb (Pz.gb_four w4 w.heap.size _ _ _ _) (Nat.le_refl _) h3.lt)⟩
    rw [PV.out] at hx
    obtain ⟨q1, q2, q3⟩ := h5 x (by injection hx)
    exact ⟨q1, ⟨q2.1, Pz.fat_grown q2.2 q3 (Pz.gb_four _ _ _ _ _ _)⟩, FR.out x (by injection hx)⟩
  cases o with
  | none =>
    obtain ⟨a, w3S⟩ := (show RBd (w.heap.size + 1) L p cap j w3 from S3.out)
    have hb0 : ¬ (j : Int) < 0 := by omega
    have y2 := w3S.c2
    go_upto_region 5 with (fail)
    clear y2
    have c2 := w3S.c2
    obtain ⟨x0, x1, x2, x3, -, -, -, -, xl⟩ := X3.out
    obtain ⟨r0, r1, r2, r3, f0, f1, f2, f3, rl⟩ := R3.out
    dsimp only [Pz.z0, len] at r0 r1 r2 r3 f0 f1 f2 f3 rl
    have sl := w3S.lt
    have TX := Lib.hid (END.out w3 (j : Int) B3.out X3.out R3.out BT.out (fun x hx => by cases hx))
    first | (go_region_with (fail)) | fail
    all_goals
      go_wp2
      refine bodyPost_ret (v := .tuple #[.agg #[.int .i64 c.a.op, .int .i64 c.a.num, .string c.a.name, .slice c.a.ptr (len c.k) c.a.cap], .int .i64 (j : Int)]) ?_ rfl ?_
      · rw [results_cell_tmp rfl]
        go_simp
      · first | exact TX.out | exact txp_drew TX.out
  | some x =>
    have w3S := (show RGd (w.heap.size + 1) L p cap j w3 from S3.out).1
    have hb0 : (-1 : Int) < 0 := by omega
    have y2 := w3S.c2
    have y1 := w3S.c1
    by_cases hj : j < L.length
    · have hj2 : (j : Int) < (L.length : Int) := by omega
      have BT2 : Hid (badT L = (j : Int)) := by unfold Hid; rw [BT.out]; exact if_pos hj
      go_wp2_with fail
      refine (fails_any (w.heap.size + 1) L p cap j w3 S3.out).mono ?_
      rintro e w4 ⟨rfl, hs, hg⟩
      have X4 := Lib.hid (X3.out.grown hg (by simp; omega))
      have R4 := Lib.hid (R3.out.grown hg (by simp))
      have B4 : Hid (Below w.heap.size w w4) := B3.out.trans (Pz.below_of_gb hg (by omega) w3S.lt)
      have FX4 : Hid (∀ x', some x = some x' → Pz.nr c = x' ∧ ExAt w4 c.b c.o c.a c.k ∧ Pz.FNe w.heap.size c.k c.b) := fun x' hx => by
        obtain ⟨h1, h2, h3, h4⟩ := FX.out x' hx
        exact ⟨h1, ⟨h2.1, Pz.fat_grown h2.2 h4 hg⟩, h3⟩
      obtain ⟨a, w4S⟩ := hs
      clear hg y1 y2 w3S
      go_upto_region 5 with (fail)
      have c2 := w4S.c2
      obtain ⟨x0, x1, x2, x3, -, -, -, -, xl⟩ := X4.out
      obtain ⟨r0, r1, r2, r3, f0, f1, f2, f3, rl⟩ := R4.out
      dsimp only [Pz.z0, len] at r0 r1 r2 r3 f0 f1 f2 f3 rl
      have sl := w4S.lt
      have TX := Lib.hid (END.out w4 (j : Int) B4.out X4.out R4.out BT2.out FX4.out)
      first | (go_region_with (fail)) | fail
      all_goals
        go_wp2
        refine bodyPost_ret (v := .tuple #[.agg #[.int .i64 c.a.op, .int .i64 c.a.num, .string c.a.name, .slice c.a.ptr (len c.k) c.a.cap], .int .i64 (j : Int)]) ?_ rfl ?_
        · rw [results_cell_tmp rfl]
          go_simp
        · first | exact TX.out | exact txp_drew TX.out
    · have hj2 : ¬ (j : Int) < (L.length : Int) := by omega
      have BT2 : Hid (badT L = -1) := by unfold Hid; rw [BT.out]; exact if_neg hj
      have FX4 : Hid (∀ x', some x = some x' → Pz.nr c = x' ∧ ExAt w3 c.b c.o c.a c.k ∧ Pz.FNe w.heap.size c.k c.b) := fun x' hx => by
        obtain ⟨h1, h2, h3, h4⟩ := FX.out x' hx
        exact ⟨h1, h2, h3⟩
      go_upto_region 5 with (fail)
      clear y1 y2
      have c2 := w3S.c2
      obtain ⟨x0, x1, x2, x3, -, -, -, -, xl⟩ := X3.out
      obtain ⟨r0, r1, r2, r3, f0, f1, f2, f3, rl⟩ := R3.out
      dsimp only [Pz.z0, len] at r0 r1 r2 r3 f0 f1 f2 f3 rl
      have sl := w3S.lt
      have TX := Lib.hid (END.out w3 (-1) B3.out X3.out R3.out BT2.out FX4.out)
      first | (go_region_with (fail)) | fail
      all_goals
        go_wp2
        refine bodyPost_ret (v := .tuple #[.agg #[.int .i64 c.a.op, .int .i64 c.a.num, .string c.a.name, .slice c.a.ptr (len c.k) c.a.cap], .int .i64 (-1)]) ?_ rfl ?_
        · rw [results_cell_tmp rfl]
          go_simp
        · first | exact TX.out | exact txp_drew TX.out

set_option maxHeartbeats 1000000 in
set_option maxRecDepth 100000 in
theorem rparse_any (s : ByteArray) (w : World) (hs : s.size ≤ 9223372036854775807) : Calls Tryz.prog 8 #[.string s] w (PxP s w) := by
  go_enter Tryz.func8, Tryz.ntmps8
  go_wp2_with fail
  have B0 : Hid (Below w.heap.size w (w.alloc (.cells #[.int .i64 0, .int .i64 0, .string ⟨#[]⟩, .slice none 0 0] 25))) := (Below.refl _ _).alloc (Nat.le_refl _) _
  have R0 : Hid (Pz.B4 (w.alloc (.cells #[.int .i64 0, .int .i64 0, .string ⟨#[]⟩, .slice none 0 0] 25)) w.heap.size Pz.z0) := Pz.b4_alloc w Pz.z0 _ rfl _
  have Q0 : Hid ((w.alloc (.cells #[.int .i64 0, .int .i64 0, .string ⟨#[]⟩, .slice none 0 0] 25)).heap[w.heap.size]? = some (.cells #[.int .i64 0, .int .i64 0, .string ⟨#[]⟩, .slice none 0 0] 25 (0, 0))) := heap_alloc_new w _
  generalize w.alloc (.cells #[.int .i64 0, .int .i64 0, .string ⟨#[]⟩, .slice none 0 0] 25) = w0 at *
  refine (rscan_any s w0 hs).mono ?_
  rintro e w1 ⟨v, rfl, ht, hb⟩
  have PX2 : Hid (Pz.pxT s = if (Tk.scanT s).2.2 ≠ 0 then (Pz.z0, (Tk.scanT s).2.1, (Tk.scanT s).2.2) else match Pz.pv (Tk.scanT s).1 .ex 0 with
    | (some x, j) => if j < (Tk.scanT s).1.length then (Pz.z0, Pz.atOf (Tk.scanT s).1 s j, 1) else if valE x.a x.k = 0 then (x, 0, 0) else (Pz.z0, 0, valE x.a x.k)
    | (none, j) => (Pz.z0, Pz.atOf (Tk.scanT s).1 s j, 1)) := rfl
  have HV := Lib.hid (scanT_valid s)
  have HL := Lib.hid (Pz.scanT_len s)
  generalize Tk.scanT s = r at *
  obtain ⟨L, at0, er⟩ := r
  dsimp only at ht PX2 HV HL
  obtain ⟨p, cap, rfl, -, -, -⟩ := (show ∃ p cap, v = .slice p L.length cap ∧ True ∧ True ∧ True from by obtain ⟨p, cap, h, -⟩ := ht; exact ⟨p, cap, h, trivial, trivial, trivial⟩)
  have TB := Lib.hid (tkb_of ht HL.out (Nat.le_refl _)).2
  have B1 := Lib.hid (B0.out.trans (hb.mono B0.out.size))
  have R1 := Lib.hid (R0.out.next hb)
  have APT : Hid (∀ i x g O, L[i]? = some x → p = some ⟨g, O, none⟩ → g ≠ w.heap.size) := fun i x g O hi hp => tk_apart HV.out TB.out _ Q0.out hb hi hp
  clear ht hb R0 Q0 B0
  have hL4 : L.length ≤ 400 := HL.out
  dsimp only
  by_cases her : er = 0
  · subst her
    have PX3 : Hid (Pz.pxT s = match Pz.pv L .ex 0 with
      | (some x, j) => if j < L.length then (Pz.z0, Pz.atOf L s j, 1) else if valE x.a x.k = 0 then (x, 0, 0) else (Pz.z0, 0, valE x.a x.k)
      | (none, j) => (Pz.z0, Pz.atOf L s j, 1)) := by unfold Hid; rw [PX2.out, if_neg (by simp)]
    clear PX2
    go_wp2_with fail
    refine (tokexpr_any L p cap w1 HV.out TB.out).mono ?_
    rintro e w2 ⟨c, rfl, hx, hb⟩
    have BT : Hid (badT L = match Pz.pv L .ex 0 with
      | (some _, j) => if j < L.length then (j : Int) else -1
      | (none, j) => (j : Int)) := rfl
    have GX : Hid (∀ x j, Pz.pv L .ex 0 = (some x, j) → Pz.Gd x) := fun x j h => Pz.ex_good HV.out HL.out h
    generalize Pz.pv L .ex 0 = r0 at *
    generalize badT L = bt at *
    obtain ⟨o, j⟩ := r0
    have R2 := Lib.hid (R1.out.next hb)
    have B2 := Lib.hid (B1.out.trans (hb.mono B1.out.size))
    have TB2 := Lib.hid (TB.out.below hb (Nat.le_refl _))
    have hz12 : w1.heap.size ≤ w2.heap.size := hb.size
    have HX := Lib.hid hx
    have hr1 : w.heap.size < w1.heap.size := R1.out.lt
    clear hb hx R1 B1 TB
    go_upto_region 5 with (fail)
    have X3 : Hid (Pz.B4 (w2.alloc (.cells #[.int .i64 c.a.op, .int .i64 c.a.num, .string c.a.name, .slice c.a.ptr (len c.k) c.a.cap] 25)) w2.heap.size c) := Pz.b4_alloc w2 c _ rfl _
    have N3 : Hid (Below w2.heap.size w2 (w2.alloc (.cells #[.int .i64 c.a.op, .int .i64 c.a.num, .string c.a.name, .slice c.a.ptr (len c.k) c.a.cap] 25))) := (Below.refl _ _).alloc (Nat.le_refl _) _
    have hrl : w.heap.size < w2.heap.size := R2.out.lt
    obtain ⟨xb, hxb⟩ : ∃ xb, w2.heap.size = xb := ⟨_, rfl⟩
    rw [hxb] at X3
    rw [hxb]
    have hxr : xb ≠ w.heap.size := by omega
    have hrx : w.heap.size ≠ xb := by omega
    have B3 := Lib.hid (B2.out.trans (N3.out.mono B2.out.size))
    have R3 := Lib.hid (R2.out.next N3.out)
    have HX3 : Hid (∀ x j', (o, j) = (some x, j') → Pz.nr c = x ∧ ExAt (w2.alloc (.cells #[.int .i64 c.a.op, .int .i64 c.a.num, .string c.a.name, .slice c.a.ptr (len c.k) c.a.cap] 25)) c.b c.o c.a c.k ∧ Pz.FNe w.heap.size c.k c.b) := fun x j' h => ⟨(HX.out x j' h).1, (HX.out x j' h).2.1.next N3.out, (HX.out x j' h).2.2 _ hr1⟩
    have TB3 := Lib.hid (TB2.out.below N3.out hz12)
    generalize w2.alloc (.cells #[.int .i64 c.a.op, .int .i64 c.a.num, .string c.a.name, .slice c.a.ptr (len c.k) c.a.cap] 25) = w3 at *
    clear HX R2 B2 N3 hxb TB2
    have FAIL : Hid (∀ (x0 x1 x2 x3 : Value), Below w.heap.size w ((((w3.setCell ⟨w.heap.size, 0, none⟩ x0).setCell ⟨w.heap.size, 1, none⟩ x1).setCell ⟨w.heap.size, 2, none⟩ x2).setCell ⟨w.heap.size, 3, none⟩ x3)) := fun x0 x1 x2 x3 => B3.out.trans (Pz.below_of_gb (Pz.gb_four w3 w.heap.size x0 x1 x2 x3) (Nat.le_refl _) R3.out.lt)
    have CS : Hid ((bt = (j : Int) ∧ Pz.pxT s = (Pz.z0, Pz.atOf L s j, 1)) ∨ (bt = -1 ∧ ∃ x, o = some x ∧ Pz.pxT s = if valE x.a x.k = 0 then (x, 0, 0) else (Pz.z0, 0, valE x.a x.k))) := by
      unfold Hid
      have q1 := PX3.out
      have q2 := BT.out
      cases o with
      | none => exact .inl ⟨q2, q1⟩
      | some x =>
        dsimp only at q1 q2
        by_cases hj : j < L.length
        · rw [if_pos hj] at q1 q2
          exact .inl ⟨q2, q1⟩
        · rw [if_neg hj] at q1 q2
          exact .inr ⟨q2, x, rfl, q1⟩
    clear PX3 BT
    rcases CS.out with ⟨rfl, hpx⟩ | ⟨rfl, x, rfl, hpx⟩
    · by_cases hj : j < L.length
      · have hj2 : ¬ (L.length : Int) ≤ (j : Int) := by omega
        have hj3 : (j : Int) < (L.length : Int) := by omega
        have hj0 : (0 : Int) ≤ (j : Int) := by omega
        obtain ⟨t, hti⟩ : ∃ t, L[j]? = some t := ⟨_, List.getElem?_eq_getElem hj⟩
        obtain ⟨g, O, hp, hg, d0, d1, d2, d3⟩ := TB3.out.get hti
        have ngr : g ≠ w.heap.size := APT.out j t g O hti hp
        obtain rfl := hp
        have PE : Hid (Pz.pxT s = (Pz.z0, t.at', 1)) := by unfold Hid; rw [hpx]; unfold Pz.atOf; rw [hti]
        clear hti hpx CS d0 d1 d2
        obtain ⟨r0, r1, r2, r3, f0, f1, f2, f3, rl⟩ := R3.out
        dsimp only [Pz.z0, len] at r0 r1 r2 r3 f0 f1 f2 f3 rl
        go_upto_region 8 with (fail)
        first | (go_region_with (fail)) | fail
        all_goals
          go_wp2
          refine bodyPost_ret (v := .tuple #[.agg #[.int .i64 0, .int .i64 0, .string ⟨#[]⟩, .slice none 0 0], .int .i64 t.at', .int .i64 1]) ?_ rfl ?_
          · rw [results_cell_tmp2 rfl]
            go_simp
          · unfold PxP
            rw [PE.out]
            exact ⟨Pz.z0, rfl, Pz.nr_z0, Pz.exat_z0 _, by first | exact FAIL.out _ _ _ _ | exact (FAIL.out _ _ _ _).drew⟩
      · have hj2 : (L.length : Int) ≤ (j : Int) := by omega
        have PE : Hid (Pz.pxT s = (Pz.z0, (s.size : Int), 1)) := by unfold Hid; rw [hpx]; unfold Pz.atOf; rw [List.getElem?_eq_none (by omega)]
        clear hpx CS
        obtain ⟨r0, r1, r2, r3, f0, f1, f2, f3, rl⟩ := R3.out
        dsimp only [Pz.z0, len] at r0 r1 r2 r3 f0 f1 f2 f3 rl
        go_wp2
        refine bodyPost_ret (v := .tuple #[.agg #[.int .i64 0, .int .i64 0, .string ⟨#[]⟩, .slice none 0 0], .int .i64 s.size, .int .i64 1]) ?_ rfl ?_
        · rw [results_cell_tmp2 rfl]
          go_simp
        · unfold PxP
          rw [PE.out]
          exact ⟨Pz.z0, rfl, Pz.nr_z0, Pz.exat_z0 _, by first | exact FAIL.out _ _ _ _ | exact (FAIL.out _ _ _ _).drew⟩
    · have hb1 : ¬ (L.length : Int) ≤ -1 := by omega
      have hb2 : ¬ (0 : Int) ≤ -1 := by omega
      obtain ⟨hx1, hx2, hx3⟩ := HX3.out x j rfl
      have hgd : Pz.Gd c := (GX.out x j rfl).of_nr hx1
      have hval : valE c.a c.k = valE x.a x.k := by rw [← hx1, Pz.val_nr]
      have hv10 : valE x.a x.k = 0 ∨ valE x.a x.k = 10 := by
        rw [(GX.out x j rfl).val]
        split
        · exact .inl rfl
        · exact .inr rfl
      have V10 := Lib.hid hv10
      have VL := Lib.hid hval
      have HG := Lib.hid (And.intro hx1 hgd)
      have X4 := Lib.hid hx2
      have PE := Lib.hid hpx
      obtain ⟨x0, x1, x2, x3, -, -, -, -, xl⟩ := X3.out
      have HN := Lib.hid hx3
      clear hx1 hx2 hx3 hgd hval hpx CS hv10
      go_wp2_with fail
      clear x0 x1 x2 x3 xl
      refine (rvexpr_any c.b c.o c.a.op c.a.num c.a.name c.a.ptr c.a.cap c.k w3 X4.out HG.out.2.ok).mono ?_
      rintro e w5 ⟨rfl, hb⟩
      rw [show valE ⟨c.a.op, c.a.num, c.a.name, c.a.ptr, c.a.cap⟩ c.k = valE x.a x.k from VL.out]
      have X5 := Lib.hid (X4.out.next hb)
      have R5 := Lib.hid (R3.out.next hb)
      have Y5 := Lib.hid (X3.out.next hb)
      have B5 := Lib.hid (B3.out.trans (hb.mono B3.out.size))
      clear hb X4 R3 B3 X3 FAIL
      obtain ⟨r0, r1, r2, r3, f0, f1, f2, f3, rl⟩ := R5.out
      dsimp only [Pz.z0, len] at r0 r1 r2 r3 f0 f1 f2 f3 rl
      obtain ⟨x0, x1, x2, x3, -, -, -, -, xl⟩ := Y5.out
      have B6 : Hid (∀ (x0 x1 x2 x3 : Value), Below w.heap.size w ((((w5.setCell ⟨w.heap.size, 0, none⟩ x0).setCell ⟨w.heap.size, 1, none⟩ x1).setCell ⟨w.heap.size, 2, none⟩ x2).setCell ⟨w.heap.size, 3, none⟩ x3)) := fun x0 x1 x2 x3 => B5.out.trans (Pz.below_of_gb (Pz.gb_four w5 w.heap.size x0 x1 x2 x3) (Nat.le_refl _) R5.out.lt)
      have X6 : Hid (ExAt ((((w5.setCell ⟨w.heap.size, 0, none⟩ (.int .i64 c.a.op)).setCell ⟨w.heap.size, 1, none⟩ (.int .i64 c.a.num)).setCell ⟨w.heap.size, 2, none⟩ (.string c.a.name)).setCell ⟨w.heap.size, 3, none⟩ (.slice c.a.ptr (len c.k) c.a.cap)) c.b c.o c.a c.k) := ⟨X5.out.1, Pz.fat_grown X5.out.2 HN.out (Pz.gb_four _ _ _ _ _ _)⟩
      clear VL GX HX3
      generalize valE x.a x.k = ve at *
      rcases V10.out with rfl | rfl
      · rw [if_pos rfl] at PE
        clear V10
        go_wp2
        refine bodyPost_ret (v := .tuple #[.agg #[.int .i64 c.a.op, .int .i64 c.a.num, .string c.a.name, .slice c.a.ptr (len c.k) c.a.cap], .int .i64 0, .int .i64 0]) ?_ rfl ?_
        · rw [results_cell_tmp2 rfl]
          go_simp
        · unfold PxP
          rw [PE.out]
          exact ⟨c, rfl, HG.out.1, X6.out, B6.out _ _ _ _⟩
      · rw [if_neg (by omega)] at PE
        clear V10
        go_wp2
        refine bodyPost_ret (v := .tuple #[.agg #[.int .i64 0, .int .i64 0, .string ⟨#[]⟩, .slice none 0 0], .int .i64 0, .int .i64 10]) ?_ rfl ?_
        · rw [results_cell_tmp2 rfl]
          go_simp
        · unfold PxP
          rw [PE.out]
          exact ⟨Pz.z0, rfl, Pz.nr_z0, Pz.exat_z0 _, B6.out _ _ _ _⟩
  · have hv : (er == 0) = false := by simpa using her
    have hv2 : (er != 0) = true := by simpa using her
    have PE : Hid (Pz.pxT s = (Pz.z0, at0, er)) := by unfold Hid; rw [PX2.out, if_pos her]
    have FAIL : Hid (∀ (x0 x1 x2 x3 : Value), Below w.heap.size w ((((w1.setCell ⟨w.heap.size, 0, none⟩ x0).setCell ⟨w.heap.size, 1, none⟩ x1).setCell ⟨w.heap.size, 2, none⟩ x2).setCell ⟨w.heap.size, 3, none⟩ x3)) := fun x0 x1 x2 x3 => B1.out.trans (Pz.below_of_gb (Pz.gb_four w1 w.heap.size x0 x1 x2 x3) (Nat.le_refl _) R1.out.lt)
    clear her PX2
    obtain ⟨r0, r1, r2, r3, f0, f1, f2, f3, rl⟩ := R1.out
    dsimp only [Pz.z0, len] at r0 r1 r2 r3 f0 f1 f2 f3 rl
    go_wp2
    refine bodyPost_ret (v := .tuple #[.agg #[.int .i64 0, .int .i64 0, .string ⟨#[]⟩, .slice none 0 0], .int .i64 at0, .int .i64 er]) ?_ rfl ?_
    · rw [results_cell_tmp2 rfl]
      go_simp
    · unfold PxP
      rw [PE.out]
      exact ⟨Pz.z0, rfl, Pz.nr_z0, Pz.exat_z0 _, by first | exact FAIL.out _ _ _ _ | exact (FAIL.out _ _ _ _).drew⟩

end Go.Proofs.YtgcjkfkfdehpcaaGreat
