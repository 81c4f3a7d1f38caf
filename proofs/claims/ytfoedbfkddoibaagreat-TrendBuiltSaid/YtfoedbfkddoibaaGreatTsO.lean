/-
  The walk of TrendBuilt.
-/
import Derived.Test.YtfoedbfkddoibaaGreatTk1
import Derived.Test.YtfoedbfkddoibaaGreatGl
namespace Go.Proofs.YtfoedbfkddoibaaGreat
set_option linter.unusedVariables false
set_option linter.unusedSimpArgs false
open Go.ChangeShapes Go.WideShapes Go.ChangeAt Go.RowKit
open Go.Deep (BT)

theorem bcs_first (g : Nat) (s : ByteArray) : firstIx s (bcs g) = firstIx s (bcs 0) := rfl
theorem bcs_row0 (g : Nat) : rowT (bcs g) 0 = rowT (bcs 0) 0 := by kernel_rfl
theorem bcs_row1 (g : Nat) : rowT (bcs g) 1 = rowT (bcs 0) 1 := by kernel_rfl
theorem bcs_val0 (g : Nat) : cval (bcs g) 0 = cval (bcs 0) 0 := by kernel_rfl
theorem bcs_val1 (g : Nat) : cval (bcs g) 1 = cval (bcs 0) 1 := by kernel_rfl
theorem bcs_row (g i : Nat) (hi : i < 2) : rowT (bcs g) i = rowT (bcs 0) i := by
  have h : i = 0 ∨ i = 1 := by omega
  rcases h with rfl | rfl
  · exact bcs_row0 g
  · exact bcs_row1 g
theorem bcs_val (g i : Nat) (hi : i < 2) : cval (bcs g) i = cval (bcs 0) i := by
  have h : i = 0 ∨ i = 1 := by omega
  rcases h with rfl | rfl
  · exact bcs_val0 g
  · exact bcs_val1 g
theorem bcs_lookT (g : Nat) : lookT (bcs g) (tabN (bcs g) (bcs g).length) = lookT (bcs 0) (tabN (bcs 0) (bcs 0).length) := by
  funext s
  show lookT (bcs g) (tabN (bcs g) 2) s = lookT (bcs 0) (tabN (bcs 0) 2) s
  rw [lookT_tab, lookT_tab, bcs_first]
  cases firstIx s (bcs 0) with
  | none => rfl
  | some i =>
    dsimp only
    by_cases hi : i < 2
    · rw [if_pos hi, if_pos hi, bcs_row g i hi]
    · rw [if_neg hi, if_neg hi]
theorem bcs_cvT (g : Nat) : cvT (bcs g) = cvT (bcs 0) := by
  funext s
  unfold cvT
  rw [bcs_first]
  cases h : firstIx s (bcs 0) with
  | none => rfl
  | some i => exact bcs_val g i (firstIx_lt s (bcs 0) i h)
theorem bcs_type (g : Nat) (sc : Int) (a : Nd) (k : Fo) : typeOfT (bcs g) sc a k = typeOfT (bcs 0) sc a k := by
  unfold typeOfT
  rw [bcs_lookT]
theorem bcs_simp (g : Nat) (sc : Int) (a : Nd) (k : Fo) : simpR (bcs g) sc a k = simpR (bcs 0) sc a k := by
  unfold simpR
  rw [bcs_type, bcs_lookT, bcs_cvT]
theorem bcs_of (g : Nat) (sc : Int) (a : Nd) (k : Fo) (s : ByteArray) : ofT (bcs g) sc a k s = ofT (bcs 0) sc a k s := by
  unfold ofT
  rw [bcs_simp]
theorem root_built : True := by
  have g := @open_intsl
  trivial
def CPost2 (w : World) (e : Ending) (w' : World) : Prop := ∃ (g : Nat) (p : Option Addr) (cap : Nat), e = .returned (.slice p (bcs g).length cap) ∧ CsV w' (bcs g) p ∧ (bcs g).length ≤ cap ∧ Below w.heap.size w w'
set_option maxHeartbeats 4000000 in
set_option maxRecDepth 100000 in
theorem bconsts2_any (w : World) : Calls Tryz.prog 14 #[] w (CPost2 w) := by
  go_enter Tryz.func14, Tryz.ntmps14
  go_wp2
  go_ret
  refine ⟨w.heap.size, some ⟨w.heap.size + 1, 0, none⟩, 2, rfl, ⟨⟨w.heap.size + 1, 0, fun _ => rfl, ?_⟩, bcs_ok _, Nat.le_trans (show (bcs w.heap.size).length ≤ 2 from Nat.le_refl 2) (by decide)⟩, Nat.le_refl 2, ((Below.refl _ _).alloc (Nat.le_refl _) _).alloc (by simp) _⟩
  refine ⟨⟨by simp [go_sem]; rfl, by simp [go_sem], by simp [go_sem], by simp [go_sem], by simp [go_sem, len]⟩, ⟨fun q => absurd rfl q, trivial⟩, ⟨by simp [go_sem]; rfl, by simp [go_sem], by simp [go_sem], by simp [go_sem], by simp [go_sem, len]⟩, ⟨fun _ => rfl, ⟨by simp [go_sem], by simp [go_sem], by simp [go_sem]; rfl, by simp [go_sem, len]⟩, fun q => absurd rfl q, trivial, ⟨by simp [go_sem], by simp [go_sem], by simp [go_sem], by simp [go_sem, len]⟩, fun q => absurd rfl q, trivial, trivial⟩, trivial⟩
theorem below_thn {w a b : World} (h2 : Below a.heap.size a b) (h1 : Below w.heap.size w a) : Below w.heap.size w b := h1.trans (h2.mono h1.size)
theorem nm_size (sc : Int) (hs : sc = 1 ∨ sc = 2 ∨ sc = 3) : ∀ l ∈ Att.listL sc, (⟨l.toArray⟩ : ByteArray).size ≤ 9223372036854775807 := by
  intro l hl
  have := (list_wf sc hs l hl).2
  show l.toArray.size ≤ _
  simp; omega

set_option maxHeartbeats 8000000 in
set_option maxRecDepth 100000 in
theorem walk_trendBuilt (v : Value) (n : Nat) (a1 a2 : Int) (w : World) (h : IntsL w v n w.heap.size) (w1 : (Lit.int .i64 a1).wf = true) (w2 : (Lit.int .i64 a2).wf = true) :
    Calls Tryz.prog 4 #[v, .int .i64 a1, .int .i64 a2] w fun e w' => e = .returned (.bool true) ∧ Below w.heap.size w w' := by
  clear w1 w2
  have H := Lib.hid h
  obtain ⟨p, cap, rfl, -, -⟩ := h
  obtain ⟨z1, hz1⟩ : ∃ z, (bits BinOp.and IntKind.i64 a1 255).tmod 3 = z := ⟨_, rfl⟩
  have hz1b : 0 ≤ z1 ∧ z1 < 3 := by rw [← hz1]; exact tmod_in _ _ (by rw [and_255]; omega) (by omega)
  obtain ⟨z2, hz2⟩ : ∃ z, bits BinOp.and IntKind.i64 a2 3 = z := ⟨_, rfl⟩
  have hz2b : 0 ≤ z2 ∧ z2 < 4 := by rw [← hz2, and_3]; omega
  obtain ⟨sc, hsc, hscb⟩ : ∃ sc, IntKind.i64.wrap (1 + z1) = sc ∧ (sc = 1 ∨ sc = 2 ∨ sc = 3) := ⟨1 + z1, IntWalk.i64_in _ (by omega), by omega⟩
  obtain ⟨kind, hkd, hkdb⟩ : ∃ kd, IntKind.i64.wrap (1 + z2) = kd ∧ (kd = 1 ∨ kd = 2 ∨ kd = 3 ∨ kd = 4) := ⟨1 + z2, IntWalk.i64_in _ (by omega), by omega⟩
  have HS := Lib.hid hscb
  have HK := Lib.hid hkdb
  clear hscb hkdb hz1b hz2b
  have AW := Lib.hid tawake_any
  have hL0 : Hid (0 < (Att.listL sc).length) := by rcases HS.out with rfl | rfl | rfl <;> (unfold Hid; decide)
  have hLb := Lib.hid (list_bd sc)
  have NZ := Lib.hid (nm_size sc HS.out)
  go_enter Tryz.func4, Tryz.ntmps4
  go_wp2_with fail
  clear hz1 hz2 hsc hkd
  refine (bExpr_any (.slice p n cap) n sc kind w H.out HS.out HK.out).mono ?_
  rintro e x1 ⟨c, rfl, hp, hx, hb⟩
  have OKX := Lib.hid hp.ok
  have bb : Below x1.heap.size x1 (x1.alloc (.cells #[.int .i64 c.a.op, .int .i64 c.a.num, .string c.a.name, .slice c.a.ptr (len c.k) c.a.cap] 25)) := below_box _ _
  have X2 := Lib.hid (hx.next bb)
  have B2 := Lib.hid (hb.trans (bb.mono hb.size))
  have Y2 : Hid (BX4 (x1.alloc (.cells #[.int .i64 c.a.op, .int .i64 c.a.num, .string c.a.name, .slice c.a.ptr (len c.k) c.a.cap] 25)) x1.heap.size (.int .i64 c.a.op) (.int .i64 c.a.num) (.string c.a.name) (.slice c.a.ptr (len c.k) c.a.cap)) := BX4.new x1 _ _ _ _ _
  clear hp hx hb bb
  go_wp2_with fail
  generalize x1.alloc (.cells #[.int .i64 c.a.op, .int .i64 c.a.num, .string c.a.name, .slice c.a.ptr (len c.k) c.a.cap] 25) = y0 at *
  refine (rattrs_any sc y0).mono ?_
  rintro e x3 ⟨va, rfl, hsv, hb⟩
  have X3 := Lib.hid (X2.out.next hb)
  have B3 := Lib.hid (B2.out.trans (hb.mono B2.out.size))
  have Y3 := Lib.hid (Y2.out.next hb)
  obtain ⟨g, cva, rfl, hsc⟩ : ∃ g cva, va = .slice (some ⟨g, 0, none⟩) (Att.listL sc).length cva ∧ ∀ i u, (strV (Att.listL sc))[i]? = some u → x3.cell? ⟨g, i, none⟩ = some u := by
    rcases hsv with ⟨q, -⟩ | ⟨g, cva, q1, q2⟩
    · have := hL0.out; rw [q] at this; simp at this
    · exact ⟨g, cva, q1, q2⟩
  have SV := Lib.hid hsc
  clear hsv hsc hb X2 B2 Y2
  go_wp2_with fail
  go_loopw [9] (fun i wr => ∃ j : Nat, i = .int .i64 j ∧ x1.heap.size < wr.heap.size ∧ Hid (j ≤ (Att.listL sc).length ∧ Below x3.heap.size x3 wr)) (fun i _ => (Att.listL sc).length - (intOf i).toNat)
  case atStart => exact ⟨0, rfl, Y3.out.lt, Nat.zero_le _, Below.refl _ _⟩
  case round =>
    obtain ⟨j, rfl, hlt, HR⟩ := hrel
    have BW : Hid (Below w.heap.size w wr) := B3.out.trans (HR.out.2.mono B3.out.size)
    by_cases hj : j < (Att.listL sc).length
    · have hj1 : (j : Int) < ((Att.listL sc).length : Int) := by omega
      have hj0 : (0 : Int) ≤ (j : Int) := by omega
      obtain ⟨l, hl⟩ : ∃ l, (Att.listL sc)[j]? = some l := ⟨_, List.getElem?_eq_getElem hj⟩
      have hsz : Hid ((⟨l.toArray⟩ : ByteArray).size ≤ 9223372036854775807) := NZ.out l (List.mem_of_getElem? hl)
      have ck : Hid (∀ wk, Below wr.heap.size wr wk → wk.cell? ⟨g, j, none⟩ = some (.string ⟨l.toArray⟩)) := by
        intro wk hb
        have q : x3.cell? ⟨g, j, none⟩ = some (.string ⟨l.toArray⟩) := SV.out j _ (by unfold strV; rw [List.getElem?_map, hl]; rfl)
        have hb2 := HR.out.2.trans (hb.mono HR.out.2.size)
        rw [hb2.cell (block_lt_of_cell q)]; exact q
      generalize (⟨l.toArray⟩ : ByteArray) = nm at *
      have YW := Lib.hid (Y3.out.next HR.out.2)
      have XW := Lib.hid (X3.out.next HR.out.2)
      obtain ⟨R, hR⟩ : ∃ R, ofT (bcs 0) sc c.a c.k nm = R := ⟨_, rfl⟩
      have OP : Hid (∀ (wk : World) (gg : Nat) (pp : Option Addr) (cc : Nat), Below wr.heap.size wr wk → CsV wk (bcs gg) pp → (bcs gg).length ≤ cc → Calls Tryz.prog 10 #[.slice pp (bcs gg).length cc, .int .i64 sc, .agg #[.int .i64 c.a.op, .int .i64 c.a.num, .string c.a.name, .slice c.a.ptr (len c.k) c.a.cap], .string nm] wk (OfP wk R)) := by
        intro wk gg pp cc hb hcs hcc
        have q := ofP_any (bcs gg) pp cc sc c.b c.o c.a.op c.a.num c.a.name c.a.ptr c.a.cap c.k nm wk hcs (XW.out.next hb) OKX.out
        rw [bcs_of] at q
        rw [← hR]
        exact q
      have OR : Hid (∀ (wk : World) (gg : Nat) (pp : Option Addr) (cc : Nat), Below wr.heap.size wr wk → CsV wk (bcs gg) pp → (bcs gg).length ≤ cc → Calls Tryz.prog 11 #[.slice pp (bcs gg).length cc, .int .i64 sc, .agg #[.int .i64 c.a.op, .int .i64 c.a.num, .string c.a.name, .slice c.a.ptr (len c.k) c.a.cap], .string nm] wk (OfP wk R)) := by
        intro wk gg pp cc hb hcs hcc
        have q := ofR_any (bcs gg) pp cc sc c.b c.o c.a.op c.a.num c.a.name c.a.ptr c.a.cap c.k nm wk hcs hcc hsz.out (XW.out.next hb) OKX.out
        rw [bcs_of] at q
        rw [← hR]
        exact q
      clear hR hl
      have c0 := YW.out.r0
      have c1 := YW.out.r1
      have c2 := YW.out.r2
      have c3 := YW.out.r3
      have s0 := ck.out wr (Below.refl _ _)
      go_upto_region 7 with (fail)
      go_cut [10, 11] (fun va vb wx => va = .int .i64 R.1 ∧ vb = .int .i64 R.2 ∧ Hid (Below wr.heap.size wr wx))
      case first =>
        go_region_with (first
          | (go_at_call 14; go_must (refine (bconsts2_any _).mono ?_; rintro e wk ⟨gg, pp, cc, rfl, hcs, hcc, hb⟩; have CSK := Lib.hid hcs; have CCK := Lib.hid hcc; have BK : Hid (Below wr.heap.size wr wk) := below_thn hb ((Below.refl _ _).drew); have BKW : Hid (Below wr.heap.size wr wk) := BK.out; have YK := Lib.hid (YW.out.next BKW.out); clear c0 c1 c2 c3 s0; have c0 := YK.out.r0; have c1 := YK.out.r1; have c2 := YK.out.r2; have c3 := YK.out.r3; have s0 := ck.out wk BKW.out; clear hcs hcc hb))
          | (go_at_call 10; go_must (refine (OP.out wk gg pp cc BKW.out CSK.out CCK.out).mono ?_; rintro e wf ⟨rfl, hb⟩; have BF : Hid (Below wr.heap.size wr wf) := below_thn hb BK.out)))
        all_goals (go_wp2; go_meet; exact ⟨rfl, rfl, BF.out⟩)
      case rest =>
      obtain ⟨rfl, rfl, hcb⟩ := hcut
      have BC : Hid (Below wr.heap.size wr wc) := hcb
      clear hcb c0 c1 c2 c3 s0
      have YC := Lib.hid (YW.out.next BC.out)
      have c0 := YC.out.r0
      have c1 := YC.out.r1
      have c2 := YC.out.r2
      have c3 := YC.out.r3
      have s0 := ck.out wc BC.out
      go_upto_region 8 with (fail)
      go_cut [12, 13] (fun va vb wx => va = .int .i64 R.1 ∧ vb = .int .i64 R.2 ∧ Hid (Below wc.heap.size wc wx))
      case first =>
        go_region_with (first
          | (go_at_call 14; go_must (refine (bconsts2_any _).mono ?_; rintro e wk ⟨gg, pp, cc, rfl, hcs, hcc, hb⟩; have CSK := Lib.hid hcs; have CCK := Lib.hid hcc; have BK : Hid (Below wc.heap.size wc wk) := below_thn hb ((Below.refl _ _).drew); have BKW : Hid (Below wr.heap.size wr wk) := (BC.out.trans (BK.out.mono BC.out.size)); have YK := Lib.hid (YW.out.next BKW.out); clear c0 c1 c2 c3 s0; have c0 := YK.out.r0; have c1 := YK.out.r1; have c2 := YK.out.r2; have c3 := YK.out.r3; have s0 := ck.out wk BKW.out; clear hcs hcc hb))
          | (go_at_call 11; go_must (refine (OR.out wk gg pp cc BKW.out CSK.out CCK.out).mono ?_; rintro e wf ⟨rfl, hb⟩; have BF : Hid (Below wc.heap.size wc wf) := below_thn hb BK.out)))
        all_goals (go_wp2; go_meet; exact ⟨rfl, rfl, BF.out⟩)
      case rest =>
      obtain ⟨rfl, rfl, hcb⟩ := hcut
      have BD := Lib.hid (BC.out.trans (hcb.mono BC.out.size))
      clear hcb c0 c1 c2 c3 s0
      have hL25 : (Att.listL sc).length ≤ 25 := hLb.out
      have n1 : (R.2 != R.2) = false := by simp
      have n2 : (R.1 != R.1) = false := by simp
      go_wp2
      go_roundw
      case rel => exact ⟨j + 1, by go_num, Nat.lt_of_lt_of_le hlt BD.out.size, by omega, HR.out.2.trans (BD.out.mono HR.out.2.size)⟩
      case measure => simp [intOf]; omega
    · have hj1 : ¬ (j : Int) < ((Att.listL sc).length : Int) := by omega
      go_wp2_with fail
      refine (AW.out wr).mono ?_
      rintro e w5 ⟨rfl, hb⟩
      have B5 := Lib.hid (BW.out.trans (hb.mono BW.out.size))
      clear hb
      go_wp2
      go_ret
      exact ⟨rfl, B5.out⟩

end Go.Proofs.YtfoedbfkddoibaaGreat
