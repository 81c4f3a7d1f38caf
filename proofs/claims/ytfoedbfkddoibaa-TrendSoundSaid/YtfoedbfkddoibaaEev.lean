/-
  The contract of eval.Eval.
-/
import Derived.Test.YtfoedbfkddoibaaCon
import Derived.Test.YtfoedbfkddoibaaGm
namespace Go.Proofs.Ytfoedbfkddoibaa
set_option linter.unusedVariables false
set_option linter.unusedSimpArgs false
open Go.ChangeShapes Go.WideShapes Go.ChangeAt Go.RowKit
open Go.Maps (has size IsMap)
open Go.Deep (BT)

theorem results_ct {fn : Func} {p q : Tmp} {ty : TypeId} (h : fn.results = #[.cell p ty, .tmp q]) (tmps : Array Value) (P : Program) (w : World) :
    (results fn tmps).run P w = ((asAddr (tmps.getD p undef)).run P w).andThen fun a w₁ => ((loadVar ty a).run P w₁).andThen fun v w₂ => .ok (.tuple #[v, tmps.getD q undef]) w₂ := by
  simp only [results, h]
  simp [Sem.run_bind, Result.andThen]
theorem gv_look0 {w : World} {L : List Av} {j b : Nat} (h : GvMap Try.prog w L j b) (s : ByteArray) (hs : s.size ≤ maxLen) : (Instr.lookup 61 (.map (some b)) (.string s) false).run Try.prog w = .ok (.int .i64 ((firstAv s (L.take j)).getD 0)) w := by
  obtain ⟨D, h1, h2, h3⟩ := h
  obtain ⟨c, hrun, hc, -⟩ := h1.lookup_int Try.keyS Try.underlying61 Try.underlying3 (Try.zeroI w) (Go.WideMaps.keyOf_string_mk Try.underlying9 hs)
  rw [hrun]
  have q := h3 s
  have e : c = (firstAv s (L.take j)).getD 0 := by
    cases f : firstAv s (L.take j) with
    | some i =>
      rw [f] at q
      exact (lit_inj (q.2.symm.trans hc)).symm
    | none =>
      rw [f] at q
      have h9 := Go.Maps.atKey_of_not_has q (.lit (.int .i64 0))
      exact (lit_inj (h9.symm.trans hc)).symm
  rw [e]
theorem fy_lt (w : World) : w.heap.size < (w.drew.alloc (.cells #[.int .i64 0, .int .i64 0, .slice none 0 0] 66)).heap.size := by simp
theorem fy_c0 (w : World) : (w.drew.alloc (.cells #[.int .i64 0, .int .i64 0, .slice none 0 0] 66)).cell? ⟨w.heap.size, 0, none⟩ = some (.int .i64 0) := by simp [go_sem]
theorem fy_f0 (w : World) : (w.drew.alloc (.cells #[.int .i64 0, .int .i64 0, .slice none 0 0] 66)).frozen? ⟨w.heap.size, 0, none⟩ = false := by simp [go_sem]
theorem fy_c1 (w : World) : (w.drew.alloc (.cells #[.int .i64 0, .int .i64 0, .slice none 0 0] 66)).cell? ⟨w.heap.size, 1, none⟩ = some (.int .i64 0) := by simp [go_sem]
theorem fy_f1 (w : World) : (w.drew.alloc (.cells #[.int .i64 0, .int .i64 0, .slice none 0 0] 66)).frozen? ⟨w.heap.size, 1, none⟩ = false := by simp [go_sem]
theorem fy_c2 (w : World) : (w.drew.alloc (.cells #[.int .i64 0, .int .i64 0, .slice none 0 0] 66)).cell? ⟨w.heap.size, 2, none⟩ = some (.slice none 0 0) := by simp [go_sem]
theorem fy_f2 (w : World) : (w.drew.alloc (.cells #[.int .i64 0, .int .i64 0, .slice none 0 0] 66)).frozen? ⟨w.heap.size, 2, none⟩ = false := by simp [go_sem]
theorem fz_lt (w : World) : w.heap.size < (w.alloc (.cells #[.int .i64 0, .int .i64 0, .slice none 0 0] 66)).drew.heap.size := by simp
theorem fa_lt (w : World) : w.heap.size < (w.alloc (.cells #[.int .i64 0, .int .i64 0, .slice none 0 0] 66)).heap.size := by simp
theorem ne_of_vb {a b : Nat} (h : a < b) : some b ≠ some a := by simp; omega
theorem fz_c0 (w : World) : (w.alloc (.cells #[.int .i64 0, .int .i64 0, .slice none 0 0] 66)).drew.cell? ⟨w.heap.size, 0, none⟩ = some (.int .i64 0) := by simp [go_sem]
theorem fa_c0 (w : World) : (w.alloc (.cells #[.int .i64 0, .int .i64 0, .slice none 0 0] 66)).cell? ⟨w.heap.size, 0, none⟩ = some (.int .i64 0) := by simp [go_sem]
theorem fz_f0 (w : World) : (w.alloc (.cells #[.int .i64 0, .int .i64 0, .slice none 0 0] 66)).drew.frozen? ⟨w.heap.size, 0, none⟩ = false := by simp [go_sem]
theorem fa_f0 (w : World) : (w.alloc (.cells #[.int .i64 0, .int .i64 0, .slice none 0 0] 66)).frozen? ⟨w.heap.size, 0, none⟩ = false := by simp [go_sem]
theorem fz_c1 (w : World) : (w.alloc (.cells #[.int .i64 0, .int .i64 0, .slice none 0 0] 66)).drew.cell? ⟨w.heap.size, 1, none⟩ = some (.int .i64 0) := by simp [go_sem]
theorem fa_c1 (w : World) : (w.alloc (.cells #[.int .i64 0, .int .i64 0, .slice none 0 0] 66)).cell? ⟨w.heap.size, 1, none⟩ = some (.int .i64 0) := by simp [go_sem]
theorem fz_f1 (w : World) : (w.alloc (.cells #[.int .i64 0, .int .i64 0, .slice none 0 0] 66)).drew.frozen? ⟨w.heap.size, 1, none⟩ = false := by simp [go_sem]
theorem fa_f1 (w : World) : (w.alloc (.cells #[.int .i64 0, .int .i64 0, .slice none 0 0] 66)).frozen? ⟨w.heap.size, 1, none⟩ = false := by simp [go_sem]
theorem fz_c2 (w : World) : (w.alloc (.cells #[.int .i64 0, .int .i64 0, .slice none 0 0] 66)).drew.cell? ⟨w.heap.size, 2, none⟩ = some (.slice none 0 0) := by simp [go_sem]
theorem fa_c2 (w : World) : (w.alloc (.cells #[.int .i64 0, .int .i64 0, .slice none 0 0] 66)).cell? ⟨w.heap.size, 2, none⟩ = some (.slice none 0 0) := by simp [go_sem]
theorem fz_f2 (w : World) : (w.alloc (.cells #[.int .i64 0, .int .i64 0, .slice none 0 0] 66)).drew.frozen? ⟨w.heap.size, 2, none⟩ = false := by simp [go_sem]
theorem fa_f2 (w : World) : (w.alloc (.cells #[.int .i64 0, .int .i64 0, .slice none 0 0] 66)).frozen? ⟨w.heap.size, 2, none⟩ = false := by simp [go_sem]
/-- The names of a typed expression: the contract of Constant at each that has no place. -/
theorem names_con (cs : List Cn) (hok : CsOk cs) (p : Option Addr) (cap : Nat) (sc : Int) (a : Nd) (k : Fo) (h : (typeOfT cs sc a k).2 = 0) :
    (a.op = 6 → ∀ kb ib vb pb, ConQ sc kb ib vb pb cs p cap (cval cs) (cvT cs) a.name) ∧ NamF (fun s => ∀ kb ib vb pb, ConQ sc kb ib vb pb cs p cap (cval cs) (cvT cs) s) k := by
  unfold typeOfT at h
  by_cases hv : valE a k = 0
  · rw [if_pos hv] at h
    obtain ⟨n1, n2⟩ := names_expr cs sc cs.length a k h (val_ok a k hv).1
    have key : ∀ s, ErlQ cs sc cs.length s → ∀ kb ib vb pb, ConQ sc kb ib vb pb cs p cap (cval cs) (cvT cs) s := by
      intro s hs
      rcases hs with hs | ⟨i, hi, -, hit⟩
      · exact fun kb ib vb pb hn => absurd hn (place_of_at sc s hs)
      · exact fun kb ib vb pb => con_any cs hok p cap i s hi hit sc kb ib vb pb
    exact ⟨fun h6 => key _ (n1 h6), namF_mono n2 key⟩
  · rw [if_neg hv] at h; exact absurd h hv
theorem k_facts {w6 w7 : World} {f : Nat → Int} {N vb r : Nat} {u0 u1 u2 : Value} (hm : VMap Try.prog w6 f N vb) (hg : w6.grownBy w7 (some vb)) (g0 : w6.cell? ⟨r, 0, none⟩ = some u0) (g1 : w6.cell? ⟨r, 1, none⟩ = some u1) (g2 : w6.cell? ⟨r, 2, none⟩ = some u2)
    (g3 : w6.frozen? ⟨r, 0, none⟩ = false) (g4 : w6.frozen? ⟨r, 1, none⟩ = false) (g5 : w6.frozen? ⟨r, 2, none⟩ = false) :
    w7.cell? ⟨r, 0, none⟩ = some u0 ∧ w7.cell? ⟨r, 1, none⟩ = some u1 ∧ w7.cell? ⟨r, 2, none⟩ = some u2 ∧ w7.frozen? ⟨r, 0, none⟩ = false ∧ w7.frozen? ⟨r, 1, none⟩ = false ∧ w7.frozen? ⟨r, 2, none⟩ = false := by
  have K := Keeps.of_vm hm hg
  have hne : some r ≠ some vb := fun e => by
    obtain ⟨D, KK, ho, -⟩ := hm
    have h9 := no_cell ho ⟨r, 0, none⟩ (Option.some.inj e)
    rw [h9] at g0; cases g0
  have hl : r < w6.heap.size := block_lt_of_cell g0
  exact ⟨K _ _ g0, K _ _ g1, K _ _ g2, (gb_frozen hg (p := ⟨r, 0, none⟩) hl hne).trans g3, (gb_frozen hg (p := ⟨r, 1, none⟩) hl hne).trans g4, (gb_frozen hg (p := ⟨r, 2, none⟩) hl hne).trans g5⟩
def EvF (cv : ByteArray → Int) (w w0 : World) (gv n : Nat) (vals : List Int) (sc : Int) (a : Nd) (k : Fo) (fb : Nat) (c : FC) (wx : World) : Prop :=
  FdCells wx fb 0 c.f (flen c.k) ∧ FCAt wx (w.heap.size + 2) c ∧ CompR sc cv a k c ∧ IntsAt wx (.slice (some ⟨gv, 0, none⟩) n n) vals ∧ Below (w.heap.size + 2) w0 wx ∧ w.heap.size + 2 ≤ wx.heap.size
theorem ev_set {cv : ByteArray → Int} {w w0 w7 : World} {gv n fb : Nat} {vals : List Int} {sc : Int} {a : Nd} {k : Fo} {c : FC} {u0 u1 u2 : Value} (hf : FCAt w7 (fb + 1) c) (hr : CompR sc cv a k c) (ho : w7.ownsRow (w.heap.size + 2) 3 1 (.slice (some ⟨gv, 0, none⟩) n n) n (intV vals)) (hy : Below (w.heap.size + 2) w0 w7)
    (k0 : w7.cell? ⟨fb, 0, none⟩ = some u0) (k1 : w7.cell? ⟨fb, 1, none⟩ = some u1) (k2 : w7.cell? ⟨fb, 2, none⟩ = some u2) (hne : fb ≠ gv) (hb : w.heap.size + 2 ≤ fb) (hz : w.heap.size + 2 ≤ w7.heap.size) :
    EvF cv w w0 gv n vals sc a k fb c (((w7.setCell ⟨fb, 0, none⟩ (.int .i64 c.f.op)).setCell ⟨fb, 1, none⟩ (.int .i64 c.f.num)).setCell ⟨fb, 2, none⟩ (.slice c.f.ptr (flen c.k) c.f.cap)) := by
  have g := gb_three w7 fb (.int .i64 c.f.op) (.int .i64 c.f.num) (.slice c.f.ptr (flen c.k) c.f.cap)
  refine ⟨⟨by simp [go_sem, k0, k1, k2], by simp [go_sem, k0, k1, k2], by simp [go_sem, k0, k1, k2]⟩, (hf.set (Nat.lt_succ_self fb) g).mono (by omega), hr, ints_of_own (ho.kept g (.inr (by simp [Value.ownBlock]; omega))), hy.grown g hz (fun m hm => by cases hm; exact hb), Nat.le_trans hz g.size⟩
theorem ev_new {cv : ByteArray → Int} {w w0 w7 : World} {gv n : Nat} {vals : List Int} {sc : Int} {a : Nd} {k : Fo} {c : FC} (hf : FCAt w7 (w.heap.size + 2) c) (hr : CompR sc cv a k c) (ho : w7.ownsRow (w.heap.size + 2) 3 1 (.slice (some ⟨gv, 0, none⟩) n n) n (intV vals)) (hy : Below (w.heap.size + 2) w0 w7) (hz : w.heap.size + 2 ≤ w7.heap.size) :
    EvF cv w w0 gv n vals sc a k w7.heap.size c (w7.alloc (.cells #[.int .i64 c.f.op, .int .i64 c.f.num, .slice c.f.ptr (flen c.k) c.f.cap] 66)) :=
  ⟨⟨by simp [go_sem], by simp [go_sem], by simp [go_sem]⟩, hf.next ((Below.refl _ _).alloc (Nat.le_refl _) _), hr, ints_of_own (ho.alloc _), hy.alloc hz _, by simp; omega⟩
set_option maxHeartbeats 16000000 in
set_option maxRecDepth 100000 in
theorem eval_any (cs : List Cn) (p : Option Addr) (cap : Nat) (sc : Int) (L : List Av) (ap : Option Addr) (apc : Nat) (b o : Nat) (op num : Int) (name : ByteArray) (ptr : Option Addr) (acap : Nat) (k : Fo) (w : World) (hcs : CsV w cs p) (hav : AvV w L ap)
    (hx : ExAt w b o ⟨op, num, name, ptr, acap⟩ k) (hok : ExOk ⟨op, num, name, ptr, acap⟩ k) :
    Calls Try.prog 15 #[.slice p cs.length cap, .int .i64 sc, .slice ap L.length apc, .agg #[.int .i64 op, .int .i64 num, .string name, .slice ptr (len k) acap]] w
      fun e w' => e = .returned (.tuple #[.agg #[.int .i64 (evR cs sc L ⟨op, num, name, ptr, acap⟩ k).1, .int .i64 (evR cs sc L ⟨op, num, name, ptr, acap⟩ k).2.1], .int .i64 (evR cs sc L ⟨op, num, name, ptr, acap⟩ k).2.2]) ∧ Below w.heap.size w w' := by
  obtain ⟨i0, hi, hi0, hi1, hi2⟩ := info_parts Try.infoI
  have HCS := Lib.hid hcs
  have HAV := Lib.hid hav
  have hsm := hav.small
  have HE := Lib.hid hx
  have HOK := Lib.hid hok
  have TN : Hid ((typeOfT cs sc ⟨op, num, name, ptr, acap⟩ k).2 = 0 → (op = 6 → ∀ kb ib vb pb, ConQ sc kb ib vb pb cs p cap (cval cs) (cvT cs) name) ∧ NamF (fun s => ∀ kb ib vb pb, ConQ sc kb ib vb pb cs p cap (cval cs) (cvT cs) s) k) := names_con cs hcs.ok p cap sc _ k
  have VOK := Lib.hid (val_ok ⟨op, num, name, ptr, acap⟩ k)
  have TV : Hid ((typeOfT cs sc ⟨op, num, name, ptr, acap⟩ k).2 = 0 → valE ⟨op, num, name, ptr, acap⟩ k = 0) := by
    intro h
    unfold typeOfT at h
    by_cases q : valE ⟨op, num, name, ptr, acap⟩ k = 0
    · exact q
    · rw [if_neg q] at h; exact h
  have RR : Hid (evR cs sc L ⟨op, num, name, ptr, acap⟩ k = if (typeOfT cs sc ⟨op, num, name, ptr, acap⟩ k).2 ≠ 0 then (0, 0, (typeOfT cs sc ⟨op, num, name, ptr, acap⟩ k).2) else if knT sc L ⟨op, num, name, ptr, acap⟩ k = false then (0, 0, 6) else ((typeOfT cs sc ⟨op, num, name, ptr, acap⟩ k).1, ev1 (nmT sc (valsT sc L) (cvT cs)) ⟨op, num, name, ptr, acap⟩ (evF (nmT sc (valsT sc L) (cvT cs)) k), 0)) := rfl
  generalize evR cs sc L ⟨op, num, name, ptr, acap⟩ k = RE at *
  obtain ⟨re1, re2, re3⟩ := RE
  dsimp only
  clear hcs hav hx hok
  have B0 : Hid (Below w.heap.size w ((w.alloc (.cells #[.int .i64 op, .int .i64 num, .string name, .slice ptr (len k) acap] 31)).alloc (.cells #[.int .i64 0, .int .i64 0] 42))) := ((Below.refl _ _).alloc (Nat.le_refl _) _).alloc (by simp) _
  have BX : Hid (∀ wr, Below (w.heap.size + 2) ((w.alloc (.cells #[.int .i64 op, .int .i64 num, .string name, .slice ptr (len k) acap] 31)).alloc (.cells #[.int .i64 0, .int .i64 0] 42)) wr →
      (wr.cell? ⟨w.heap.size, 0, none⟩ = some (.int .i64 op) ∧ wr.cell? ⟨w.heap.size, 1, none⟩ = some (.int .i64 num) ∧ wr.cell? ⟨w.heap.size, 2, none⟩ = some (.string name) ∧ wr.cell? ⟨w.heap.size, 3, none⟩ = some (.slice ptr (len k) acap)) ∧
      (wr.cell? ⟨w.heap.size + 1, 0, none⟩ = some (.int .i64 0) ∧ wr.cell? ⟨w.heap.size + 1, 1, none⟩ = some (.int .i64 0) ∧ wr.frozen? ⟨w.heap.size + 1, 0, none⟩ = false ∧ wr.frozen? ⟨w.heap.size + 1, 1, none⟩ = false)) := by
    intro wr hb
    refine ⟨⟨?_, ?_, ?_, ?_⟩, ?_, ?_, ?_, ?_⟩
    · rw [hb.cell (p := ⟨w.heap.size, 0, none⟩) (by simp)]; simp [go_sem]
    · rw [hb.cell (p := ⟨w.heap.size, 1, none⟩) (by simp)]; simp [go_sem]
    · rw [hb.cell (p := ⟨w.heap.size, 2, none⟩) (by simp)]; simp [go_sem]
    · rw [hb.cell (p := ⟨w.heap.size, 3, none⟩) (by simp)]; simp [go_sem]
    · rw [hb.cell (p := ⟨w.heap.size + 1, 0, none⟩) (by simp)]; simp [go_sem]
    · rw [hb.cell (p := ⟨w.heap.size + 1, 1, none⟩) (by simp)]; simp [go_sem]
    · rw [hb.frozen (p := ⟨w.heap.size + 1, 0, none⟩) (by simp)]; simp [go_sem]
    · rw [hb.frozen (p := ⟨w.heap.size + 1, 1, none⟩) (by simp)]; simp [go_sem]
  have z0 : Hid (((w.alloc (.cells #[.int .i64 op, .int .i64 num, .string name, .slice ptr (len k) acap] 31)).alloc (.cells #[.int .i64 0, .int .i64 0] 42)).heap.size = w.heap.size + 2) := by unfold Hid; simp
  have hmm := @run_makeMap Try.prog
  go_enter Try.func15, Try.ntmps15
  go_wp2_with fail
  generalize (w.alloc (.cells #[.int .i64 op, .int .i64 num, .string name, .slice ptr (len k) acap] 31)).alloc (.cells #[.int .i64 0, .int .i64 0] 42) = w0 at *
  refine (typeof_any cs p cap sc b o op num name ptr acap k w0 (HCS.out.next B0.out) (HE.out.next B0.out) HOK.out).mono ?_
  generalize typeOfT cs sc ⟨op, num, name, ptr, acap⟩ k = TT at *
  obtain ⟨t1, t2⟩ := TT
  dsimp only at RR TV TN
  rintro e w1 ⟨rfl, hb⟩
  have Y1 : Hid (Below (w.heap.size + 2) w0 w1) := by rw [← z0.out]; exact hb
  have hz1 : w.heap.size + 2 ≤ w1.heap.size := by rw [← z0.out]; exact hb.size
  obtain ⟨⟨x0, x1, x2, x3⟩, y0, y1, y2, y3⟩ := BX.out w1 Y1.out
  clear hb
  by_cases h0 : t2 = 0
  · subst h0
    have HV := Lib.hid (VOK.out (TV.out rfl))
    have NM := Lib.hid (TN.out rfl)
    have RQ : Hid ((re1, re2, re3) = if knT sc L ⟨op, num, name, ptr, acap⟩ k = false then (0, 0, 6) else (t1, ev1 (nmT sc (valsT sc L) (cvT cs)) ⟨op, num, name, ptr, acap⟩ (evF (nmT sc (valsT sc L) (cvT cs)) k), 0)) := by unfold Hid; rw [RR.out]; simp
    clear RR TV VOK TN
    go_wp2_with fail
    clear hmm
    have Y2 : Hid (Below (w.heap.size + 2) w0 (w1.alloc (.map #[] 0))) := Y1.out.alloc hz1 _
    have M2 := Lib.hid (GvMap.start Try.prog w1 L)
    obtain ⟨gb, hgb, hgb2⟩ : ∃ gb, gb = w1.heap.size ∧ w.heap.size + 2 ≤ gb := ⟨_, rfl, hz1⟩
    rw [← hgb] at M2
    rw [← hgb]
    generalize w1.alloc (.map #[] 0) = w2 at *
    clear x0 x1 x2 x3 y0 y1 y2 y3 hgb Y1 hz1
    go_loopw [38] (fun i wr => ∃ j : Nat, j ≤ L.length ∧ i = .int .i64 j ∧ Hid (GvMap Try.prog wr L j gb ∧ Below (w.heap.size + 2) w0 wr)) (fun i _ => L.length - (intOf i).toNat)
    case atStart => exact ⟨0, by omega, rfl, M2.out, Y2.out⟩
    case round =>
      obtain ⟨j, hj, rfl, HR⟩ := hrel
      have BW : Hid (Below w.heap.size w wr) := B0.out.trans (HR.out.2.mono (by omega))
      by_cases hlt : j < L.length
      · obtain ⟨a, ha⟩ : ∃ a, L[j]? = some a := ⟨_, List.getElem?_eq_getElem (by omega)⟩
        obtain ⟨AB, AO, rfl, d0, d1⟩ := (HAV.out.keep (Keeps.of_below BW.out)).get ha
        have hj1 : (j : Int) < (L.length : Int) := by omega
        have hj0 : (0 : Int) ≤ (j : Int) := by omega
        have AOK := Lib.hid (HAV.out.ok a (List.mem_of_getElem? ha))
        have HA := Lib.hid ha
        have hns : a.name.size ≤ maxLen := AOK.out.1
        have M3 := Lib.hid (HR.out.1.next ((Below.refl _ _).alloc (Nat.le_refl _) (.cells #[.string a.name, .int .i64 a.val] 39)))
        have Y3 : Hid (Below (w.heap.size + 2) w0 (wr.alloc (.cells #[.string a.name, .int .i64 a.val] 39))) := HR.out.2.alloc (by have := HR.out.1.lt; omega) _
        obtain ⟨v, hb, hrun, hv⟩ := gv_look M3.out a.name hns
        have HV2 := Lib.hid hv
        have hjm : j < maxLen := by unfold maxLen; omega
        clear hv ha
        cases hf : firstAv a.name (L.take j) with
        | some u =>
          have hq : hb = true := by rw [HV2.out, hf]; rfl
          subst hq
          have HF := Lib.hid hf
          clear hf HV2
          go_wp2
          go_roundw
          case rel => exact ⟨j + 1, by omega, by go_num, gv_keep M3.out HA.out HF.out, Y3.out⟩
          case measure => simp [intOf]; omega
        | none =>
          have hq : hb = false := by rw [HV2.out, hf]; rfl
          subst hq
          obtain ⟨w9, hrun9, hm9, hg9⟩ := gv_put M3.out HA.out AOK.out hjm hf
          have M9 := Lib.hid hm9
          have Y9 : Hid (Below (w.heap.size + 2) w0 w9) := Y3.out.grown hg9 (by have := M3.out.lt; omega) (fun m hm => by cases hm; exact hgb2)
          clear hf HV2 hm9 hg9
          go_wp2
          go_roundw
          case rel => exact ⟨j + 1, by omega, by go_num, M9.out, Y9.out⟩
          case measure => simp [intOf]; omega
      · obtain rfl : j = L.length := by omega
        have hj1 : ¬ (L.length : Int) < (L.length : Int) := by omega
        obtain ⟨⟨x0, x1, x2, x3⟩, y0, y1, y2, y3⟩ := BX.out wr HR.out.2
        go_wp2_with fail
        refine (known_any b o ⟨op, num, name, ptr, acap⟩ k wr L gb sc HR.out.1 (HE.out.next BW.out) HOK.out).mono ?_
        generalize knT sc L ⟨op, num, name, ptr, acap⟩ k = kn at *
        rintro e w3 ⟨rfl, hb⟩
        have hzr : w.heap.size + 2 ≤ wr.heap.size := by have := HR.out.1.lt; omega
        have Y3 : Hid (Below (w.heap.size + 2) w0 w3) := HR.out.2.trans (hb.mono hzr)
        have M3 := Lib.hid (HR.out.1.next hb)
        have hz3 : w.heap.size + 2 ≤ w3.heap.size := Nat.le_trans hzr hb.size
        clear hb x0 x1 x2 x3 y0 y1 y2 y3
        obtain ⟨⟨x0, x1, x2, x3⟩, y0, y1, y2, y3⟩ := BX.out w3 Y3.out
        cases kn with
        | false =>
          have RZ : Hid ((re1, re2, re3) = (0, 0, 6)) := RQ.out
          simp only [Hid, Prod.mk.injEq] at RZ
          obtain ⟨rfl, rfl, rfl⟩ := RZ
          go_wp2
          refine bodyPost_ret (v := .tuple #[.agg #[.int .i64 0, .int .i64 0], .int .i64 6]) ?_ rfl ⟨rfl, B0.out.trans (((Y3.out.mono (by omega)).setCell (p := ⟨w.heap.size + 1, 0, none⟩) (by simp) _).setCell (p := ⟨w.heap.size + 1, 1, none⟩) (by simp) _)⟩
          rw [results_ct rfl]
          go_simp
        | true =>
          have RZ : Hid ((re1, re2, re3) = (t1, ev1 (nmT sc (valsT sc L) (cvT cs)) ⟨op, num, name, ptr, acap⟩ (evF (nmT sc (valsT sc L) (cvT cs)) k), 0)) := RQ.out
          clear RQ
          go_wp2_with fail
          refine (attrs_any sc w3).mono ?_
          rintro e w4 ⟨av, rfl, hav, hb⟩
          obtain ⟨p1, cap1, rfl, gg⟩ := strs_shape hav
          have GG : Hid (∀ (i : Nat) l, (Att.listL sc)[i]? = some l → ∃ g1, p1 = some ⟨g1, 0, none⟩ ∧ g1 < w4.heap.size ∧ w4.cell? ⟨g1, i, none⟩ = some (.string ⟨l.toArray⟩)) := fun i l hl => by
            obtain ⟨g1, e1, e2⟩ := gg i l hl
            exact ⟨g1, e1, block_lt_of_cell e2, e2⟩
          have Y4 : Hid (Below (w.heap.size + 2) w0 w4) := Y3.out.trans (hb.mono hz3)
          have M4 := Lib.hid (M3.out.next hb)
          have hz4 : w.heap.size + 2 ≤ w4.heap.size := Nat.le_trans hz3 hb.size
          have hlen : (Att.listL sc).length ≤ 25 := listlen25 sc
          have hgb4 : gb < w4.heap.size := M4.out.lt
          clear hb hav gg x0 x1 x2 x3 y0 y1 y2 y3
          go_wp2_with (refine wpList_make_full _ rfl _ _ 26 rfl (w.heap.size + 2) 3 i0 (.int .i64 0) 1 Try.underlying26 hi hi0 hi1 .i64 .i64 _ _ (Att.listL sc).length rfl rfl rfl rfl ?m1 ?m2 ?m3 ?_)
          case m1 => rw [hi2]; omega
          case m2 => unfold maxLen; omega
          case m3 => exact hz4
          intro w5 hown hgrow
          have OW5 : Hid (w5.ownsRow (w.heap.size + 2) 3 1 (.slice (some ⟨w4.heap.size, 0, none⟩) (Att.listL sc).length (Att.listL sc).length) (Att.listL sc).length (intV (List.replicate (Att.listL sc).length 0))) := by
            rw [made_ints] at hown
            exact hown
          have Y5 : Hid (Below (w.heap.size + 2) w0 w5) := Y4.out.grown hgrow hz4 (fun m hm => by cases hm)
          have M5 := Lib.hid (M4.out.kept hgrow (by simp))
          have G5 : Hid (∀ (i : Nat) l, (Att.listL sc)[i]? = some l → ∃ g1, p1 = some ⟨g1, 0, none⟩ ∧ g1 < w4.heap.size ∧ w5.cell? ⟨g1, i, none⟩ = some (.string ⟨l.toArray⟩)) := fun i l hl => by
            obtain ⟨g1, e1, e2, e3⟩ := GG.out i l hl
            exact ⟨g1, e1, e2, by rw [gb_cell hgrow (p := ⟨g1, i, none⟩) e2 (by simp)]; exact e3⟩
          clear hown hgrow GG
          have hvl : Hid ((valsT sc L).length = (Att.listL sc).length) := by unfold Hid valsT; simp
          go_wp2_with fail
          generalize w4.heap.size = gv at *
          obtain ⟨wo, hwo⟩ : ∃ wo : World, wo = wr := ⟨_, rfl⟩
          clear hwo wo
          go_loopw [70] (fun i wr => ∃ j : Nat, j ≤ (Att.listL sc).length ∧ i = .int .i64 j ∧ Hid (wr.ownsRow (w.heap.size + 2) 3 1 (.slice (some ⟨gv, 0, none⟩) (Att.listL sc).length (Att.listL sc).length) (Att.listL sc).length (intV ((valsT sc L).take j ++ List.replicate ((Att.listL sc).length - j) 0)) ∧
            (∀ (i : Nat) l, (Att.listL sc)[i]? = some l → ∃ g1, p1 = some ⟨g1, 0, none⟩ ∧ g1 < gv ∧ wr.cell? ⟨g1, i, none⟩ = some (.string ⟨l.toArray⟩)) ∧ GvMap Try.prog wr L L.length gb ∧ Below (w.heap.size + 2) w0 wr)) (fun i _ => (Att.listL sc).length - (intOf i).toNat)
          case atStart => exact ⟨0, by omega, rfl, OW5.out, G5.out, M5.out, Y5.out⟩
          case round =>
            clear OW5 G5 M5 Y5 HR
            obtain ⟨j, hj, rfl, HR⟩ := hrel
            by_cases hlt : j < (Att.listL sc).length
            · obtain ⟨l, hl⟩ : ∃ l, (Att.listL sc)[j]? = some l := ⟨_, List.getElem?_eq_getElem hlt⟩
              obtain ⟨g1, rfl, hg1, k1⟩ := HR.out.2.1 j l hl
              have hj1 : (j : Int) < ((Att.listL sc).length : Int) := by omega
              have hj0 : (0 : Int) ≤ (j : Int) := by omega
              have hls : (⟨l.toArray⟩ : ByteArray).size ≤ maxLen := by have := listname20 sc l (List.mem_of_getElem? hl); show l.toArray.size ≤ _; unfold maxLen; simp; omega
              have hrun := gv_look0 HR.out.2.2.1 ⟨l.toArray⟩ hls
              rw [List.take_length] at hrun
              have VB : Hid (i64B ((firstAv ⟨l.toArray⟩ L).getD 0)) := by
                cases q : firstAv ⟨l.toArray⟩ L with
                | none => show i64B 0; unfold i64B; decide
                | some u => exact firstAv_i64 _ L u HAV.out.ok q
              have VJ : Hid ((valsT sc L).take (j + 1) = (valsT sc L).take j ++ [limV (atS sc ⟨l.toArray⟩) ((firstAv ⟨l.toArray⟩ L).getD 0)]) := by
                unfold Hid valsT; rw [List.take_add_one]; simp [hl]
              generalize (firstAv ⟨l.toArray⟩ L).getD 0 = fv at *
              have q1 : wr.cell? ⟨gv, j, none⟩ = some (.int .i64 0) := by
                rw [HR.out.1.cellAt j (by omega)]
                unfold intV
                rw [List.getElem?_map, List.getElem?_append_right (by rw [List.length_take, hvl.out]; omega), List.length_take, hvl.out]
                rw [show j - min j (Att.listL sc).length = 0 by omega]
                obtain ⟨d, hd⟩ : ∃ d, (Att.listL sc).length - j = d + 1 := ⟨(Att.listL sc).length - j - 1, by omega⟩
                rw [hd]; rfl
              have q2 : wr.frozen? ⟨gv, j, none⟩ = false := HR.out.1.frozenAt j
              clear hl
              go_wp2_with fail
              refine (attr_any sc ⟨l.toArray⟩ _).mono ?_
              generalize atS sc ⟨l.toArray⟩ = ta at *
              generalize atE sc ⟨l.toArray⟩ = te at *
              rintro e w6 ⟨rfl, hw⟩
              subst hw
              go_wp2_with (go_at_call 27; refine (limit_any ta fv _ VB.out).mono ?_; rintro e w' ⟨rfl, hw9⟩; subst hw9)
              generalize limV ta fv = yv at *
              have ST2 := Lib.hid (HR.out.1.stored j (.int .i64 yv))
              go_roundw
              case rel =>
                refine ⟨j + 1, by omega, by go_num, ?_, fun i l' hl' => ?_, HR.out.2.2.1.kept ST2.out.2 (by simp; omega), HR.out.2.2.2.grown ST2.out.2 (by have := (HR.out.1.lt gv rfl).2; omega) (fun m hm => by cases hm; omega)⟩
                · have h9 := ST2.out.1
                  obtain ⟨d, hd⟩ : ∃ d, (Att.listL sc).length - j = d + 1 := ⟨(Att.listL sc).length - j - 1, by omega⟩
                  have e := set_ints ((valsT sc L).take j) d yv
                  rw [List.length_take, hvl.out, show min j (Att.listL sc).length = j by omega] at e
                  rw [hd, e, ← VJ.out] at h9
                  rw [show (Att.listL sc).length - (j + 1) = d by omega]
                  exact h9
                · obtain ⟨g2, e1, e2, e3⟩ := HR.out.2.1 i l' hl'
                  exact ⟨g2, e1, e2, by rw [gb_cell ST2.out.2 (p := ⟨g2, i, none⟩) (block_lt_of_cell e3) (by simp; omega)]; exact e3⟩
              case measure => simp [intOf]; omega
            · obtain rfl : j = (Att.listL sc).length := by omega
              have hj1 : ¬ ((Att.listL sc).length : Int) < ((Att.listL sc).length : Int) := by omega
              have OW : Hid (wr.ownsRow (w.heap.size + 2) 3 1 (.slice (some ⟨gv, 0, none⟩) (Att.listL sc).length (Att.listL sc).length) (Att.listL sc).length (intV (valsT sc L))) := by
                have h9 := HR.out.1
                rw [Nat.sub_self, List.replicate_zero, List.append_nil, List.take_of_length_le (by rw [hvl.out]; omega)] at h9
                exact h9
              have Y6 := Lib.hid HR.out.2.2.2
              clear HR
              have hgv : gv < wr.heap.size := (OW.out.lt gv rfl).2
              have hgv2 : w.heap.size + 2 ≤ gv := (OW.out.lt gv rfl).1
              have Yd : Hid (Below (w.heap.size + 2) w0 wr.drew) := Y6.out.drew
              have Ya : Hid (Below (w.heap.size + 2) w0 (wr.alloc (.cells #[.int .i64 0, .int .i64 0, .slice none 0 0] 66)).drew) := (Y6.out.alloc (by omega) _).drew
              have Sd : Hid (w.heap.size + 2 ≤ wr.drew.heap.size) := by show w.heap.size + 2 ≤ wr.heap.size; omega
              have Sa : Hid (w.heap.size + 2 ≤ (wr.alloc (.cells #[.int .i64 0, .int .i64 0, .slice none 0 0] 66)).drew.heap.size) := by unfold Hid; simp; omega
              have Bd : Hid (Below w.heap.size w wr.drew) := B0.out.trans (Yd.out.mono (by omega))
              have Ba : Hid (Below w.heap.size w (wr.alloc (.cells #[.int .i64 0, .int .i64 0, .slice none 0 0] 66)).drew) := B0.out.trans (Ya.out.mono (by omega))
              have CSd := Lib.hid (HCS.out.next Bd.out)
              have CSa := Lib.hid (HCS.out.next Ba.out)
              have Od := Lib.hid (own_below OW.out (Below.refl _ _).drew)
              have Oa := Lib.hid (own_below OW.out ((Below.refl _ _).alloc (Nat.le_refl _) (.cells #[.int .i64 0, .int .i64 0, .slice none 0 0] 66)).drew)
              obtain ⟨⟨x0, x1, x2, x3⟩, -⟩ := BX.out wr Y6.out
              have hlx : w.heap.size < wr.heap.size := by omega
              go_upto_region 22 with (fail)
              go_cut [23] (fun v23 wx => ∃ (fb : Nat) (c : FC), v23 = .pointer (some ⟨fb, 0, none⟩) ∧ Hid (FdCells wx fb 0 c.f (flen c.k) ∧ FCAt wx (w.heap.size + 2) c ∧ CompR sc (cvT cs) ⟨op, num, name, ptr, acap⟩ k c ∧ IntsAt wx (.slice (some ⟨gv, 0, none⟩) (Att.listL sc).length (Att.listL sc).length) (valsT sc L) ∧ Below (w.heap.size + 2) w0 wx ∧ w.heap.size + 2 ≤ wx.heap.size))
              case first =>
                go_region_with (first | (go_at_call 28; refine (newcmp_any cs p cap (cval cs) _ (by first | exact CSd.out | exact CSa.out)).mono ?_; rintro e w6 ⟨kb, ib, vb, pb, rfl, hX, hvb, hb⟩; have X6 := Lib.hid hX; have Y7 : Hid (Below (w.heap.size + 2) w0 w6) := (by first | exact Yd.out.trans (hb.mono Sd.out) | exact Ya.out.trans (hb.mono Sa.out)); have O6 : Hid (w6.ownsRow (w.heap.size + 2) 3 1 (.slice (some ⟨gv, 0, none⟩) (Att.listL sc).length (Att.listL sc).length) (Att.listL sc).length (intV (valsT sc L))) := (by first | exact own_below Od.out hb | exact own_below Oa.out hb); have V6 : Hid (wr.heap.size ≤ vb) := (by first | exact hvb | (have h := hvb; simp at h; unfold Hid; omega)); have S6 : Hid (wr.heap.size ≤ w6.heap.size) := (by first | exact hb.size | (have h := hb.size; simp at h; unfold Hid; omega)); have B6 : Hid (Below w.heap.size w w6) := B0.out.trans (Y7.out.mono (by omega)); have hl6 : w.heap.size < w6.heap.size := Nat.lt_of_lt_of_le hlx S6.out; obtain ⟨⟨x0, x1, x2, x3⟩, -⟩ := BX.out w6 Y7.out; (first | (have g0 : w6.cell? ⟨wr.heap.size, 0, none⟩ = some (.int .i64 0) := (hb.cell (p := ⟨wr.heap.size, 0, none⟩) (fz_lt wr)).trans (fz_c0 wr); have g1 : w6.cell? ⟨wr.heap.size, 1, none⟩ = some (.int .i64 0) := (hb.cell (p := ⟨wr.heap.size, 1, none⟩) (fz_lt wr)).trans (fz_c1 wr); have g2 : w6.cell? ⟨wr.heap.size, 2, none⟩ = some (.slice none 0 0) := (hb.cell (p := ⟨wr.heap.size, 2, none⟩) (fz_lt wr)).trans (fz_c2 wr); have g3 : w6.frozen? ⟨wr.heap.size, 0, none⟩ = false := (hb.frozen (p := ⟨wr.heap.size, 0, none⟩) (fz_lt wr)).trans (fz_f0 wr); have g4 : w6.frozen? ⟨wr.heap.size, 1, none⟩ = false := (hb.frozen (p := ⟨wr.heap.size, 1, none⟩) (fz_lt wr)).trans (fz_f1 wr); have g5 : w6.frozen? ⟨wr.heap.size, 2, none⟩ = false := (hb.frozen (p := ⟨wr.heap.size, 2, none⟩) (fz_lt wr)).trans (fz_f2 wr)) | (have g0 : w6.cell? ⟨wr.heap.size, 0, none⟩ = some (.int .i64 0) := (hb.cell (p := ⟨wr.heap.size, 0, none⟩) (fy_lt wr)).trans (fy_c0 wr); have g1 : w6.cell? ⟨wr.heap.size, 1, none⟩ = some (.int .i64 0) := (hb.cell (p := ⟨wr.heap.size, 1, none⟩) (fy_lt wr)).trans (fy_c1 wr); have g2 : w6.cell? ⟨wr.heap.size, 2, none⟩ = some (.slice none 0 0) := (hb.cell (p := ⟨wr.heap.size, 2, none⟩) (fy_lt wr)).trans (fy_c2 wr); have g3 : w6.frozen? ⟨wr.heap.size, 0, none⟩ = false := (hb.frozen (p := ⟨wr.heap.size, 0, none⟩) (fy_lt wr)).trans (fy_f0 wr); have g4 : w6.frozen? ⟨wr.heap.size, 1, none⟩ = false := (hb.frozen (p := ⟨wr.heap.size, 1, none⟩) (fy_lt wr)).trans (fy_f1 wr); have g5 : w6.frozen? ⟨wr.heap.size, 2, none⟩ = false := (hb.frozen (p := ⟨wr.heap.size, 2, none⟩) (fy_lt wr)).trans (fy_f2 wr)) | skip); clear hX hvb hb) | (go_at_call 29; refine (compile_any sc b o ⟨op, num, name, ptr, acap⟩ k _ kb ib vb pb cs p cap (cval cs) (cvT cs) (by first | exact X6.out | exact X6.out.next ((Below.refl _ _).alloc (Nat.le_refl _) (.cells #[.int .i64 0, .int .i64 0, .slice none 0 0] 66))) (by first | exact HCS.out.next B6.out | exact (HCS.out.next B6.out).next ((Below.refl _ _).alloc (Nat.le_refl _) (.cells #[.int .i64 0, .int .i64 0, .slice none 0 0] 66))) (by first | exact HE.out.next B6.out | exact (HE.out.next B6.out).next ((Below.refl _ _).alloc (Nat.le_refl _) (.cells #[.int .i64 0, .int .i64 0, .slice none 0 0] 66))) HOK.out HV.out.1 HV.out.2 (fun h6 => NM.out.1 h6 kb ib vb pb) (namF_mono NM.out.2 (fun s h => h kb ib vb pb))).mono ?_; rintro e w7 ⟨c, rfl, hc, hr, hx7, hg7⟩; have CR := Lib.hid hr; have O7 : Hid (w7.ownsRow (w.heap.size + 2) 3 1 (.slice (some ⟨gv, 0, none⟩) (Att.listL sc).length (Att.listL sc).length) (Att.listL sc).length (intV (valsT sc L))) := (by have h9 := V6.out; first | exact O6.out.kept hg7 (.inr (by simp [Value.ownBlock]; omega)) | exact (O6.out.alloc (.cells #[.int .i64 0, .int .i64 0, .slice none 0 0] 66)).kept hg7 (.inr (by simp [Value.ownBlock]; omega))); have Y8 : Hid (Below (w.heap.size + 2) w0 w7) := (by have h9 := V6.out; have h8 := S6.out; first | exact Y7.out.grown hg7 (by omega) (fun m hm => by cases hm; omega) | exact (Y7.out.alloc (by omega) (.cells #[.int .i64 0, .int .i64 0, .slice none 0 0] 66)).grown hg7 (by simp; omega) (fun m hm => by cases hm; omega)); (first | have F7 : Hid (FCAt w7 w6.heap.size c) := hc | have F7 : Hid (FCAt w7 (w6.heap.size + 1) c) := hc.mono (fa_lt w6)); have hx6v : Hid (vb < w6.heap.size) := X6.out.s.vm.lt; have G7 := Lib.hid hg7; (first | (have kk := k_facts X6.out.s.vm G7.out g0 g1 g2 g3 g4 g5; have k0 := kk.1; have k1 := kk.2.1; have k2 := kk.2.2.1; have k3 := kk.2.2.2.1; have k4 := kk.2.2.2.2.1; have k5 := kk.2.2.2.2.2; clear kk) | (have k0 : w7.cell? ⟨w6.heap.size, 0, none⟩ = some (.int .i64 0) := (gb_cell hg7 (p := ⟨w6.heap.size, 0, none⟩) (fa_lt w6) (ne_of_vb hx6v.out)).trans (fa_c0 w6); have k1 : w7.cell? ⟨w6.heap.size, 1, none⟩ = some (.int .i64 0) := (gb_cell hg7 (p := ⟨w6.heap.size, 1, none⟩) (fa_lt w6) (ne_of_vb hx6v.out)).trans (fa_c1 w6); have k2 : w7.cell? ⟨w6.heap.size, 2, none⟩ = some (.slice none 0 0) := (gb_cell hg7 (p := ⟨w6.heap.size, 2, none⟩) (fa_lt w6) (ne_of_vb hx6v.out)).trans (fa_c2 w6); have k3 : w7.frozen? ⟨w6.heap.size, 0, none⟩ = false := (gb_frozen hg7 (p := ⟨w6.heap.size, 0, none⟩) (fa_lt w6) (ne_of_vb hx6v.out)).trans (fa_f0 w6); have k4 : w7.frozen? ⟨w6.heap.size, 1, none⟩ = false := (gb_frozen hg7 (p := ⟨w6.heap.size, 1, none⟩) (fa_lt w6) (ne_of_vb hx6v.out)).trans (fa_f1 w6); have k5 : w7.frozen? ⟨w6.heap.size, 2, none⟩ = false := (gb_frozen hg7 (p := ⟨w6.heap.size, 2, none⟩) (fa_lt w6) (ne_of_vb hx6v.out)).trans (fa_f2 w6)) | skip); clear hc hr hx7 hg7))
                all_goals (
                  go_wp2
                  go_meet
                  have h6 := S6.out
                  have h7 := G7.out.size
                  have h8 := (O7.out.lt gv rfl).2
                  first
                    | exact ⟨wr.heap.size, c, rfl, ev_set (F7.out.mono (block_lt_of_cell g0)) CR.out O7.out Y8.out k0 k1 k2 (by omega) (by omega) (by omega)⟩
                    | exact ⟨w6.heap.size, c, rfl, ev_set F7.out CR.out O7.out Y8.out k0 k1 k2 (by omega) (by omega) (by omega)⟩
                    | exact ⟨w7.heap.size, c, rfl, ev_new (F7.out.mono (by omega)) CR.out O7.out Y8.out (by omega)⟩)
              case rest =>
                obtain ⟨fb, c, rfl, HF⟩ := hcut
                obtain ⟨-, y0, y1, y2, y3⟩ := BX.out wc HF.out.2.2.2.2.1
                have VI : Hid (∀ x ∈ valsT sc L, i64B x) := by
                  intro x hx
                  unfold valsT at hx
                  obtain ⟨l, -, rfl⟩ := List.mem_map.1 hx
                  refine limV_i64 _ _ ?_
                  cases q : firstAv ⟨l.toArray⟩ L with
                  | none => show i64B 0; unfold i64B; decide
                  | some u => exact firstAv_i64 _ L u HAV.out.ok q
                have CV := Lib.hid (value_any c.b c.o c.f c.k wc (.slice (some ⟨gv, 0, none⟩) (Att.listL sc).length (Att.listL sc).length) (valsT sc L) fb 0 (nS sc) HF.out.2.2.2.1 (by rw [hvl.out]; rfl) (by unfold nS; omega) VI.out HF.out.1 HF.out.2.1.1 HF.out.2.1.2.1 HF.out.2.2.1.o1 (by have := HF.out.2.2.1.l; omega) HF.out.2.2.1.o)
                rw [HF.out.2.2.1.v] at CV
                simp only [Hid, Prod.mk.injEq] at RZ
                obtain ⟨rfl, hre2, rfl⟩ := RZ
                have HRE := Lib.hid hre2
                rw [← hre2] at CV
                clear hre2
                go_wp2_with fail
                refine CV.out.mono ?_
                rintro e w9 ⟨rfl, hb⟩
                have Y9 : Hid (Below (w.heap.size + 2) w0 w9) := HF.out.2.2.2.2.1.trans (hb.mono HF.out.2.2.2.2.2)
                clear hb y0 y1 y2 y3
                obtain ⟨-, y0, y1, y2, y3⟩ := BX.out w9 Y9.out
                go_wp2
                refine bodyPost_ret (v := .tuple #[.agg #[.int .i64 re1, .int .i64 re2], .int .i64 0]) ?_ rfl ⟨rfl, B0.out.trans (((Y9.out.mono (by omega)).setCell (p := ⟨w.heap.size + 1, 0, none⟩) (by simp) _).setCell (p := ⟨w.heap.size + 1, 1, none⟩) (by simp) _)⟩
                rw [results_ct rfl]
                go_simp
  · have b0 : (t2 != 0) = true := by simp [h0]
    have RZ : Hid ((re1, re2, re3) = (0, 0, t2)) := by unfold Hid; rw [RR.out, if_pos h0]
    simp only [Hid, Prod.mk.injEq] at RZ
    obtain ⟨rfl, rfl, rfl⟩ := RZ
    clear h0
    go_wp2
    refine bodyPost_ret (v := .tuple #[.agg #[.int .i64 0, .int .i64 0], .int .i64 re3]) ?_ rfl ⟨rfl, B0.out.trans (((Y1.out.mono (by omega)).setCell (p := ⟨w.heap.size + 1, 0, none⟩) (by simp) _).setCell (p := ⟨w.heap.size + 1, 1, none⟩) (by simp) _)⟩
    rw [results_ct rfl]
    go_simp

end Go.Proofs.Ytfoedbfkddoibaa
