/-
  The contract of the compiler's Constant.
-/
import Derived.Test.YtfoedbfkddoibaaGm
import Derived.Test.YtfoedbfkddoibaaFcm
namespace Go.Proofs.Ytfoedbfkddoibaa
set_option linter.unusedVariables false
set_option linter.unusedSimpArgs false
open Go.ChangeShapes Go.WideShapes Go.ChangeAt Go.RowKit
open Go.Maps (has size IsMap)
open Go.Deep (BT)

/-- What a look into the known values answers. -/
theorem v_look {w : World} {f : Nat → Int} {N b : Nat} (h : VMap Try.prog w f N b) (i : Nat) (hs : i ≤ 9223372036854775807) : ∃ (v : Int) (hb : Bool), (Instr.lookup 85 (.map (some b)) (.int .i64 i) true).run Try.prog w = .ok (.tuple #[.int .i64 v, .bool hb]) w ∧
    (hb = true → v = f i) := by
  obtain ⟨D, K, h1, h2, h3, h4, h5, h6, h7⟩ := h
  obtain ⟨v, ps, hrun, hv⟩ := h1.look_ok Try.keyI Try.underlying85 (Try.zeroI w) (plainElem_int Try.underlying3 (by decide)) (Go.Maps.keyOf_int_mk Try.underlying3 (a := (i : Int)) (WalkArith.wf_i64 (by omega)))
  obtain ⟨c, rfl, hc, -⟩ := plainElem_int_inv Try.underlying3 hv
  refine ⟨c, _, hrun, ?_⟩
  intro hh
  have e := congrArg Prod.fst hc
  by_cases hk : i ∈ K
  · have q := h6 i hk
    have h9 : (DataW.lit (Lit.int .i64 (f i)) : DataW Unit) = .lit (.int .i64 c) := q.2.symm.trans e
    exact (lit_inj h9).symm
  · have q := h7 i hk
    have hh2 : has D (intK i) = true := hh
    rw [q] at hh2; cases hh2
theorem v_put {P : Program} {w' : World} {f : Nat → Int} {N b i : Nat} {D : DataW Unit} {K : List Nat} (hi : i < N) (hm : IsMap D) (ht : Go.Maps.Tidy D) (hd : K.Nodup) (hb : ∀ i ∈ K, i < N) (hsz : size D = K.length)
    (h1 : ∀ i ∈ K, has D (intK i) = true ∧ D.atKey (intK i) (.lit (.int .i64 0)) = .lit (.int .i64 (f i))) (h2 : ∀ i : Nat, i ∉ K → has D (intK i) = false)
    {n : Nat} (hw : w'.ownsMap P 3 (plainElem P 3) b n (D.put (intK i) (.lit (.int .i64 (f i))))) : VMap P w' f N b := by
  have hs := Go.Maps.size_put (k := intK i) ht (.lit (.int .i64 (f i)))
  have hh : ∀ x : Nat, x ≠ i → (has (D.put (intK i) (.lit (.int .i64 (f i)))) (intK x) = has D (intK x) ∧ ∀ z, (D.put (intK i) (.lit (.int .i64 (f i)))).atKey (intK x) z = D.atKey (intK x) z) := fun x hx => ⟨Go.Maps.has_put_other (intK_ne hx) _, fun z => Go.Maps.atKey_put_other (intK_ne hx) _ _⟩
  have hsame : has (D.put (intK i) (.lit (.int .i64 (f i)))) (intK i) = true ∧ (D.put (intK i) (.lit (.int .i64 (f i)))).atKey (intK i) (.lit (.int .i64 0)) = .lit (.int .i64 (f i)) := ⟨Go.Maps.has_put_same hm (by first | trivial | exact .inl ⟨_, rfl⟩ | simp [WideAt.IsKeyLit, strK, intK]) _, Go.Maps.atKey_put_same hm (by first | trivial | exact .inl ⟨_, rfl⟩ | simp [WideAt.IsKeyLit, strK, intK]) _ _⟩
  by_cases hk : i ∈ K
  · rw [if_pos (h1 i hk).1, hsz] at hs
    refine ⟨D.put (intK i) (.lit (.int .i64 (f i))), K, hs ▸ own_tight hw, hm.put _ _, hd, hb, hs, ?_, ?_⟩
    · intro x hx
      by_cases q : x = i
      · subst q; exact hsame
      · rw [(hh x q).1, (hh x q).2]; exact h1 x hx
    · intro x hx
      have q : x ≠ i := by rintro rfl; exact hx hk
      rw [(hh x q).1]; exact h2 x hx
  · rw [if_neg (by rw [h2 i hk]; simp), hsz] at hs
    refine ⟨D.put (intK i) (.lit (.int .i64 (f i))), i :: K, ?_, hm.put _ _, List.nodup_cons.2 ⟨hk, hd⟩, ?_, ?_, ?_, ?_⟩
    · have := own_tight hw
      rw [hs] at this
      exact this
    · intro x hx
      rcases List.mem_cons.1 hx with rfl | hx
      · exact hi
      · exact hb x hx
    · rw [hs]; rfl
    · intro x hx
      by_cases q : x = i
      · subst q; exact hsame
      · rw [(hh x q).1, (hh x q).2]
        rcases List.mem_cons.1 hx with e | hx
        · exact absurd e q
        · exact h1 x hx
    · intro x hx
      have q : x ≠ i := by rintro rfl; exact hx (by simp)
      rw [(hh x q).1]
      exact h2 x (fun e => hx (by simp [e]))
theorem v_upd {w : World} {f : Nat → Int} {N b : Nat} (h : VMap Try.prog w f N b) (i : Nat) (hi : i < N) (hs : N ≤ 2932031007402) (hf : i64B (f i)) :
    ∃ w', (Instr.mapUpdate 85 (.map (some b)) (.int .i64 i) (.int .i64 (f i))).run Try.prog w = .ok () w' ∧ VMap Try.prog w' f N b ∧ w.grownBy w' (some b) := by
  obtain ⟨D, K, h1, h2, h3, h4, h5, h6, h7⟩ := h
  have hl := nodup_len N K h3 h4
  unfold i64B at hf
  obtain ⟨w', hrun, ho, hg⟩ := h1.update Try.keyI Try.underlying85 (by unfold maxLen; omega) (Go.Maps.keyOf_int_mk Try.underlying3 (a := (i : Int)) (WalkArith.wf_i64 (by omega))) (plainElem_int Try.underlying3 (a := f i) (WalkArith.wf_i64 (by omega)))
  exact ⟨w', hrun, v_put hi h2 (h1.tidy Try.keyI) h3 h4 h5 h6 h7 ho, hg⟩
theorem CmpX.val {w w' : World} {kb ib vb : Nat} {pb : Nat → Nat} {cs : List Cn} {p : Option Addr} {cap : Nat} {f : Nat → Int} (h : CmpX w kb ib vb pb cs p cap f) (hv : VMap Try.prog w' f cs.length vb) (hg : w.grownBy w' (some vb)) : CmpX w' kb ib vb pb cs p cap f where
  s := {
    c0 := by rw [World.cell?_of_block (hg.block kb h.s.lt (fun e => h.s.n2 (Option.some.inj e)))]; exact h.s.c0
    c1 := by rw [World.cell?_of_block (hg.block kb h.s.lt (fun e => h.s.n2 (Option.some.inj e)))]; exact h.s.c1
    c2 := by rw [World.cell?_of_block (hg.block kb h.s.lt (fun e => h.s.n2 (Option.some.inj e)))]; exact h.s.c2
    ix := h.s.ix.kept hg (fun e => h.s.n3 (Option.some.inj e))
    vm := hv
    n1 := h.s.n1
    n2 := h.s.n2
    n3 := h.s.n3
    lt := Nat.lt_of_lt_of_le h.s.lt hg.size }
  l := h.l.grown hg (fun e => h.s.n2 (Option.some.inj e)) (fun i hi e => h.n i hi (Option.some.inj e))
  n := h.n

theorem ints_nil (w : World) : IntsAt w (.slice none 0 0) [] := .inl ⟨rfl, none, 0, rfl⟩

def ConAll (cs : List Cn) (p : Option Addr) (cap : Nat) (j : Nat) : Prop := ∀ s, firstIx s cs = some j → (rowT cs j).2 = 0 → ∀ sc kb ib vb pb, ConQ sc kb ib vb pb cs p cap (cval cs) (cvT cs) s

set_option maxHeartbeats 8000000 in
set_option maxRecDepth 100000 in
theorem con_of (cs : List Cn) (hok : CsOk cs) (p : Option Addr) (cap j : Nat) (ih : ∀ i, i < j → ConAll cs p cap i) : ConAll cs p cap j := by
  intro s hs ht sc kb ib vb pb hpl
  refine ⟨cvT_i64 cs hok s, ?_⟩
  intro w hX hcs
  have hsm := hcs.small
  have hj : j < cs.length := firstIx_lt s cs j hs
  obtain ⟨⟨c, hc, hcn⟩, -⟩ := (firstIx_some s cs j).1 hs
  have hns : s.size ≤ maxLen := by rw [← hcn]; exact (hok c (List.mem_of_getElem? hc)).1
  have CV : Hid (cvT cs s = cval cs j) := by unfold Hid cvT; rw [hs]
  have CI := Lib.hid (cval_i64 cs hok j)
  have CE := Lib.hid (fun vals => cval_all cs j c hc ht vals)
  have HCS := Lib.hid hcs
  have HX := Lib.hid hX
  have HC := Lib.hid hc
  have HCO := Lib.hid (hok c (List.mem_of_getElem? hc)).2
  have NM : Hid ((c.a.op = 6 → ∀ kb ib vb pb, ConQ 0 kb ib vb pb cs p cap (cval cs) (cvT cs) c.a.name) ∧ NamF (fun s => ∀ kb ib vb pb, ConQ 0 kb ib vb pb cs p cap (cval cs) (cvT cs) s) c.k ∧ (wfB c.a (len c.k) && wfT c.k) = true ∧ sz c.k ≤ 200) := by
    rw [rowT_eq cs j c hc] at ht
    unfold oneT at ht
    by_cases hv : valE c.a c.k = 0
    · rw [if_pos hv] at ht
      have hw := val_ok c.a c.k hv
      obtain ⟨n1, n2⟩ := names_expr cs 0 j c.a c.k ht hw.1
      have key : ∀ s, ErlQ cs 0 j s → ∀ kb ib vb pb, ConQ 0 kb ib vb pb cs p cap (cval cs) (cvT cs) s := by
        intro s hs
        rcases hs with hs | ⟨i, hi, hij, hit⟩
        · rw [at0] at hs; cases hs
        · exact fun kb ib vb pb => ih i hij s hi hit 0 kb ib vb pb
      exact ⟨fun h6 => key _ (n1 h6), namF_mono n2 key, hw⟩
    · rw [if_neg hv] at ht; exact absurd ht hv
  rw [CV.out]
  obtain ⟨v, hb, hrun, hv⟩ := ix_look (w := w) hX.s.ix s hns
  rw [List.take_length, hs] at hv
  obtain ⟨rfl, rfl⟩ := hv
  obtain ⟨v2, hb2, hrun2, hv2⟩ := v_look (w := w) hX.s.vm j (by omega)
  have HV := Lib.hid hv2
  have y0 := hX.s.c0
  have y1 := hX.s.c1
  have y2 := hX.s.c2
  obtain ⟨B, O, rfl, ⟨d0, d1, d2, d3, d4⟩, hx⟩ := hcs.get hc
  have HE := Lib.hid hx
  have hj1 : (j : Int) < (cs.length : Int) := by omega
  clear ih hs ht hpl hX hcs hcn hns hc hv2 hx hok
  go_enter Try.func46, Try.ntmps46
  cases hb2 with
  | true =>
    have hq := HV.out rfl
    clear HV
    subst hq
    go_wp2
    go_ret
    exact ⟨rfl, HX.out, grw_of_below _ (Below.refl _ _)⟩
  | false =>
    clear HV
    go_wp2_with fail
    refine (compile_any 0 c.b c.o c.a c.k w kb ib vb pb cs _ cap (cval cs) (cvT cs) HX.out HCS.out HE.out HCO.out NM.out.2.2.1 NM.out.2.2.2 (fun h6 => NM.out.1 h6 kb ib vb pb) (namF_mono NM.out.2.1 (fun s h => h kb ib vb pb))).mono ?_
    rintro e w1 ⟨fc, rfl, hf, hr, hx1, hg1⟩
    have HF := Lib.hid hf
    have HR := Lib.hid hr
    have X1 := Lib.hid hx1
    have G1 := Lib.hid hg1
    clear hf hr hx1 hg1 hrun hrun2 y0 y1 y2 d0 d1 d2 d3 d4
    go_wp2_with fail
    have A1 : Hid (Below w1.heap.size w1 (w1.alloc (.cells #[.int .i64 fc.f.op, .int .i64 fc.f.num, .slice fc.f.ptr (flen fc.k) fc.f.cap] 66))) := (Below.refl _ _).alloc (Nat.le_refl _) _
    have FV : FdCells (w1.alloc (.cells #[.int .i64 fc.f.op, .int .i64 fc.f.num, .slice fc.f.ptr (flen fc.k) fc.f.cap] 66)) w1.heap.size 0 fc.f (flen fc.k) := ⟨by simp [go_sem], by simp [go_sem], by simp [go_sem]⟩
    have CVV := Lib.hid (value_any fc.b fc.o fc.f fc.k (w1.alloc (.cells #[.int .i64 fc.f.op, .int .i64 fc.f.num, .slice fc.f.ptr (flen fc.k) fc.f.cap] 66)) (.slice none 0 0) [] w1.heap.size 0 (nS 0) (ints_nil _) rfl (by decide) (by simp) FV HF.out.1 (HF.out.2.1.next A1.out) HR.out.o1 (by have := HR.out.l; omega) HR.out.o)
    rw [HR.out.v, ← CE.out []] at CVV
    clear FV
    refine CVV.out.mono ?_
    rintro e w2 ⟨rfl, hb⟩
    have B2 : Hid (Below w1.heap.size w1 w2) := A1.out.trans (hb.mono A1.out.size)
    have X2 : Hid (CmpX w2 kb ib vb pb cs _ cap (cval cs)) := X1.out.next B2.out
    clear hb
    obtain ⟨w9, hrun9, hk9, hg9⟩ := v_upd X2.out.s.vm j hj hsm CI.out
    have K9 := Lib.hid hk9
    have G9 := Lib.hid hg9
    have y2 := X2.out.s.c2
    clear hk9 hg9
    go_wp2
    go_ret
    exact ⟨rfl, X2.out.val K9.out G9.out, (G1.out.trans (grw_of_below _ B2.out)).trans G9.out⟩

theorem con_any (cs : List Cn) (hok : CsOk cs) (p : Option Addr) (cap j : Nat) : ConAll cs p cap j := by
  induction j using Nat.strongRecOn with
  | _ j ih => exact con_of cs hok p cap j ih

end Go.Proofs.Ytfoedbfkddoibaa
