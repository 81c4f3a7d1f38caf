/-
  The contract of types.newChecker.
-/
import Derived.Test.YtinbkhchhlkjgaaChm
import Derived.Test.YtinbkhchhlkjgaaRtz
import Derived.Deep.LoopGhost
namespace Go.Proofs.Ytinbkhchhlkjgaa
set_option linter.unusedVariables false
set_option linter.unusedSimpArgs false
open Go.ChangeShapes Go.WideShapes Go.ChangeAt Go.RowKit
open Go.Maps (has size IsMap)

/-- A checker at block kb, its index the first j constants. -/
structure ChkJ (P : Program) (w : World) (kb ib mb : Nat) (cs : List Cn) (j : Nat) (p : Option Addr) (cap : Nat) : Prop where
  c0 : w.cell? ⟨kb, 0, none⟩ = some (.slice p cs.length cap)
  c1 : w.cell? ⟨kb, 1, none⟩ = some (.map (some ib))
  c2 : w.cell? ⟨kb, 2, none⟩ = some (.map (some mb))
  ix : IxMap P w cs j ib
  kn : KnMap P w cs mb
  n1 : kb ≠ ib
  n2 : kb ≠ mb
  n3 : ib ≠ mb
  lt : kb < w.heap.size

theorem ChkJ.next {P : Program} {w w' : World} {kb ib mb : Nat} {cs : List Cn} {j : Nat} {p : Option Addr} {cap : Nat} (h : ChkJ P w kb ib mb cs j p cap) (hb : Below w.heap.size w w') : ChkJ P w' kb ib mb cs j p cap where
  c0 := by rw [hb.cell (p := ⟨kb, 0, none⟩) h.lt]; exact h.c0
  c1 := by rw [hb.cell (p := ⟨kb, 1, none⟩) h.lt]; exact h.c1
  c2 := by rw [hb.cell (p := ⟨kb, 2, none⟩) h.lt]; exact h.c2
  ix := h.ix.kept (row := none) ⟨hb.os, hb.tape, hb.output, hb.size, fun k hk _ => hb.block k hk⟩ (by simp)
  kn := h.kn.kept (row := none) ⟨hb.os, hb.tape, hb.output, hb.size, fun k hk _ => hb.block k hk⟩ (by simp)
  n1 := h.n1
  n2 := h.n2
  n3 := h.n3
  lt := Nat.lt_of_lt_of_le h.lt hb.size

theorem ChkJ.put {P : Program} {w w' : World} {kb ib mb : Nat} {cs : List Cn} {j : Nat} {p : Option Addr} {cap : Nat} (h : ChkJ P w kb ib mb cs j p cap) (hi : IxMap P w' cs (j + 1) ib) (hg : w.grownBy w' (some ib)) : ChkJ P w' kb ib mb cs (j + 1) p cap where
  c0 := by rw [World.cell?_of_block (hg.block kb h.lt (fun e => h.n1 (Option.some.inj e)))]; exact h.c0
  c1 := by rw [World.cell?_of_block (hg.block kb h.lt (fun e => h.n1 (Option.some.inj e)))]; exact h.c1
  c2 := by rw [World.cell?_of_block (hg.block kb h.lt (fun e => h.n1 (Option.some.inj e)))]; exact h.c2
  ix := hi
  kn := h.kn.kept hg (fun e => h.n3 (Option.some.inj e).symm)
  n1 := h.n1
  n2 := h.n2
  n3 := h.n3
  lt := Nat.lt_of_lt_of_le h.lt hg.size
theorem Try.keyS : Go.Maps.Keyed Try.prog 9 := Go.Maps.string_keyed Try.underlying9
theorem Try.keyI : Go.Maps.Keyed Try.prog 3 := Go.Maps.int_keyed Try.underlying3
theorem Try.zeroI (w : World) : (zeroValue 3).run Try.prog w = .ok (.int .i64 0) w := by kernel_rfl
theorem lit_inj {a b : Int} (h : (DataW.lit (Lit.int .i64 a) : DataW Unit) = .lit (.int .i64 b)) : a = b := by
  injection h with h
  injection h
/-- What a look into the index answers. -/
theorem ix_look {w : World} {cs : List Cn} {j b : Nat} (h : IxMap Try.prog w cs j b) (s : ByteArray) (hs : s.size ≤ maxLen) : ∃ (v : Int) (hb : Bool), (Instr.lookup 66 (.map (some b)) (.string s) true).run Try.prog w = .ok (.tuple #[.int .i64 v, .bool hb]) w ∧
    (match firstIx s (cs.take j) with | some i => hb = true ∧ v = i | none => hb = false) := by
  obtain ⟨D, h1, h2, h3⟩ := h
  obtain ⟨v, ps, hrun, hv⟩ := h1.look_ok Try.keyS Try.underlying66 (Try.zeroI w) (plainElem_int Try.underlying3 (by decide)) (Go.WideMaps.keyOf_string_mk Try.underlying9 hs)
  obtain ⟨c, rfl, hc, -⟩ := plainElem_int_inv Try.underlying3 hv
  refine ⟨c, _, hrun, ?_⟩
  have q := h3 s
  have e := congrArg Prod.fst hc
  cases f : firstIx s (cs.take j) with
  | some i =>
    rw [f] at q
    refine ⟨q.1, ?_⟩
    have h9 : (DataW.lit (Lit.int .i64 (i : Int)) : DataW Unit) = .lit (.int .i64 c) := q.2.symm.trans e
    exact (lit_inj h9).symm
  | none => rw [f] at q; exact q

theorem ix_keep {w : World} {cs : List Cn} {j b : Nat} {c : Cn} (h : IxMap Try.prog w cs j b) (hc : cs[j]? = some c) {i : Nat} (hf : firstIx c.name (cs.take j) = some i) : IxMap Try.prog w cs (j + 1) b := by
  obtain ⟨D, h1, h2, h3⟩ := h
  have q := h3 c.name
  rw [hf] at q
  exact ⟨D, h1.mono (Nat.le_succ _), h2, ix_old hc h3 q.1⟩
theorem ix_put {w : World} {cs : List Cn} {j b : Nat} {c : Cn} (h : IxMap Try.prog w cs j b) (hc : cs[j]? = some c) (hs : c.name.size ≤ maxLen) (hj : j < maxLen) (hf : firstIx c.name (cs.take j) = none) :
    ∃ w', (Instr.mapUpdate 66 (.map (some b)) (.string c.name) (.int .i64 j)).run Try.prog w = .ok () w' ∧ IxMap Try.prog w' cs (j + 1) b ∧ w.grownBy w' (some b) := by
  obtain ⟨D, h1, h2, h3⟩ := h
  have q := h3 c.name
  rw [hf] at q
  obtain ⟨w', hrun, ho, hg⟩ := h1.update Try.keyS Try.underlying66 hj (Go.WideMaps.keyOf_string_mk Try.underlying9 hs) (plainElem_int Try.underlying3 (a := (j : Int)) (WalkArith.wf_i64 (by unfold maxLen at hj; omega)))
  exact ⟨w', hrun, ⟨_, ho, h2.put _ _, ix_new hc h2 h3 q⟩, hg⟩

set_option maxHeartbeats 4000000 in
set_option maxRecDepth 100000 in
theorem newchk_any (cs : List Cn) (p : Option Addr) (cap : Nat) (w : World) (hcs : CsV w cs p) :
    Calls Try.prog 66 #[.slice p cs.length cap] w fun e w' => e = .returned (.pointer (some ⟨w.heap.size + 2, 0, none⟩)) ∧ ChkJ Try.prog w' (w.heap.size + 2) w.heap.size (w.heap.size + 1) cs cs.length p cap ∧ Below w.heap.size w w' := by
  have HCS := Lib.hid hcs
  have hsm := hcs.small
  clear hcs
  have hmm := @run_makeMap Try.prog
  go_enter Try.func66, Try.ntmps66
  go_wp2_with fail
  clear hmm
  go_loopg [15] cs.length (fun g i wr => ∃ j : Nat, j ≤ cs.length ∧ i = .int .i64 j ∧ Hid (g = cs.length - j ∧ ChkJ Try.prog wr (w.heap.size + 2) w.heap.size (w.heap.size + 1) cs j p cap ∧ Below w.heap.size w wr))
  case atStart =>
    refine ⟨0, by omega, rfl, by omega, ⟨by simp [go_sem], by simp [go_sem], by simp [go_sem], ?_, ?_, by omega, by omega, by omega, by simp⟩, (((Below.refl _ _).alloc (Nat.le_refl _) _).alloc (by simp) _).alloc (by simp; omega) _⟩
    · exact ((IxMap.start _ w cs).kept (World.grownBy_alloc _ _ none) (by simp)).kept (World.grownBy_alloc _ _ none) (by simp)
    · have := (KnMap.start Try.prog (w.alloc (.map #[] 0)) cs).kept (World.grownBy_alloc _ (.cells #[.slice p cs.length cap, .map (some w.heap.size), .map (some (w.heap.size + 1))] 130) none) (by simp)
      simpa using this
  case round =>
    obtain ⟨j, hjn, rfl, HR⟩ := hrel
    by_cases hlt : j < cs.length
    · obtain ⟨c, hc⟩ : ∃ c, cs[j]? = some c := ⟨_, List.getElem?_eq_getElem (by omega)⟩
      have hcv : CsV wr cs p := HCS.out.next HR.out.2.2
      obtain ⟨B, O, rfl, ⟨d0, d1, d2, d3, d4⟩, hx⟩ := hcv.get hc
      have hi1' : (j : Int) < (cs.length : Int) := by omega
      go_upto_region 5 with (fail)
      have hns : c.name.size ≤ maxLen := (HCS.out.ok c (List.mem_of_getElem? hc)).1
      have HC := Lib.hid hc
      have CH : Hid (ChkJ Try.prog (wr.alloc (.cells #[.string c.name, .int .i64 c.a.op, .int .i64 c.a.num, .string c.a.name, .slice c.a.ptr (len c.k) c.a.cap] 46)) (w.heap.size + 2) w.heap.size (w.heap.size + 1) cs j (some ⟨B, O, none⟩) cap) := HR.out.2.1.next ((Below.refl _ _).alloc (Nat.le_refl _) _)
      have BB : Hid (Below w.heap.size w (wr.alloc (.cells #[.string c.name, .int .i64 c.a.op, .int .i64 c.a.num, .string c.a.name, .slice c.a.ptr (len c.k) c.a.cap] 46))) := HR.out.2.2.alloc HR.out.2.2.size _
      have e0 : (wr.alloc (.cells #[.string c.name, .int .i64 c.a.op, .int .i64 c.a.num, .string c.a.name, .slice c.a.ptr (len c.k) c.a.cap] 46)).cell? ⟨wr.heap.size, 0, none⟩ = some (.string c.name) := by simp [go_sem]
      clear d0 d1 d2 d3 d4 hx hcv hc
      generalize wr.alloc (.cells #[.string c.name, .int .i64 c.a.op, .int .i64 c.a.num, .string c.a.name, .slice c.a.ptr (len c.k) c.a.cap] 46) = wa at *
      obtain ⟨v, hb, hrun, hv⟩ := ix_look (w := wa.drew) (CH.out.next (Below.refl _ _).drew).ix c.name hns
      have HV := Lib.hid hv
      clear hv
      have y0 := CH.out.c1
      go_region
      clear hrun
      have hjm : j < maxLen := by unfold maxLen; omega
      cases hf : firstIx c.name (cs.take j) with
      | some i =>
        have hq : hb = true := by have := HV.out; rw [hf] at this; exact this.1
        subst hq
        have HF := Lib.hid hf
        clear hf HV
        go_wp2
        go_roundg (cs.length - (j + 1))
        case measure => have := HR.out.1; omega
        case rel =>
          have C2 := CH.out.next (Below.refl _ _).drew
          exact ⟨j + 1, by omega, by go_num, rfl, ⟨C2.c0, C2.c1, C2.c2, ix_keep C2.ix HC.out HF.out, C2.kn, C2.n1, C2.n2, C2.n3, C2.lt⟩, BB.out.drew⟩
      | none =>
        have hq : hb = false := by have := HV.out; rw [hf] at this; exact this
        subst hq
        have C2 := Lib.hid ((CH.out.next (Below.refl _ _).drew).next (Below.refl _ _).drew)
        obtain ⟨w9, hrun9, hix9, hg9⟩ := ix_put C2.out.ix HC.out hns hjm hf
        have IX9 := Lib.hid hix9
        have G9 := Lib.hid hg9
        clear hf HV hix9 hg9
        go_upto_region 7 with (fail)
        go_region
        go_wp2
        go_roundg (cs.length - (j + 1))
        case measure => have := HR.out.1; omega
        case rel =>
          exact ⟨j + 1, by omega, by go_num, rfl, C2.out.put IX9.out G9.out, BB.out.drew.drew.grown G9.out (by have := BB.out.size; simpa using this) (fun k hk => by cases hk; exact Nat.le_refl _)⟩
    · obtain rfl : j = cs.length := by omega
      have hn : ¬ (cs.length : Int) < (cs.length : Int) := by omega
      go_wp2
      go_ret
      exact ⟨rfl, HR.out.2.1, HR.out.2.2⟩

end Go.Proofs.Ytinbkhchhlkjgaa
