/-
  The walk of TypesChain.
-/
import Derived.Test.YtjdjbjblblmdjaaDoorTcq
import Derived.Maps.AppendAt
import Derived.Deep.AppendLies
namespace Go.Proofs.YtjdjbjblblmdjaaDoor
set_option linter.unusedVariables false
set_option linter.unusedSimpArgs false
open Go.ChangeShapes Go.WideShapes Go.ChangeAt Go.RowKit
open Go.Deep (BT)

theorem Tryd.infoCnT : (Tryd.prog.info? 26).map (fun i => (i.zero, i.size, i.bytes)) = some (some (.agg #[.string ⟨#[]⟩, .int .i64 0, .int .i64 0, .string ⟨#[]⟩, .slice none 0 0]), 5, 72) := by kernel_rfl
def tcnC (c : Cn) : List Value := [.string c.name, .int .i64 c.a.op, .int .i64 c.a.num, .string c.a.name, .slice c.a.ptr (len c.k) c.a.cap]
def tcsC (cs : List Cn) : List Value := cs.flatMap tcnC
theorem tcsC_len (cs : List Cn) : (tcsC cs).length = cs.length * 5 := by
  induction cs with
  | nil => rfl
  | cons c l ih => simp [tcsC, tcnC] at *; omega
theorem tcsC_snoc (cs : List Cn) (c : Cn) : tcsC (cs ++ [c]) = tcsC cs ++ tcnC c := by simp [tcsC]
theorem tcsC_name (cs : List Cn) (i : Nat) (c : Cn) (h : cs[i]? = some c) : (tcsC cs)[i * 5]? = some (.string c.name) := by
  induction cs generalizing i with
  | nil => simp at h
  | cons d l ih =>
    have e : tcsC (d :: l) = tcnC d ++ tcsC l := by simp [tcsC]
    cases i with
    | zero => simp at h; subst h; rw [e]; rfl
    | succ i =>
      rw [e, show (i + 1) * 5 = 5 + i * 5 by omega, List.getElem?_append_right (by simp [tcnC])]
      have := ih i (by simpa using h)
      simpa [tcnC] using this
theorem tcs_at {w : World} {g O : Nat} (cs : List Cn) (hc : ∀ j u, (tcsC cs)[j]? = some u → w.cell? ⟨g, O + j, none⟩ = some u) (hx : ∀ c ∈ cs, ExAt w c.b c.o c.a c.k) : CsAt w cs g O := by
  induction cs generalizing O with
  | nil => trivial
  | cons c l ih =>
    refine ⟨⟨hc 0 _ rfl, hc 1 _ rfl, hc 2 _ rfl, hc 3 _ rfl, hc 4 _ rfl⟩, hx c (List.mem_cons_self ..), ih (O := O + 5) (fun j u hu => ?_) (fun d hd => hx d (List.mem_cons_of_mem _ hd))⟩
    have := hc (5 + j) u (by rw [show tcsC (c :: l) = tcnC c ++ tcsC l by simp [tcsC], List.getElem?_append_right (by simp [tcnC])]; simpa [tcnC] using hu)
    rw [← Nat.add_assoc] at this
    exact this
theorem tne_cells {w : World} {a b : Nat} {x : Int} {s : ByteArray} (h : w.cell? ⟨a, 0, none⟩ = some (.int .i64 x)) (k : w.cell? ⟨b, 0, none⟩ = some (.string s)) : a ≠ b := by
  rintro rfl; rw [h] at k; cases k
/-- Four times the same leaf in block g. -/
def four (nm : ByteArray) : Fo := rowF [yT nm, yT nm, yT nm, yT nm]
theorem four_grown {w w' : World} {b g : Nat} {nm s : ByteArray} (h : FoAt w (four nm) b 0) (h0 : w.cell? ⟨g, 0, none⟩ = some (.string s)) (hg : w.grownBy w' (some g)) : FoAt w' (four nm) b 0 := by
  obtain ⟨⟨a0, a1, a2, a3⟩, x1, -, ⟨b0, b1, b2, b3⟩, x2, -, ⟨c0, c1, c2, c3⟩, x3, -, ⟨d0, d1, d2, d3⟩, x4, -, -⟩ := h
  have hn : some b ≠ some g := fun e => tne_cells a0 h0 (Option.some.inj e)
  exact ⟨⟨hg.cell a0 hn, hg.cell a1 hn, hg.cell a2 hn, hg.cell a3 hn⟩, x1, trivial, ⟨hg.cell b0 hn, hg.cell b1 hn, hg.cell b2 hn, hg.cell b3 hn⟩, x2, trivial, ⟨hg.cell c0 hn, hg.cell c1 hn, hg.cell c2 hn, hg.cell c3 hn⟩, x3, trivial, ⟨hg.cell d0 hn, hg.cell d1 hn, hg.cell d2 hn, hg.cell d3 hn⟩, x4, trivial, trivial⟩
theorem own_form {w : World} {base : Nat} {e : TypeId} {size : Nat} {v : Value} {n : Nat} {xs : List Value} (h : w.ownsRow base e size v n xs) (hn : 0 < n) : ∃ g cap, v = .slice (some ⟨g, 0, none⟩) n cap ∧ n ≤ cap := by
  rcases h.2 with ⟨_, h0⟩ | ⟨g, cap, cur, hv, hb, hg, hnc, _⟩
  · omega
  · exact ⟨g, cap, hv, hnc⟩
structure TS (w0 : World) (v : Value) (cs : List Cn) (wr : World) : Prop where
  own : wr.ownsRow w0.heap.size 26 5 v cs.length (tcsC cs)
  chn : TChain cs
  exs : ∀ c ∈ cs, ExAt wr c.b c.o c.a c.k
  bel : Below w0.heap.size w0 wr
theorem TS.next {w0 wr w' : World} {v : Value} {cs : List Cn} (h : TS w0 v cs wr) (hb : Below wr.heap.size wr w') : TS w0 v cs w' :=
  ⟨h.own.kept (gb_of_below hb none) (by cases hv : v.ownBlock <;> simp), h.chn, fun c hc => (h.exs c hc).next hb, h.bel.trans (hb.mono h.bel.size)⟩
theorem tcx_grown {w w' : World} {i g : Nat} {s : ByteArray} {c : Cn} (hc : TcC i c) (hx : ExAt w c.b c.o c.a c.k) (h0 : w.cell? ⟨g, 0, none⟩ = some (.string s)) (hg : w.grownBy w' (some g)) : ExAt w' c.b c.o c.a c.k := by
  by_cases hi : i = 0
  · have := (hc.zero hi).2
    refine ⟨hx.1, ?_⟩
    rw [this]; trivial
  · obtain ⟨gb, e1, e2, e3, e4⟩ := hc.more (by omega)
    refine ⟨hx.1, ?_⟩
    have h2 := hx.2
    rw [e4, e2] at h2 ⊢
    exact four_grown h2 h0 hg
theorem TS.grow {w0 w1 w' : World} {g cap j : Nat} {v' : Value} {cs : List Cn} {c : Cn} (h : TS w0 (.slice (some ⟨g, 0, none⟩) cs.length cap) cs w1) (hj : cs.length = j + 1) (hs : TcC (j + 1) c) (hx : ExAt w1 c.b c.o c.a c.k)
    (hown : w'.ownsRow w0.heap.size 26 5 v' (cs.length + 1) (tcsC cs ++ tcnC c)) (hg : w1.grownBy w' (some g)) : TS w0 v' (cs ++ [c]) w' := by
  have c0 : w1.cell? ⟨g, 0, none⟩ = some (.string (tnm 0)) := by
    have h1 := h.own.cellAt 0 (by rw [hj]; omega)
    have hc : cs[0]? = some cs[0] := List.getElem?_eq_getElem (by omega)
    rw [h1]
    have := tcsC_name cs 0 _ hc
    rw [Nat.zero_mul] at this
    rw [this, (h.chn 0 _ hc).nm]
  refine ⟨?_, ?_, ?_, ?_⟩
  · rw [tcsC_snoc, List.length_append]; exact hown
  · intro i d hd
    by_cases hi : i < cs.length
    · rw [List.getElem?_append_left hi] at hd; exact h.chn i d hd
    · rw [List.getElem?_append_right (by omega)] at hd
      have hi2 : i - cs.length = 0 := by
        have := (List.getElem?_eq_some_iff.1 hd).1
        simp at this; omega
      rw [hi2] at hd
      obtain rfl : _ = d := Option.some.inj hd
      obtain rfl : i = j + 1 := by omega
      exact hs
  · intro d hd
    rcases List.mem_append.1 hd with hd | hd
    · obtain ⟨i, hi, rfl⟩ := List.getElem_of_mem hd
      exact tcx_grown (h.chn i cs[i] (List.getElem?_eq_getElem hi)) (h.exs _ hd) c0 hg
    · rw [List.mem_singleton.1 hd]
      exact tcx_grown hs hx c0 hg
  · exact h.bel.grown hg h.bel.size (fun m hm => (h.own.lt m hm).1)
theorem ts_csv {w wr : World} {g cap : Nat} {cs : List Cn} (h : TS w (.slice (some ⟨g, 0, none⟩) cs.length cap) cs wr) (hl : cs.length ≤ 32) : CsV wr cs (some ⟨g, 0, none⟩) := by
  refine ⟨⟨g, 0, fun _ => rfl, tcs_at cs (fun j u hu => ?_) h.exs⟩, ?_, by omega⟩
  · have hj := (List.getElem?_eq_some_iff.1 hu).1
    rw [tcsC_len] at hj
    rw [Nat.zero_add, h.own.cellAt j hj]; exact hu
  · intro c hc
    obtain ⟨i, hi, rfl⟩ := List.getElem_of_mem hc
    have hq := h.chn i cs[i] (List.getElem?_eq_getElem hi)
    have hk := tnm_ok i (by omega)
    refine ⟨by rw [hq.nm]; omega, ?_⟩
    by_cases h0 : i = 0
    · rw [(hq.zero h0).1, (hq.zero h0).2]
      exact ⟨⟨by decide, by decide, by decide, by decide⟩, trivial⟩
    · have hk2 := tnm_ok (i - 1) (by omega)
      obtain ⟨gb, -, -, e3, e4⟩ := hq.more (by omega)
      exact (tstep_facts _ hk2.1 hk2.2 _ _ gb e3 e4).2.1

theorem CsAt.take {w : World} {cs : List Cn} {B O : Nat} (h : CsAt w cs B O) (j : Nat) : CsAt w (cs.take j) B O := by
  induction cs generalizing O j with
  | nil => simp; trivial
  | cons c cs ih =>
    cases j with
    | zero => trivial
    | succ j => exact ⟨h.1, h.2.1, ih h.2.2 j⟩
theorem CsV.take {w : World} {cs : List Cn} {p : Option Addr} (h : CsV w cs p) (j : Nat) : CsV w (cs.take j) p := by
  obtain ⟨⟨B, O, h1, h2⟩, h3, h4⟩ := h
  refine ⟨⟨B, O, fun q => h1 (by rintro rfl; simp at q), h2.take j⟩, fun c hc => h3 c (List.mem_of_mem_take hc), ?_⟩
  rw [List.length_take]; omega
theorem tchain_take {cs : List Cn} (h : TChain cs) (j : Nat) : TChain (cs.take j) := by
  intro i c hc
  rw [List.getElem?_take] at hc
  split at hc
  · exact h i c hc
  · cases hc
theorem tand_31 (n : Int) : bits .and .i64 n 31 = n % 32 := by
  have h127 : (BitVec.ofInt 64 31).toNat = 2 ^ 5 - 1 := by decide
  have key : (BitVec.ofInt 64 n &&& BitVec.ofInt 64 31).toNat = (n % ((2 ^ 64 : Nat) : Int)).toNat % 2 ^ 5 := by
    rw [BitVec.toNat_and, BitVec.toNat_ofInt, h127, Nat.and_two_pow_sub_one_eq_mod]
  show IntKind.i64.wrap ((BitVec.ofInt 64 n &&& BitVec.ofInt 64 31).toNat : Nat) = n % 32
  rw [key, IntKind.wrap_i64]
  omega
theorem ts_start (w : World) : TS w (.slice (some ⟨w.heap.size, 0, none⟩) 1 1) [⟨tnm 0, 0, 0, ⟨1, 1, ⟨#[]⟩, none, 0⟩, .nil⟩] (w.alloc (.cells #[.string ⟨#[99, 48]⟩, .int .i64 1, .int .i64 1, .string ⟨#[]⟩, .slice none 0 0] 26)) := by
  refine ⟨World.ownsRow_lit w #[.string ⟨#[99, 48]⟩, .int .i64 1, .int .i64 1, .string ⟨#[]⟩, .slice none 0 0] 1 (Nat.le_refl _) (by decide) rfl, ?_, ?_, (Below.refl _ _).alloc (Nat.le_refl _) _⟩
  · intro i c hc
    match i with
    | 0 => obtain rfl : _ = c := Option.some.inj hc; exact ⟨rfl, fun _ => ⟨rfl, rfl⟩, fun q => by omega⟩
    | i + 1 => simp at hc
  · intro c hc
    rw [List.mem_singleton.1 hc]
    exact ⟨fun q => absurd rfl q, trivial⟩
theorem four_new (w : World) (nm : ByteArray) (t : TypeId) : FoAt (w.alloc (.cells #[.int .i64 6, .int .i64 0, .string nm, .slice none 0 0, .int .i64 6, .int .i64 0, .string nm, .slice none 0 0, .int .i64 6, .int .i64 0, .string nm, .slice none 0 0, .int .i64 6, .int .i64 0, .string nm, .slice none 0 0] t)) (four nm) w.heap.size 0 := by
  simp [four, rowF, FoAt, yT, go_sem, len]
theorem cn_news (w : World) (B : Nat) (hB : w.heap.size = B) (s : ByteArray) (a b : Int) (x : ByteArray) (v : Value) (t : TypeId) : ∀ j u, ([.string s, .int .i64 a, .int .i64 b, .string x, v] : List Value)[j]? = some u → (w.alloc (.cells #[.string s, .int .i64 a, .int .i64 b, .string x, v] t)).cell? ((⟨B, 0, none⟩ : Addr).add j) = some u := by
  subst hB; exact World.news_of_block (heap_alloc_new w _)
theorem cn_one (s : ByteArray) (a b : Int) (x : ByteArray) (p : Addr) {n m : Nat} : ∀ u ∈ ([.string s, .int .i64 a, .int .i64 b, .string x, .slice (some p) n m] : List Value), u.oneCell' = true := by
  intro u hu
  simp only [List.mem_cons, List.not_mem_nil, or_false] at hu
  rcases hu with rfl | rfl | rfl | rfl | rfl <;> rfl
set_option maxHeartbeats 1000000 in
set_option maxRecDepth 100000 in
theorem walk_typesChain (n : Int) (w : World) (_ : (Lit.int .i64 n).wf = true) (hTab : LaidFacts w) : Calls Tryd.prog 3 #[.int .i64 n] w fun e w' => e = .returned (.bool true) ∧ Below w.heap.size w w' := by
  obtain ⟨i0, hi, hi0, hi1, hi2⟩ := info_parts Tryd.infoCnT
  obtain ⟨k, hk, hk31⟩ : ∃ k : Nat, bits .and .i64 n 31 = (k : Int) ∧ k ≤ 31 := ⟨(n % 32).toNat, by rw [tand_31]; omega, by omega⟩
  have HT : Hid (∀ w', Below w.heap.size w w' → Tab w') := fun w' hb => Tab.below hTab hb hTab.2
  clear hTab
  go_enter Tryd.func3, Tryd.ntmps3
  go_wp2_with fail
  clear hk
  have T0 := Lib.hid (ts_start w)
  generalize w.alloc (.cells #[.string ⟨#[99, 48]⟩, .int .i64 1, .int .i64 1, .string ⟨#[]⟩, .slice none 0 0] 26) = w1 at *
  go_loopw [4, 5] (fun l i wr => ∃ (vx : Value) (j : Nat) (cs : List Cn), vx = l ∧ i = .int .i64 ((j : Int) + 1) ∧ j ≤ k ∧ Hid (cs.length = j + 1 ∧ TS w vx cs wr)) (fun _ i _ => 33 - (intOf i).toNat)
  case atStart => exact ⟨_, 0, _, rfl, rfl, Nat.zero_le _, rfl, T0.out⟩
  case round =>
    obtain ⟨vx, j, cs, rfl, rfl, hj, HR⟩ := hrel
    obtain ⟨g, cap, hvx, hjcap⟩ := own_form HR.out.2.own (by rw [HR.out.1]; omega)
    rw [HR.out.1] at hvx hjcap
    have HJC := Lib.hid hjcap
    clear hjcap
    subst hvx
    have CH : Hid (TS w (.slice (some ⟨g, 0, none⟩) cs.length cap) cs wr) := by have := HR.out.2; rw [← HR.out.1] at this; exact this
    have HL := Lib.hid HR.out.1
    have CL0 : Hid (∀ i, i < cs.length → wr.cell? ⟨g, i * 5, none⟩ = some (.string (tnm i))) := by
      intro i hi
      have hc : cs[i]? = some cs[i] := List.getElem?_eq_getElem hi
      rw [CH.out.own.cellAt (i * 5) (by omega), tcsC_name cs i _ hc, (CH.out.chn i _ hc).nm]
    clear HR
    by_cases hlt : j < k
    · have hle : (j : Int) + 1 ≤ (k : Int) := by omega
      have hw1 : IntKind.i64.wrap ((j : Int) + 1 - 1) = (j : Int) := by rw [IntWalk.i64_in _ (by omega)]; omega
      have c0 := CL0.out j (by rw [HL.out]; omega)
      have hjn : (j : Int) < ((j + 1 : Nat) : Int) := by omega
      have hj0 : (0 : Int) ≤ (j : Int) := by omega
      go_upto_region 7 with (fail)
      have y0 : (wr.alloc (.cells #[.int .i64 6, .int .i64 0, .string (tnm j), .slice none 0 0] 24)).cell? ⟨wr.heap.size, 0, none⟩ = some (.int .i64 6) := by simp [go_sem]
      have y1 : (wr.alloc (.cells #[.int .i64 6, .int .i64 0, .string (tnm j), .slice none 0 0] 24)).cell? ⟨wr.heap.size, 1, none⟩ = some (.int .i64 0) := by simp [go_sem]
      have y2 : (wr.alloc (.cells #[.int .i64 6, .int .i64 0, .string (tnm j), .slice none 0 0] 24)).cell? ⟨wr.heap.size, 2, none⟩ = some (.string (tnm j)) := by simp [go_sem]
      have y3 : (wr.alloc (.cells #[.int .i64 6, .int .i64 0, .string (tnm j), .slice none 0 0] 24)).cell? ⟨wr.heap.size, 3, none⟩ = some (.slice none 0 0) := by simp [go_sem]
      have N1 : Hid (Below wr.heap.size wr (wr.alloc (.cells #[.int .i64 6, .int .i64 0, .string (tnm j), .slice none 0 0] 24))) := (Below.refl _ _).alloc (Nat.le_refl _) _
      generalize wr.alloc (.cells #[.int .i64 6, .int .i64 0, .string (tnm j), .slice none 0 0] 24) = w2 at *
      have hyb : wr.heap.size < w2.heap.size := by simpa using block_lt_of_cell y0
      have HTW : Hid (∀ w', Below w2.heap.size w2 w' → Tab w') := fun w' hb => HT.out w' ((CH.out.bel.trans (N1.out.mono (CH.out.bel.size))).trans (hb.mono (Nat.le_trans CH.out.bel.size N1.out.size)))
      have CHW : Hid (∀ w', Below w2.heap.size w2 w' → TS w (.slice (some ⟨g, 0, none⟩) cs.length cap) cs w') := fun w' hb => (CH.out.next N1.out).next hb
      have OWW : Hid (∀ w', Below w2.heap.size w2 w' → w'.ownsRow w.heap.size 26 5 (.slice (some ⟨g, 0, none⟩) (j + 1) cap) (j + 1) (tcsC cs)) := fun w' hb => by have := (CHW.out w' hb).own; rw [HL.out] at this; exact this
      clear N1
      generalize wr.heap.size = yb at *
      have hyn : some yb ≠ some g := by
        have h1 := (OWW.out w2 (Below.refl _ _)).cellAt 0 (by omega)
        have hc0 : 0 < cs.length := by rw [HL.out]; omega
        have h2 := tcsC_name cs 0 cs[0] (List.getElem?_eq_getElem hc0)
        rw [Nat.zero_mul] at h2
        rw [h2] at h1
        exact fun e => tne_cells y0 h1 (Option.some.inj e)
      obtain ⟨IT, hIT⟩ : ∃ IT, itoaB ((j : Int) + 1) = IT := ⟨_, rfl⟩
      have TXE : Hid (txtR 2 ⟨#[]⟩ ((j : Int) + 1) = IT) := by unfold Hid txtR; rw [if_neg (by omega), if_pos rfl, hIT]
      have TXT : Hid (OkT (txtR 2 ⟨#[]⟩ ((j : Int) + 1)) 2 ⟨#[]⟩ ((j : Int) + 1)) := by unfold Hid; rw [TXE.out, ← hIT]; exact okT_num _ (by omega) (by omega)
      have hIz : IT.size ≤ 21 := by rw [← hIT]; exact itoa_size _ (by omega) (by omega)
      have hcat : (⟨#[99]⟩ : ByteArray) ++ IT = tnm (j + 1) := by rw [← hIT]; exact tnm_itoa (j + 1) (by omega)
      have hsz : (⟨#[99]⟩ : ByteArray).size + IT.size ≤ 9223372036854775807 := by
        have : (⟨#[99]⟩ : ByteArray).size = 1 := rfl
        omega
      have hsz2 : 1 + IT.size ≤ 9223372036854775807 := by omega
      have hszN : ¬ 9223372036854775807 < 1 + IT.size := by omega
      clear hIT hw1 c0 hjn
      have n0 := World.new_ne w2 ⟨yb, 0, none⟩ y0
      go_region_held3 (fun w' => w'.cell? ⟨yb, 0, none⟩ = some (.int .i64 6) ∧ w'.cell? ⟨yb, 1, none⟩ = some (.int .i64 0) ∧ w'.cell? ⟨yb, 2, none⟩ = some (.string (tnm j)) ∧ w'.cell? ⟨yb, 3, none⟩ = some (.slice none 0 0)) (first | exact ⟨q0, q1, q2, q3⟩ | go_keep)
        (first
          | (go_at_call 4; refine (ttext_any 2 ⟨#[]⟩ ((j : Int) + 1) 0 _ (HTW.out _ (by first | exact (Below.refl _ _).drew | exact ((Below.refl _ _).drew).alloc (by simp) _)) (by omega) (by omega) (by decide)).mono ?_; rintro e w5 ⟨⟨r, rfl, hr, -⟩, hb⟩; obtain rfl : r = IT := (hr TXT.out).trans TXE.out; have BW5 : Hid (Below w2.heap.size w2 w5) := (by first | exact ((Below.refl _ _).drew).trans (hb.mono (by simp)) | exact (((Below.refl _ _).drew).alloc (by simp) _).trans (hb.mono (by simp))); have z0 : w5.cell? ⟨yb, 0, none⟩ = some (.int .i64 6) := (by rw [BW5.out.cell (p := ⟨yb, 0, none⟩) hyb]; exact y0); have z1 : w5.cell? ⟨yb, 1, none⟩ = some (.int .i64 0) := (by rw [BW5.out.cell (p := ⟨yb, 1, none⟩) hyb]; exact y1); have z2 : w5.cell? ⟨yb, 2, none⟩ = some (.string (tnm j)) := (by rw [BW5.out.cell (p := ⟨yb, 2, none⟩) hyb]; exact y2); have z3 : w5.cell? ⟨yb, 3, none⟩ = some (.slice none 0 0) := (by rw [BW5.out.cell (p := ⟨yb, 3, none⟩) hyb]; exact y3); have hz5 : yb < w5.heap.size := Nat.lt_of_lt_of_le hyb BW5.out.size; first | (have F5 : Hid (FoAt w5 (four (tnm j)) w2.heap.size 0) := (four_new w2.drew (tnm j) 24).next hb) | skip; clear hb hr)
          | (refine step_append_lies _ (by rfl) _ _ 27 (by rfl) w.heap.size 26 i0 (.agg #[.string ⟨#[]⟩, .int .i64 0, .int .i64 0, .string ⟨#[]⟩, .slice none 0 0]) 5 72 Tryd.underlying27 hi hi0 hi1 hi2 rfl (by decide) (.slice (some ⟨g, 0, none⟩) (j + 1) cap) (j + 1) (tcsC cs) (by rfl) (OWW.out _ ((BW5.out.alloc BW5.out.size _).alloc (by have := BW5.out.size; simp; omega) _)) _ 1 1 [.string (tnm (j + 1)), .int .i64 13, .int .i64 0, .string ⟨#[]⟩, .slice (some ⟨w5.heap.size, 0, none⟩) 4 4] (by rfl) (by rfl) (cn_news _ _ (by simp) _ _ _ _ _ _) (cn_one _ _ _ _ _) (by decide) (by unfold maxLen; omega) (by omega) (by have h1 := (CHW.out _ BW5.out).bel.size; simp; omega) _ rfl ?_; intro g9 gc w9 hown hgrow hat hlt9; have TN : Hid (TS w (.slice (some ⟨g9, 0, none⟩) (j + 1 + 1) gc) (cs ++ [⟨tnm (j + 1), w5.heap.size, 0, ⟨13, 0, ⟨#[]⟩, some ⟨w5.heap.size, 0, none⟩, 4⟩, four (tnm j)⟩]) w9) := (CHW.out _ ((BW5.out.alloc BW5.out.size _).alloc (by have := BW5.out.size; simp; omega) _)).grow HL.out ⟨rfl, (fun q => by omega), fun _ => ⟨w5.heap.size, rfl, rfl, rfl, rfl⟩⟩ ⟨fun _ => rfl, (((four_new w5 (tnm j) 24).next ((Below.refl _ _).alloc (Nat.le_refl _) _)))⟩ (by rw [HL.out]; exact hown) hgrow; have q0 := hgrow.cell ((((BW5.out.alloc BW5.out.size _).alloc (by have := BW5.out.size; simp; omega) _).cell (p := ⟨yb, 0, none⟩) hyb).trans y0) hyn; have q1 := hgrow.cell ((((BW5.out.alloc BW5.out.size _).alloc (by have := BW5.out.size; simp; omega) _).cell (p := ⟨yb, 1, none⟩) hyb).trans y1) hyn; have q2 := hgrow.cell ((((BW5.out.alloc BW5.out.size _).alloc (by have := BW5.out.size; simp; omega) _).cell (p := ⟨yb, 2, none⟩) hyb).trans y2) hyn; have q3 := hgrow.cell ((((BW5.out.alloc BW5.out.size _).alloc (by have := BW5.out.size; simp; omega) _).cell (p := ⟨yb, 3, none⟩) hyb).trans y3) hyn; clear hown hgrow hat)
          | (refine step_append_lies _ (by rfl) _ _ 27 (by rfl) w.heap.size 26 i0 (.agg #[.string ⟨#[]⟩, .int .i64 0, .int .i64 0, .string ⟨#[]⟩, .slice none 0 0]) 5 72 Tryd.underlying27 hi hi0 hi1 hi2 rfl (by decide) (.slice (some ⟨g, 0, none⟩) (j + 1) cap) (j + 1) (tcsC cs) (by rfl) (OWW.out _ (BW5.out.alloc BW5.out.size _)) _ 1 1 [.string (tnm (j + 1)), .int .i64 13, .int .i64 0, .string ⟨#[]⟩, .slice (some ⟨w2.heap.size, 0, none⟩) 4 4] (by rfl) (by rfl) (cn_news _ _ (by simp) _ _ _ _ _ _) (cn_one _ _ _ _ _) (by decide) (by unfold maxLen; omega) (by omega) (by have h1 := (CHW.out _ BW5.out).bel.size; simp; omega) _ rfl ?_; intro g9 gc w9 hown hgrow hat hlt9; have TN : Hid (TS w (.slice (some ⟨g9, 0, none⟩) (j + 1 + 1) gc) (cs ++ [⟨tnm (j + 1), w2.heap.size, 0, ⟨13, 0, ⟨#[]⟩, some ⟨w2.heap.size, 0, none⟩, 4⟩, four (tnm j)⟩]) w9) := (CHW.out _ (BW5.out.alloc BW5.out.size _)).grow HL.out ⟨rfl, (fun q => by omega), fun _ => ⟨w2.heap.size, rfl, rfl, rfl, rfl⟩⟩ ⟨fun _ => rfl, (F5.out.next ((Below.refl _ _).alloc (Nat.le_refl _) _))⟩ (by rw [HL.out]; exact hown) hgrow; have q0 := hgrow.cell (((BW5.out.alloc BW5.out.size _).cell (p := ⟨yb, 0, none⟩) hyb).trans y0) hyn; have q1 := hgrow.cell (((BW5.out.alloc BW5.out.size _).cell (p := ⟨yb, 1, none⟩) hyb).trans y1) hyn; have q2 := hgrow.cell (((BW5.out.alloc BW5.out.size _).cell (p := ⟨yb, 2, none⟩) hyb).trans y2) hyn; have q3 := hgrow.cell (((BW5.out.alloc BW5.out.size _).cell (p := ⟨yb, 3, none⟩) hyb).trans y3) hyn; clear hown hgrow hat))
      all_goals go_wp2
      all_goals go_roundw
      case rel => exact ⟨_, j + 1, _, rfl, by go_num, by omega, by simp [HL.out], TN.out⟩
      case rel => exact ⟨_, j + 1, _, rfl, by go_num, by omega, by simp [HL.out], TN.out⟩
      all_goals (simp [intOf]; omega)
    · obtain rfl : j = k := by omega
      have hle : ¬ ((j : Int) + 1 ≤ (j : Int)) := by omega
      have c0 := CL0.out j (by rw [HL.out]; omega)
      have hjn : (j : Int) < ((j + 1 : Nat) : Int) := by omega
      have hj0 : (0 : Int) ≤ (j : Int) := by omega
      have CSV := Lib.hid (ts_csv CH.out (by rw [HL.out]; omega))
      have TF : ∀ w', Below wr.heap.size wr w' → Calls Tryd.prog 5 #[.slice (some ⟨g, 0, none⟩) (j + 1) cap, .int .i64 0, .agg #[.int .i64 6, .int .i64 0, .string (tnm j), .slice none 0 0]] w' fun e w'' => e = .returned (.tuple #[.int .i64 1, .int .i64 0]) ∧ Below w'.heap.size w' w'' := fun w' hb => by
        have hk := tnm_ok j (by omega)
        have hn : NdOk ⟨6, 0, tnm j, none, 0⟩ (len .nil) := ⟨⟨(by decide : (-9223372036854775808 : Int) ≤ 6), (by decide : (6 : Int) ≤ 9223372036854775807)⟩, ⟨(by decide : (-9223372036854775808 : Int) ≤ 0), (by decide : (0 : Int) ≤ 9223372036854775807)⟩, by have := hk.2; show (tnm j).size ≤ 9223372036854775807; omega, by show (0 : Nat) ≤ 9223372036854775807; omega⟩
        have h1 := typeof_any cs (some ⟨g, 0, none⟩) cap 0 0 0 6 0 (tnm j) none 0 .nil w' (CSV.out.next hb) ⟨fun q => absurd rfl q, trivial⟩ ⟨hn, trivial⟩
        rw [HL.out, tchain_of cs CH.out.chn (by rw [HL.out]; omega) j (by rw [HL.out]; omega)] at h1
        exact h1
      have TG : Hid (∀ w', Below wr.heap.size wr w' → Calls Tryd.prog 5 #[.slice (some ⟨g, 0, none⟩) j cap, .int .i64 0, .agg #[.int .i64 6, .int .i64 0, .string (tnm j), .slice none 0 0]] w' fun e w'' => e = .returned (.tuple #[.int .i64 0, .int .i64 6]) ∧ Below w'.heap.size w' w'') := fun w' hb => by
        have hk := tnm_ok j (by omega)
        have hlt : (cs.take j).length = j := by rw [List.length_take, HL.out]; omega
        have hn : NdOk ⟨6, 0, tnm j, none, 0⟩ (len .nil) := ⟨⟨(by decide : (-9223372036854775808 : Int) ≤ 6), (by decide : (6 : Int) ≤ 9223372036854775807)⟩, ⟨(by decide : (-9223372036854775808 : Int) ≤ 0), (by decide : (0 : Int) ≤ 9223372036854775807)⟩, by have := hk.2; show (tnm j).size ≤ 9223372036854775807; omega, by show (0 : Nat) ≤ 9223372036854775807; omega⟩
        have h1 := typeof_any (cs.take j) (some ⟨g, 0, none⟩) cap 0 0 0 6 0 (tnm j) none 0 .nil w' ((CSV.out.next hb).take j) ⟨fun q => absurd rfl q, trivial⟩ ⟨hn, trivial⟩
        have h2 := tchain_no (cs.take j) (tchain_take CH.out.chn j) (by omega)
        rw [hlt] at h1 h2
        rw [h2] at h1
        exact h1
      go_wp2_with (first | (refine (TF _ (Below.refl _ _)).mono ?_; rintro e w3 ⟨rfl, hb3⟩; have B3 := Lib.hid hb3; have c3 := (hb3.cell (p := ⟨g, j * 5, none⟩) (block_lt_of_cell c0)).trans c0; clear hb3))
      have hjc : j ≤ cap := by have := HJC.out; omega
      go_region_held3 (fun w' => w'.cell? ⟨g, j * 5, none⟩ = some (.string (tnm j))) (first | exact c4 | go_keep)
        (first | (refine (TG.out _ (by first | exact B3.out.drew | exact (B3.out.drew).alloc (by have := B3.out.size; simp; omega) _)).mono ?_; rintro e w4 ⟨rfl, hb4⟩; have c4 := (hb4.cell (p := ⟨g, j * 5, none⟩) (by have := block_lt_of_cell c3; simpa using this)).trans (by simpa using c3); have B4 := Lib.hid hb4; clear hb4))
      all_goals go_wp2_with (first | (refine (awake_any _).mono ?_; rintro e w5 ⟨rfl, hb5⟩; have B5 := Lib.hid hb5; clear hb5))
      have A3 := CH.out.bel.trans (B3.out.mono CH.out.bel.size)
      have A4 := (A3.drew).trans (B4.out.mono (by have := A3.size; simp; omega))
      go_ret
      exact ⟨rfl, A4.trans (B5.out.mono A4.size)⟩

end Go.Proofs.YtjdjbjblblmdjaaDoor
