/-
  Digits in memory, and the contracts of the digits' functions of pairingref1: trim, digit, addDigits, subDigits.
-/
import Derived.Test.YtifdimpfgglieaaDgM
import Derived.Test.YtifdimpfgglieaaChs
import Derived.OwnWalk
import Derived.Deep.QuietTactic
import Derived.BigQuiet
namespace Go.Proofs.Ytifdimpfgglieaa
set_option linter.unusedVariables false
set_option linter.unusedSimpArgs false
open Go.ChangeShapes Go.WideShapes Go.ChangeAt Go.RowKit

theorem ret_slice {A : Option Addr} {n m c : Nat} (h : n = m) : Ending.returned (.slice A n c) = .returned (.slice A m c) := by rw [h]
/-- The slice at A holds the digits l. -/
structure DgA (w : World) (A : Option Addr) (c : Nat) (l : List Nat) : Prop where
  dg : DgL l
  len : l.length ≤ c
  nil : A = none → c = 0
  at_ : l ≠ [] → ∃ g, A = some ⟨g, 0, none⟩ ∧ ∀ j, j < l.length → w.cell? ⟨g, j, none⟩ = some (.int .u32 ((l.getD j 0 : Nat) : Int))
theorem DgA.next {w w' : World} {A : Option Addr} {c : Nat} {l : List Nat} (h : DgA w A c l) (hb : Below w.heap.size w w') : DgA w' A c l :=
  ⟨h.dg, h.len, h.nil, fun q => by
    obtain ⟨g, e, h2⟩ := h.at_ q
    exact ⟨g, e, fun j hj => (hb.cell (block_lt_of_cell (h2 j hj))).trans (h2 j hj)⟩⟩
theorem trim_take (l : List Nat) (h : DgL l) : dgs (val l) = l.take (dgs (val l)).length := by
  induction l with
  | nil => rw [val, dgs_zero]; rfl
  | cons d l ih =>
    have hd := h d (List.mem_cons_self ..)
    rcases Nat.eq_zero_or_pos (val (d :: l)) with q | q
    · rw [q, dgs_zero]; rfl
    · have e : dgs (val (d :: l)) = d :: dgs (val l) := by
        rw [dgs_pos q]
        show (d + 4294967296 * val l) % 4294967296 :: dgs ((d + 4294967296 * val l) / 4294967296) = _
        rw [show (d + 4294967296 * val l) % 4294967296 = d by omega, show (d + 4294967296 * val l) / 4294967296 = val l by omega]
      rw [e, List.length_cons, List.take_succ_cons]
      conv => lhs; rw [ih (fun x hx => h x (List.mem_cons_of_mem _ hx))]
theorem trim_len (l : List Nat) (h : DgL l) : (dgs (val l)).length ≤ l.length := dgs_len_of _ _ (val_lt l h)
theorem DgA.trim {w : World} {A : Option Addr} {c : Nat} {l : List Nat} (h : DgA w A c l) : DgA w A c (dgs (val l)) := by
  have hl := trim_len l h.dg
  refine ⟨dgs_dg _, Nat.le_trans hl h.len, h.nil, fun q => ?_⟩
  have hp : 0 < (dgs (val l)).length := by cases e : dgs (val l) with | nil => exact absurd e q | cons => simp
  obtain ⟨g, e, h2⟩ := h.at_ (by rintro rfl; simp at hl; rw [hl] at q; exact q rfl)
  refine ⟨g, e, fun j hj => ?_⟩
  rw [h2 j (by omega)]
  have : (dgs (val l)).getD j 0 = l.getD j 0 := by
    conv => lhs; rw [trim_take l h.dg]
    rw [List.getD_eq_getElem?_getD, List.getElem?_take, if_pos hj, ← List.getD_eq_getElem?_getD]
  rw [this]

set_option maxHeartbeats 1000000 in
theorem trim_any (A : Option Addr) (c : Nat) (l : List Nat) (w : World) (h : DgA w A c l) (hl : l.length ≤ 1000) :
    Calls Try.prog 24 #[.slice A l.length c] w fun e w' => e = .returned (.slice A (dgs (val l)).length c) ∧ w = w' := by
  have H := Lib.hid h
  have HC := h.len
  clear h
  go_enter Try.func24, Try.ntmps24
  go_wp2
  go_loop [3] (fun n => ∃ k : Nat, k ≤ l.length ∧ n = .int .i64 k ∧ Hid (∀ j, k ≤ j → l.getD j 0 = 0)) (fun n => (intOf n).toNat)
  case atStart => exact ⟨l.length, Nat.le_refl _, rfl, fun j hj => getD_end l j hj⟩
  case round =>
    obtain ⟨k, hk, rfl, HZ⟩ := hrel
    cases k with
    | zero =>
      have RZ : Hid ((dgs (val l)).length = 0) := by
        have := take_dgs l 0 H.out.dg HZ.out (.inl rfl)
        unfold Hid; rw [← this]; rfl
      have hcc : (0 : Int) ≤ (c : Int) := by omega
      cases A with
      | none => go_wp2; go_ret; exact ⟨ret_slice RZ.out.symm, rfl⟩
      | some a => go_wp2; go_ret; exact ⟨ret_slice RZ.out.symm, rfl⟩
    | succ m =>
      obtain ⟨g, rfl, hc⟩ := H.out.at_ (by rintro rfl; simp at hk)
      have cc := hc m (by omega)
      have hw1 : IntKind.i64.wrap (((m + 1 : Nat) : Int) - 1) = (m : Int) := by rw [IntWalk.i64_in _ (by omega)]; omega
      have hpos : (0 : Int) < ((m + 1 : Nat) : Int) := by omega
      have hm0 : (0 : Int) ≤ (m : Int) := by omega
      have hml : (m : Int) < (l.length : Int) := by omega
      have hcc : ((m + 1 : Nat) : Int) ≤ (c : Int) := by omega
      clear hc
      by_cases hz : l.getD m 0 = 0
      · have HZ2 : Hid (∀ j, m ≤ j → l.getD j 0 = 0) := fun j hj => by
          by_cases e : j = m
          · subst e; exact hz
          · exact HZ.out j (by omega)
        rw [hz] at cc
        clear hz
        go_wp2
        go_round
        case rel => exact ⟨m, by omega, by go_num, HZ2.out⟩
        case measure => first | (simp [intOf]; done) | (simp [intOf]; omega)
      · have RZ : Hid ((dgs (val l)).length = m + 1) := by
          have := take_dgs l (m + 1) H.out.dg HZ.out (.inr (by simpa using hz))
          unfold Hid; rw [← this, List.length_take]; omega
        have hb : (((l.getD m 0 : Nat) : Int) == 0) = false := by rw [beq_eq_false_iff_ne]; omega
        generalize l.getD m 0 = x at *
        clear hz
        go_wp2
        go_ret
        exact ⟨ret_slice RZ.out.symm, rfl⟩

set_option maxHeartbeats 1000000 in
theorem digit_any (A : Option Addr) (c : Nat) (l : List Nat) (i : Nat) (w : World) (h : DgA w A c l) (hl : l.length ≤ 1000) (hi : i ≤ 2000) :
    Calls Try.prog 35 #[.slice A l.length c, .int .i64 i] w fun e w' => e = .returned (.int .u64 ((l.getD i 0 : Nat) : Int)) ∧ w = w' := by
  have H := Lib.hid h
  clear h
  go_enter Try.func35, Try.ntmps35
  by_cases hlt : i < l.length
  · obtain ⟨g, rfl, hc⟩ := H.out.at_ (by rintro rfl; simp at hlt)
    have cc := hc i hlt
    have hd := getD_lt l H.out.dg i
    generalize l.getD i 0 = x at *
    have hx : (x : Int) < 4294967296 := by omega
    clear hc
    go_wp2
    go_ret
    exact ⟨rfl, rfl⟩
  · have e := getD_end l i (by omega)
    rw [e]
    clear e
    go_wp2
    go_ret
    exact ⟨rfl, rfl⟩

def dgV (l : List Nat) : List Value := l.map fun d => .int .u32 ((d : Nat) : Int)
theorem made_dg (n : Nat) : (madeCells #[Value.int .u32 0] n).toList = dgV (List.replicate n 0) := by
  unfold madeCells dgV
  apply List.ext_getElem
  · simp
  · intro i h1 h2
    simp [Nat.mod_one]
theorem dgV_set (l : List Nat) (i d : Nat) : (dgV l).set i (.int .u32 (d : Int)) = dgV (l.set i d) := by
  unfold dgV; rw [List.map_set]
theorem dgV_at (l : List Nat) (i : Nat) (h : i < l.length) : (dgV l)[i]? = some (.int .u32 ((l.getD i 0 : Nat) : Int)) := by
  unfold dgV; rw [List.getElem?_map, List.getD_eq_getElem?_getD, List.getElem?_eq_getElem h]; rfl
theorem dg_cell {w : World} {base : Nat} {e : TypeId} {g n : Nat} {l : List Nat} (h : w.ownsRow base e 1 (.slice (some ⟨g, 0, none⟩) n n) n (dgV l)) (hn : l.length = n) (i : Nat) (hi : i < n) : w.cell? ⟨g, i, none⟩ = some (.int .u32 ((l.getD i 0 : Nat) : Int)) := by
  rw [h.cellAt i (by omega), dgV_at l i (by omega)]
theorem DgA.of_own {w : World} {base : Nat} {e : TypeId} {g n : Nat} {l : List Nat} (h : w.ownsRow base e 1 (.slice (some ⟨g, 0, none⟩) n n) n (dgV l)) (hn : l.length = n) (hd : DgL l) : DgA w (some ⟨g, 0, none⟩) n l :=
  ⟨hd, by omega, (fun q => by cases q), fun _ => ⟨g, rfl, fun j hj => dg_cell h hn j (by omega)⟩⟩
theorem DgA.grown {w0 w w' : World} {A : Option Addr} {c : Nat} {l : List Nat} (h : DgA w0 A c l) (hb : Below w0.heap.size w0 w') : DgA w' A c l := h.next hb
structure DgN (w w' : World) (A : Option Addr) (c : Nat) (l : List Nat) : Prop extends DgA w' A c l where
  new : ∀ g, A = some ⟨g, 0, none⟩ → w.heap.size ≤ g
/-- What a function of digits answers: the digits of a number, in new memory. -/
def DgP (w : World) (v : Nat) (e : Ending) (w' : World) : Prop := ∃ A c, e = .returned (.slice A (dgs v).length c) ∧ DgN w w' A c (dgs v) ∧ Below w.heap.size w w'
theorem DgA.store {w : World} {A : Option Addr} {c qb o : Nat} {l : List Nat} (h : DgA w A c l) (hne : ∀ g, A = some ⟨g, 0, none⟩ → l ≠ [] → g ≠ qb) (u : Value) : DgA (w.setCell ⟨qb, o, none⟩ u) A c l := by
  refine ⟨h.dg, h.len, h.nil, fun q => ?_⟩
  obtain ⟨g, e, h2⟩ := h.at_ q
  have hg := hne g e q
  refine ⟨g, e, fun j hj => ?_⟩
  rw [World.cell?_setCell_other _ _ _ _ (fun e => hg (by have := congrArg Addr.block e; first | exact this | exact this.symm))]
  exact h2 j hj
theorem DgA.lt {w : World} {A : Option Addr} {c : Nat} {l : List Nat} (h : DgA w A c l) : ∀ g, A = some ⟨g, 0, none⟩ → l ≠ [] → g < w.heap.size := by
  intro g e q
  obtain ⟨g', e', h2⟩ := h.at_ q
  rw [e] at e'
  injection e' with e'
  injection e' with e'
  subst e'
  exact block_lt_of_cell (h2 0 (by cases l with | nil => exact absurd rfl q | cons => simp))
theorem DgP.of {w wr : World} {c v : Nat} {l : List Nat} (h : DgA wr (some ⟨w.heap.size, 0, none⟩) c l) (hb : Below w.heap.size w wr) (hv : val l = v) : DgP w v (.returned (.slice (some ⟨w.heap.size, 0, none⟩) (dgs (val l)).length c)) wr := by
  subst hv; exact ⟨_, c, rfl, ⟨h.trim, fun g e => by injection e with e; injection e with e; subst e; exact Nat.le_refl _⟩, hb⟩
theorem dg_store {w wr : World} {e : TypeId} {g n k d : Nat} {v : Int} {s : List Nat} (OW : wr.ownsRow w.heap.size e 1 (.slice (some ⟨g, 0, none⟩) n n) n (dgV s)) (BW : Below w.heap.size w wr) (hv : v = (d : Int)) :
    Hid ((wr.setCell ⟨g, k, none⟩ (.int .u32 v)).ownsRow w.heap.size e 1 (.slice (some ⟨g, 0, none⟩) n n) n (dgV (s.set k d))) ∧ Hid (Below w.heap.size w (wr.setCell ⟨g, k, none⟩ (.int .u32 v))) := by
  subst hv
  have h := OW.stored k (.int .u32 (d : Int))
  have hg := (OW.lt g rfl).1
  exact ⟨by have := h.1; rw [dgV_set] at this; exact this, BW.grown h.2 BW.size (fun m hm => by cases hm; exact hg)⟩
theorem Try.infoU32 : (Try.prog.info? 36).map (fun i => (i.zero, i.size, i.bytes)) = some (some (.int .u32 0), 1, 4) := by kernel_rfl

set_option maxHeartbeats 1000000 in
theorem add_any (A B : Option Addr) (ca cb : Nat) (a b : List Nat) (w : World) (ha : DgA w A ca a) (hb : DgA w B cb b) (hla : a.length ≤ 100) (hlb : b.length ≤ 100) :
    Calls Try.prog 21 #[.slice A a.length ca, .slice B b.length cb] w (DgP w (val a + val b)) := by
  have HA := Lib.hid ha
  have HB := Lib.hid hb
  obtain ⟨i0, hi, hi0, hi1, hi2⟩ := info_parts Try.infoU32
  clear ha hb
  obtain ⟨m, hm⟩ : ∃ m, max a.length b.length = m := ⟨_, rfl⟩
  have hm1 : m ≤ 100 := by omega
  have HM := Lib.hid hm
  have hmx : (if a.length < b.length then ((b.length : Nat) : Int) else ((a.length : Nat) : Int)) = (m : Int) := by split <;> omega
  clear hm
  go_enter Try.func21, Try.ntmps21
  go_wp2_with (refine wpList_make_full _ rfl _ _ 22 rfl w.heap.size 36 i0 (.int .u32 0) 1 Try.underlying22 hi hi0 hi1 .i64 .i64 _ _ (m + 1) rfl rfl (by first | rfl | omega | simp) (by first | rfl | omega | simp) ?m1 ?m2 ?m3 ?_)
  case m1 => rw [hi2]; omega
  case m2 => unfold maxLen; omega
  case m3 => exact Nat.le_refl _
  intro w1 hown hgrow
  have OW0 : Hid (w1.ownsRow w.heap.size 36 1 (.slice (some ⟨w.heap.size, 0, none⟩) (m + 1) (m + 1)) (m + 1) (dgV (List.replicate (m + 1) 0))) := by
    rw [made_dg] at hown; exact hown
  have B0 : Hid (Below w.heap.size w w1) := (Below.refl _ _).grown hgrow (Nat.le_refl _) (fun k hk => by cases hk)
  clear hown hgrow hmx
  go_wp2_with fail
  go_loopw [7, 8] (fun c i wr => ∃ (k cv : Nat) (s : List Nat), k ≤ m + 1 ∧ i = .int .i64 k ∧ c = .int .u64 cv ∧ Hid (AddI a b s (m + 1) k cv) ∧ Hid (wr.ownsRow w.heap.size 36 1 (.slice (some ⟨w.heap.size, 0, none⟩) (m + 1) (m + 1)) (m + 1) (dgV s)) ∧ Hid (Below w.heap.size w wr)) (fun _ i _ => m + 1 - (intOf i).toNat)
  case atStart => exact ⟨0, 0, _, Nat.zero_le _, rfl, rfl, AddI.start a b _, OW0.out, B0.out⟩
  case round =>
    clear OW0 B0
    obtain ⟨k, cv, s, hk, rfl, rfl, AI, OW, BW⟩ := hrel
    by_cases hlt : k < m + 1
    · have h1 := getD_lt a HA.out.dg k
      have h2 := getD_lt b HB.out.dg k
      have h3 := AI.out.c1
      have NX := Lib.hid (AI.out.next HA.out.dg HB.out.dg hlt)
      have CA : Hid (DgA wr A ca a) := HA.out.next BW.out
      have CB : Hid (DgA wr B cb b) := HB.out.next BW.out
      have hlt1 : (k : Int) < (m : Int) + 1 := by omega
      have KA := Lib.hid (digit_any A ca a k wr CA.out (by omega) (by omega))
      have KB := Lib.hid (digit_any B cb b k wr CB.out (by omega) (by omega))
      generalize a.getD k 0 = x at *
      generalize b.getD k 0 = y at *
      have q1 : wr.cell? ⟨w.heap.size, k, none⟩ = some (.int .u32 ((s.getD k 0 : Nat) : Int)) := dg_cell OW.out AI.out.len k hlt
      have q2 : wr.frozen? ⟨w.heap.size, k, none⟩ = false := OW.out.frozenAt k
      go_wp2_with (first
        | (go_at_call 35; (with_reducible refine KA.out.mono ?_); rintro e w' ⟨rfl, hw⟩; subst hw)
        | (go_at_call 35; (with_reducible refine KB.out.mono ?_); rintro e w' ⟨rfl, hw⟩; subst hw))
      go_roundw
      case rel =>
        obtain ⟨z1, z2⟩ := dg_store (k := k) (d := (cv + x + y) % 4294967296) (v := ((cv : Int) + x + y) % 4294967296) OW.out BW.out (by omega)
        exact ⟨k + 1, _, _, by omega, by go_num, congrArg (Value.int .u64) (by omega), NX.out, z1, z2⟩
      case measure => first | (simp [intOf]; done) | (simp [intOf]; omega)
    · obtain rfl : k = m + 1 := by omega
      have KT0 := trim_any _ _ s wr (DgA.of_own OW.out AI.out.len AI.out.dg) (by rw [AI.out.len]; omega)
      rw [AI.out.len] at KT0
      have KT := Lib.hid KT0
      clear KT0
      go_wp2_with (go_at_call 24; (with_reducible refine KT.out.mono ?_); rintro e w' ⟨rfl, hw⟩; subst hw)
      go_ret
      exact DgP.of (DgA.of_own OW.out AI.out.len AI.out.dg) BW.out (AI.out.done HA.out.dg HB.out.dg (by rw [HM.out]))

set_option maxHeartbeats 1000000 in
theorem sub_any (A B : Option Addr) (ca cb : Nat) (a b : List Nat) (w : World) (ha : DgA w A ca a) (hb : DgA w B cb b) (hla : a.length ≤ 100) (hlb : b.length ≤ a.length) (hle : val b ≤ val a) :
    Calls Try.prog 23 #[.slice A a.length ca, .slice B b.length cb] w (DgP w (val a - val b)) := by
  have HA := Lib.hid ha
  have HB := Lib.hid hb
  have HLE := Lib.hid hle
  obtain ⟨i0, hi, hi0, hi1, hi2⟩ := info_parts Try.infoU32
  clear ha hb hle
  go_enter Try.func23, Try.ntmps23
  go_wp2_with (refine wpList_make_full _ rfl _ _ 22 rfl w.heap.size 36 i0 (.int .u32 0) 1 Try.underlying22 hi hi0 hi1 .i64 .i64 _ _ a.length rfl rfl (by first | rfl | omega | simp) (by first | rfl | omega | simp) ?m1 ?m2 ?m3 ?_)
  case m1 => rw [hi2]; omega
  case m2 => unfold maxLen; omega
  case m3 => exact Nat.le_refl _
  intro w1 hown hgrow
  have OW0 : Hid (w1.ownsRow w.heap.size 36 1 (.slice (some ⟨w.heap.size, 0, none⟩) a.length a.length) a.length (dgV (List.replicate a.length 0))) := by
    rw [made_dg] at hown; exact hown
  have B0 : Hid (Below w.heap.size w w1) := (Below.refl _ _).grown hgrow (Nat.le_refl _) (fun k hk => by cases hk)
  clear hown hgrow
  go_wp2_with fail
  go_loopw [6, 7] (fun c i wr => ∃ (k cv : Nat) (s : List Nat), k ≤ a.length ∧ i = .int .i64 k ∧ c = .int .u64 cv ∧ Hid (SubJ a b s a.length k cv) ∧ Hid (wr.ownsRow w.heap.size 36 1 (.slice (some ⟨w.heap.size, 0, none⟩) a.length a.length) a.length (dgV s)) ∧ Hid (Below w.heap.size w wr)) (fun _ i _ => a.length - (intOf i).toNat)
  case atStart => exact ⟨0, 0, _, Nat.zero_le _, rfl, rfl, SubJ.start a b _, OW0.out, B0.out⟩
  case round =>
    clear OW0 B0
    obtain ⟨k, cv, s, hk, rfl, rfl, AI, OW, BW⟩ := hrel
    by_cases hlt : k < a.length
    · have h1 := getD_lt a HA.out.dg k
      have h2 := getD_lt b HB.out.dg k
      have h3 := AI.out.c1
      have NX := Lib.hid (AI.out.next (x := a.getD k 0 + 4294967296 - b.getD k 0 - cv) HA.out.dg HB.out.dg hlt rfl)
      have CA : Hid (DgA wr A ca a) := HA.out.next BW.out
      have CB : Hid (DgA wr B cb b) := HB.out.next BW.out
      have hlt1 : (k : Int) < (a.length : Int) := by omega
      have KA := Lib.hid (digit_any A ca a k wr CA.out (by omega) (by omega))
      have KB := Lib.hid (digit_any B cb b k wr CB.out (by omega) (by omega))
      generalize a.getD k 0 = x at *
      generalize b.getD k 0 = y at *
      have q1 : wr.cell? ⟨w.heap.size, k, none⟩ = some (.int .u32 ((s.getD k 0 : Nat) : Int)) := dg_cell OW.out AI.out.len k hlt
      have q2 : wr.frozen? ⟨w.heap.size, k, none⟩ = false := OW.out.frozenAt k
      go_wp2_with (first
        | (go_at_call 35; (with_reducible refine KA.out.mono ?_); rintro e w' ⟨rfl, hw⟩; subst hw)
        | (go_at_call 35; (with_reducible refine KB.out.mono ?_); rintro e w' ⟨rfl, hw⟩; subst hw))
      go_roundw
      case rel =>
        obtain ⟨z1, z2⟩ := dg_store (k := k) (d := (x + 4294967296 - y - cv) % 4294967296) (v := ((x : Int) + 4294967296 - y - cv) % 4294967296) OW.out BW.out (by omega)
        exact ⟨k + 1, _, _, by omega, by go_num, congrArg (Value.int .u64) (by omega), NX.out, z1, z2⟩
      case measure => first | (simp [intOf]; done) | (simp [intOf]; omega)
    · obtain rfl : k = a.length := by omega
      have KT0 := trim_any _ _ s wr (DgA.of_own OW.out AI.out.len AI.out.dg) (by rw [AI.out.len]; omega)
      rw [AI.out.len] at KT0
      have KT := Lib.hid KT0
      clear KT0
      go_wp2_with (go_at_call 24; (with_reducible refine KT.out.mono ?_); rintro e w' ⟨rfl, hw⟩; subst hw)
      go_ret
      exact DgP.of (DgA.of_own OW.out AI.out.len AI.out.dg) BW.out (AI.out.done HA.out.dg HB.out.dg rfl hlb HLE.out)

end Go.Proofs.Ytifdimpfgglieaa
