/-
  An argument that is a list of tokens, opened to what lies in memory; the walk of TokensValid.
-/
import Derived.Test.YtlhijbfphpkndaaDoorTvG
import Derived.ChangeArms
import Derived.Deep.Slices
import Derived.SizedLaws
import Derived.OpenShut
import Derived.WalkArith
namespace Go.Proofs.YtlhijbfphpkndaaDoor
set_option linter.unusedVariables false
set_option linter.unusedSimpArgs false
set_option maxRecDepth 100000
open Go.ChangeShapes Go.WideShapes Go.ChangeAt Go.RowKit

theorem i64_of_wf {x : Int} (h : (Lit.int .i64 x).wf = true) : -9223372036854775808 ≤ x ∧ x ≤ 9223372036854775807 := by
  exact bounds_i64 h
theorem addr_add0 (a : Addr) (n : Nat) (h : a.spot = none) : a.add n = ⟨a.block, a.off + n, none⟩ := by
  obtain ⟨b, o, s⟩ := a
  dsimp only at h
  subst h
  unfold Addr.add
  by_cases q : n = 0
  · subst q; rfl
  · rw [if_neg q]
theorem spot_none {w : World} {a : Addr} {v : Value} (h : w.cell? a = some v) : a.spot = none := by
  unfold World.cell? at h
  split at h
  · cases q : a.spot with
    | none => rfl
    | some z => rw [q] at h; simp at h
  · cases h
theorem tkrow_of {w : World} (n : Nat) (B O : Nat) (h : ∀ i, i < n → ∃ (k : Int) (s : ByteArray) (x a : Int), w.cell? ⟨B, O + i * 4, none⟩ = some (.int .i64 k) ∧ w.cell? ⟨B, O + i * 4 + 1, none⟩ = some (.string s) ∧ w.cell? ⟨B, O + i * 4 + 2, none⟩ = some (.int .i64 x) ∧ w.cell? ⟨B, O + i * 4 + 3, none⟩ = some (.int .i64 a) ∧ s.size ≤ 9223372036854775807 ∧ -9223372036854775808 ≤ x ∧ x ≤ 9223372036854775807) :
    ∃ D : List Tk.T4, D.length = n ∧ (∀ j u, (tkC D)[j]? = some u → w.cell? ⟨B, O + j, none⟩ = some u) ∧ TkOk D := by
  induction n generalizing O with
  | zero => exact ⟨[], rfl, (fun j u hu => by simp [tkC] at hu), fun c hc => by cases hc⟩
  | succ n ih =>
    obtain ⟨T, h1, h2, h3⟩ := ih (O + 4) (fun i hi => by
      have := h (i + 1) (by omega)
      rw [show O + (i + 1) * 4 = O + 4 + i * 4 by omega] at this
      exact this)
    obtain ⟨k, s, x, a, k0, k1, k2, k3, hs, hx0, hx1⟩ := h 0 (by omega)
    simp only [Nat.zero_mul, Nat.add_zero] at k0 k1 k2 k3
    refine ⟨⟨⟨k, s, x⟩, a⟩ :: T, by simp [h1], fun j u hu => ?_, fun c hc => ?_⟩
    · have e : tkC (⟨⟨k, s, x⟩, a⟩ :: T) = [.int .i64 k, .string s, .int .i64 x, .int .i64 a] ++ tkC T := by simp [tkC]
      rw [e] at hu
      match j with
      | 0 => simp at hu; subst hu; exact k0
      | 1 => simp at hu; subst hu; exact k1
      | 2 => simp at hu; subst hu; exact k2
      | 3 => simp at hu; subst hu; exact k3
      | j + 4 =>
        rw [List.getElem?_append_right (by simp)] at hu
        have := h2 j u (by simpa using hu)
        rw [show O + 4 + j = O + (j + 4) by omega] at this
        exact this
    · rcases List.mem_cons.1 hc with rfl | hc
      · exact ⟨⟨hx0, hx1⟩, hs⟩
      · exact h3 c hc
section
variable {H : Type} {enc : TypeId × Value → H} {w : World} {base : Nat} {spare : Nat → Bool} {held : Bool}
theorem Tryd.cellsT : Tryd.prog.cellsOf 24 = 4 := by kernel_rfl
theorem Tryd.cellsI : Tryd.prog.cellsOf 3 = 1 := by kernel_rfl
theorem Tryd.cellsS : Tryd.prog.cellsOf 9 = 1 := by kernel_rfl
theorem open_tk (fuel : Nat) (cs : List Value) (x : DataW H × List MemPlace) (h : DataW.trod enc Tryd.prog w base spare held fuel 25 cs = some x) :
    ∃ (D : List Tk.T4) (p : Option Addr) (cap : Nat), cs = [.slice p D.length cap] ∧ D.length ≤ cap ∧ (D ≠ [] → ∃ g O, p = some ⟨g, O, none⟩ ∧ ∀ j u, (tkC D)[j]? = some u → w.cell? ⟨g, O + j, none⟩ = some u) ∧ TkOk D ∧ D.length ≤ 9223372036854775807 := by
  rcases DataW.trod_slice Tryd.underlying25 h with ⟨rfl, -⟩ | ⟨a, n, cap, elems, rest, m, rfl, rfl, hx, hb, hl, hm, hlen, hel, -, -⟩
  · exact ⟨[], none, 0, rfl, Nat.zero_le _, fun q => absurd rfl q, (fun c hc => by cases hc), Nat.zero_le _⟩
  · have key : ∀ i, i < n → ∃ (k : Int) (s : ByteArray) (x y : Int), w.cell? (a.add (i * 4)) = some (.int .i64 k) ∧ w.cell? ((a.add (i * 4)).add 1) = some (.string s) ∧ w.cell? ((a.add (i * 4)).add 2) = some (.int .i64 x) ∧ w.cell? ((a.add (i * 4)).add 3) = some (.int .i64 y) ∧ s.size ≤ 9223372036854775807 ∧ -9223372036854775808 ≤ x ∧ x ≤ 9223372036854775807 := by
      intro i hi
      have q := hel i hi
      rw [List.getElem?_eq_getElem (by omega), Tryd.cellsT] at q
      obtain ⟨cs', hc, ht⟩ := Option.bind_eq_some_iff.1 q
      obtain ⟨-, h4, hcell⟩ := World.cells?_some hc
      obtain ⟨xs, n', rfl, -, -, hxl, hf⟩ := DataW.trod_struct Tryd.underlying24 ht
      match cs', h4, xs, hxl with
      | [c0, c1, c2, c3], _, [y0, y1, y2, y3], _ =>
        have g0 : DataW.trod enc Tryd.prog w base spare held n' 3 (List.take (Tryd.prog.cellsOf 3) (List.drop 0 [c0, c1, c2, c3])) = some y0 := hf 0 _ rfl
        have g1 : DataW.trod enc Tryd.prog w base spare held n' 9 (List.take (Tryd.prog.cellsOf 9) (List.drop 1 [c0, c1, c2, c3])) = some y1 := hf 1 _ rfl
        have g2 : DataW.trod enc Tryd.prog w base spare held n' 3 (List.take (Tryd.prog.cellsOf 3) (List.drop 2 [c0, c1, c2, c3])) = some y2 := hf 2 _ rfl
        have g3 : DataW.trod enc Tryd.prog w base spare held n' 3 (List.take (Tryd.prog.cellsOf 3) (List.drop 3 [c0, c1, c2, c3])) = some y3 := hf 3 _ rfl
        rw [Tryd.cellsS] at g1
        rw [Tryd.cellsI] at g0 g2 g3
        simp only [List.drop, List.take] at g0 g1 g2 g3
        obtain ⟨k, e0, -, -⟩ := DataW.trod_int Tryd.underlying3 g0
        obtain ⟨s, e1, -, w1⟩ := DataW.trod_string Tryd.underlying9 g1
        obtain ⟨x, e2, -, w2⟩ := DataW.trod_int Tryd.underlying3 g2
        obtain ⟨y, e3, -, -⟩ := DataW.trod_int Tryd.underlying3 g3
        simp only [List.cons.injEq, and_true] at e0 e1 e2 e3
        subst e0 e1 e2 e3
        refine ⟨k, s, x, y, ?_, hcell 1 (by omega), hcell 2 (by omega), hcell 3 (by omega), w1, (i64_of_wf w2).1, (i64_of_wf w2).2⟩
        have := hcell 0 (by omega)
        simpa [Addr.add] using this
    by_cases h0 : n = 0
    · subst h0
      exact ⟨[], some a, cap, rfl, Nat.zero_le _, fun q => absurd rfl q, (fun c hc => by cases hc), Nat.zero_le _⟩
    · have hs : a.spot = none := by
        obtain ⟨k, s, x, y, q, -⟩ := key 0 (by omega)
        exact spot_none (by simpa [Addr.add] using q)
      obtain ⟨T, t1, t2, t3⟩ := tkrow_of (w := w) n a.block a.off (fun i hi => by
        obtain ⟨k, s, x, y, q0, q1, q2, q3, q4, q5, q6⟩ := key i hi
        rw [Go.Deep.add_add, addr_add0 _ _ hs, ← Nat.add_assoc] at q1 q2 q3
        rw [addr_add0 _ _ hs] at q0
        exact ⟨k, s, x, y, q0, q1, q2, q3, q4, q5, q6⟩)
      refine ⟨T, some a, cap, by rw [t1], by omega, fun _ => ⟨a.block, a.off, ?_, t2⟩, t3, ?_⟩
      · obtain ⟨b, o, s⟩ := a
        dsimp only at hs
        subst hs
        rfl
      · have h9 : n ≤ maxLen := by omega
        unfold maxLen at h9
        omega
/-- An argument that is a list of tokens. -/
theorem open_tokens {v : Value} {d : DataW H} {p : List MemPlace} {r : Reach} {b0 : Nat} (hv : Value.okWide Tryd.prog w r b0 25 v) (h : DataW.Trod enc Tryd.prog w base spare held 25 v d p) :
    ∃ (D : List Tk.T4) (q : Option Addr) (cap : Nat), v = .slice q D.length cap ∧ (D.length ≤ 500 → TkAt w D (.slice q D.length cap)) ∧ TkOk D ∧ D.length ≤ 9223372036854775807 := by
  obtain ⟨a, n, cap, rfl⟩ := okWide_slice Tryd.underlying25 hv
  obtain ⟨fuel, hf⟩ := h
  obtain ⟨D, q, cap', he, h0, h1, h2, h3⟩ := open_tk fuel _ _ hf
  have he' : [Value.slice a n cap] = [Value.slice q D.length cap'] := he
  simp only [List.cons.injEq, and_true] at he'
  exact ⟨D, q, cap', he', fun hl => ⟨q, cap', rfl, h0, by omega, h1⟩, h2, h3⟩
end

set_option maxHeartbeats 2000000 in
theorem walk_tokensValid (D : List Tk.T4) (p : Option Addr) (cap : Nat) (w : World) (hD : D.length ≤ 500 → TkAt w D (.slice p D.length cap)) (hok : TkOk D) (hl : D.length ≤ 9223372036854775807) (ht : Tab w) :
    Calls Tryd.prog 4 #[.slice p D.length cap] w fun e w' => e = .returned (.bool true) ∧ Below w.heap.size w w' := by
  have AW := Lib.hid tawake_any
  have HO := Lib.hid hok
  have HT := Lib.hid ht
  clear hok ht
  by_cases h5 : D.length ≤ 500
  · have HD := Lib.hid (hD h5)
    have h5' : ¬ (500 : Int) < (D.length : Int) := by omega
    clear hD
    go_enter Tryd.func4, Tryd.ntmps4
    go_wp2_with fail
    go_loop [3] (fun i => ∃ j : Nat, i = .int .i64 j ∧ j ≤ D.length) (fun i => D.length - (intOf i).toNat)
    case atStart => exact ⟨0, rfl, Nat.zero_le _⟩
    case round =>
      obtain ⟨j, rfl, hj⟩ := hrel
      by_cases hlt : j < D.length
      · have hj' : (j : Int) < (D.length : Int) := by omega
        have hj0 : (0 : Int) ≤ (j : Int) := by omega
        obtain ⟨t, htD⟩ : ∃ t, D[j]? = some t := ⟨_, List.getElem?_eq_getElem hlt⟩
        obtain ⟨g, O, rfl, c0, c1, c2, c3⟩ := HD.out.get htD
        clear htD
        by_cases h2 : 200 < t.t.text.size
        · have h2' : (200 : Int) < (t.t.text.size : Int) := by omega
          go_wp2_with fail
          refine (AW.out w).mono ?_
          rintro e w4 ⟨rfl, b4⟩
          have B4 := Lib.hid b4
          clear b4
          go_wp2
          go_ret
          exact ⟨rfl, B4.out⟩
        · have h2' : ¬ (200 : Int) < (t.t.text.size : Int) := by omega
          go_wp2
          go_round
          case rel => exact ⟨j + 1, by go_num, by omega⟩
          case measure => simp [intOf]; omega
      · have hj' : ¬ (j : Int) < (D.length : Int) := by omega
        go_wp2_with fail
        refine (tformat_any D p cap w HD.out HO.out HT.out).mono ?_
        rintro e w1 ⟨⟨c1, v1, rfl⟩, hb⟩
        have V1 := Lib.hid v1
        have B1 := Lib.hid hb
        clear v1 hb
        obtain ⟨S, hS⟩ : ∃ S, (if c1 = 0 then jn D else ⟨#[]⟩) = S := ⟨_, rfl⟩
        rw [hS]
        have HS := Lib.hid hS
        clear hS
        go_wp2_with fail
        refine (rformat_any D p cap w1 (HD.out.next B1.out) HO.out (HT.out.next B1.out)).mono ?_
        rintro e w2 ⟨⟨c2, v2, rfl⟩, hb⟩
        have B2 := Lib.hid (B1.out.trans (hb.mono B1.out.size))
        obtain rfl : c1 = c2 := V1.out.uniq v2
        clear v2 hb
        rw [HS.out]
        clear HS
        go_wp2_with fail
        refine (tvalidate_any D p cap w2 (HD.out.next B2.out) HO.out (HT.out.next B2.out)).mono ?_
        rintro e w3 ⟨⟨c3, rfl, v3⟩, hb⟩
        have B3 := Lib.hid (B2.out.trans (hb.mono B2.out.size))
        obtain rfl : c1 = c3 := V1.out.uniq v3
        clear v3 hb
        go_wp2_with fail
        refine (rvalidate_any D p cap w3 (HD.out.next B3.out) HO.out (HT.out.next B3.out)).mono ?_
        rintro e w4 ⟨⟨c4, rfl, v4⟩, hb⟩
        have B4 := Lib.hid (B3.out.trans (hb.mono B3.out.size))
        obtain rfl : c1 = c4 := V1.out.uniq v4
        clear v4 hb
        go_wp2_with fail
        refine (AW.out w4).mono ?_
        rintro e w5 ⟨rfl, hb⟩
        have B5 := Lib.hid (B4.out.trans (hb.mono B4.out.size))
        clear hb
        go_wp2
        go_ret
        exact ⟨rfl, B5.out⟩
  · have h5' : (500 : Int) < (D.length : Int) := by omega
    go_enter Tryd.func4, Tryd.ntmps4
    go_wp2_with fail
    refine (AW.out w).mono ?_
    rintro e w4 ⟨rfl, b4⟩
    have B4 := Lib.hid b4
    clear b4
    go_wp2
    go_ret
    exact ⟨rfl, B4.out⟩

end Go.Proofs.YtlhijbfphpkndaaDoor
