/-
  The contracts of pairinglaw12.LightExpr and pairinglaw13.LightConsts: each returns some bool.
-/
import Derived.Test.YtfoedbfkddoibaaGreatGg
namespace Go.Proofs.YtfoedbfkddoibaaGreat
set_option linter.unusedVariables false
set_option linter.unusedSimpArgs false
open Go.ChangeShapes Go.WideShapes Go.ChangeAt Go.RowKit
open Go.Deep (BT)

set_option maxHeartbeats 2000000 in
set_option maxRecDepth 100000 in
theorem size_any (b o : Nat) (a : Nd) (k : Fo) : ∀ w : World, ExAt w b o a k → ExOk a k → Calls Tryz.prog 19 #[.agg #[.int .i64 a.op, .int .i64 a.num, .string a.name, .slice a.ptr (len k) a.cap]] w (SomeI w) := by
  refine tree_of (P := fun b o a k => ∀ w : World, ExAt w b o a k → ExOk a k → Calls Tryz.prog 19 #[.agg #[.int .i64 a.op, .int .i64 a.num, .string a.name, .slice a.ptr (len k) a.cap]] w (SomeI w)) ?_ b o a k
  clear b o a k
  intro b o a k ih w hx hok
  have IH := Lib.hid ih
  have HX := Lib.hid hx
  have HOK := Lib.hid hok
  clear ih hx hok
  have hk : len k ≤ 9223372036854775807 := HOK.out.1.2.2.2
  go_enter Tryz.func19, Tryz.ntmps19
  go_wp2_with fail
  go_loopw [3, 4] (fun n i wr => ∃ (j : Nat) (r : Fo) (m : Int), i = .int .i64 j ∧ n = .int .i64 m ∧ (-9223372036854775808 ≤ m ∧ m ≤ 9223372036854775807) ∧ wr.cell? ⟨w.heap.size, 3, none⟩ = some (.slice a.ptr (len k) a.cap) ∧ w.heap.size < wr.heap.size ∧
      Hid (j + len r = len k ∧ FoAt wr r b (o + j * 4) ∧ FoOk r ∧ AllT (fun b o a k => ∀ w : World, ExAt w b o a k → ExOk a k → Calls Tryz.prog 19 #[.agg #[.int .i64 a.op, .int .i64 a.num, .string a.name, .slice a.ptr (len k) a.cap]] w (SomeI w)) r ∧ Below w.heap.size w wr)) (fun _ i _ => len k - (intOf i).toNat)
  case atStart =>
    refine ⟨0, k, 1, rfl, rfl, by omega, by simp, by simp, by omega, ?_, HOK.out.2, IH.out, (Below.refl _ _).alloc (Nat.le_refl _) _⟩
    rw [Nat.zero_mul, Nat.add_zero]
    exact HX.out.2.next ((Below.refl _ _).alloc (Nat.le_refl _) _)
  case round =>
    obtain ⟨j, r, m, rfl, rfl, hm, hc, hsz, HR⟩ := hrel
    cases r with
    | nil =>
      have hj : ¬ (j : Int) < (len k : Int) := by have := HR.out.1; simp [len] at this; omega
      go_wp2
      go_ret
      exact ⟨m, hm, rfl, HR.out.2.2.2.2⟩
    | node b1 o1 a1 k1 r1 =>
      have hj : j < len k := by have := HR.out.1; simp [len] at this; omega
      have hp : a.ptr = some ⟨b, o, none⟩ := HX.out.1 (by rintro rfl; simp [len] at hj)
      rw [hp] at hc
      clear hp
      obtain ⟨⟨c0, c1, c2, c3⟩, hp1, hk1, hr1⟩ := HR.out.2.1
      have X1 : Hid (ExAt wr b1 o1 a1 k1) := ⟨hp1, hk1⟩
      have N1 := Lib.hid hr1
      clear hp1 hk1 hr1
      have hj1 : (j : Int) < (len k : Int) := by omega
      by_cases hm1 : m < 1000
      · go_wp2_with fail
        refine (HR.out.2.2.2.1.1 _ X1.out ⟨HR.out.2.2.1.1, HR.out.2.2.1.2.1⟩).mono ?_
        rintro e w1 ⟨m1, hm2, rfl, hb⟩
        have hc' : w1.cell? ⟨w.heap.size, 3, none⟩ = some (.slice a.ptr (len k) a.cap) := by
          rw [hb.cell (p := ⟨w.heap.size, 3, none⟩) hsz, hc, HX.out.1 (by rintro rfl; simp [len] at hj)]
        have hz' : w.heap.size < w1.heap.size := Nat.lt_of_lt_of_le hsz hb.size
        have N2 := Lib.hid (N1.out.next hb)
        have B2 := Lib.hid (HR.out.2.2.2.2.trans (hb.mono (Nat.le_of_lt hsz)))
        clear hc c0 c1 c2 c3 hb hsz X1 N1
        go_wp2
        go_roundw
        case rel =>
          refine ⟨j + 1, r1, wrap64 (m + m1), by go_num, rfl, wrap_bd _, hc', hz', ?_, ?_, HR.out.2.2.1.2.2, HR.out.2.2.2.1.2, B2.out⟩
          · have := HR.out.1; simp [len] at this; omega
          · rw [Nat.add_mul, Nat.one_mul, ← Nat.add_assoc]; exact N2.out
        case measure => simp [intOf]; omega
      · go_wp2
        go_ret
        exact ⟨m, hm, rfl, HR.out.2.2.2.2⟩

set_option maxHeartbeats 2000000 in
set_option maxRecDepth 100000 in
theorem lightx_any (b o : Nat) (a : Nd) (k : Fo) (w : World) (hx : ExAt w b o a k) (hok : ExOk a k) : Calls Tryz.prog 8 #[.agg #[.int .i64 a.op, .int .i64 a.num, .string a.name, .slice a.ptr (len k) a.cap]] w (SomeB w) := by
  have HX := Lib.hid hx
  have HOK := Lib.hid hok
  clear hx hok
  have B0 : Hid (Below w.heap.size w (w.alloc (.cells #[.int .i64 a.op, .int .i64 a.num, .string a.name, .slice a.ptr (len k) a.cap] 25))) := (Below.refl _ _).alloc (Nat.le_refl _) _
  go_enter Tryz.func8, Tryz.ntmps8
  go_wp2_with fail
  refine (size_any b o a k _ (HX.out.next B0.out) HOK.out).mono ?_
  rintro e w1 ⟨m, hm, rfl, hb⟩
  have B1 := Lib.hid (B0.out.trans (hb.mono B0.out.size))
  clear hb
  go_wp2
  go_ret
  exact ⟨_, rfl, B1.out⟩

set_option maxHeartbeats 2000000 in
set_option maxRecDepth 100000 in
theorem lightcs_any (cs : List Cn) (p : Option Addr) (cap : Nat) (w : World) (hcs : CsV w cs p) : Calls Tryz.prog 7 #[.slice p cs.length cap] w (SomeB w) := by
  have HCS := Lib.hid hcs
  have hsm := hcs.small
  clear hcs
  go_enter Tryz.func7, Tryz.ntmps7
  go_wp2_with fail
  go_loopw [3, 4] (fun n i wr => ∃ (j : Nat) (m : Int), j ≤ cs.length ∧ i = .int .i64 j ∧ n = .int .i64 m ∧ Hid (Below w.heap.size w wr)) (fun _ i _ => cs.length - (intOf i).toNat)
  case atStart => exact ⟨0, 0, by omega, rfl, rfl, Below.refl _ _⟩
  case round =>
    obtain ⟨j, m, hj, rfl, rfl, HB⟩ := hrel
    by_cases hlt : j < cs.length
    · by_cases hm1 : m < 1000
      · obtain ⟨c, hc⟩ : ∃ c, cs[j]? = some c := ⟨_, List.getElem?_eq_getElem (by omega)⟩
        obtain ⟨B, O, rfl, ⟨d0, d1, d2, d3, d4⟩, hx⟩ := (HCS.out.next HB.out).get hc
        have OK := Lib.hid (HCS.out.ok c (List.mem_of_getElem? hc))
        have HX := Lib.hid hx
        have hj1 : (j : Int) < (cs.length : Int) := by omega
        clear hc hx
        go_wp2_with fail
        refine (size_any c.b c.o c.a c.k _ HX.out OK.out.2).mono ?_
        rintro e w1 ⟨m1, hm2, rfl, hb⟩
        have B2 := Lib.hid (HB.out.trans (hb.mono HB.out.size))
        clear hb d0 d1 d2 d3 d4
        go_wp2
        go_roundw
        case rel => exact ⟨j + 1, _, by omega, by go_num, rfl, B2.out⟩
        case measure => simp [intOf]; omega
      · have hj1 : (j : Int) < (cs.length : Int) := by omega
        go_wp2
        go_ret
        exact ⟨_, rfl, HB.out⟩
    · have hj1 : ¬ (j : Int) < (cs.length : Int) := by omega
      go_wp2
      go_ret
      exact ⟨_, rfl, HB.out⟩

end Go.Proofs.YtfoedbfkddoibaaGreat
