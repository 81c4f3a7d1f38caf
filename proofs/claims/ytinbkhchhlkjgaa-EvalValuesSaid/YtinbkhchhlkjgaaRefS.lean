/-
  The contract of the reference's size.
-/
import Derived.Test.YtinbkhchhlkjgaaExpW
namespace Go.Proofs.Ytinbkhchhlkjgaa
set_option linter.unusedVariables false
set_option linter.unusedSimpArgs false
open Go.ChangeShapes Go.WideShapes Go.ChangeAt Go.RowKit
open Go.Deep (BT)

def RszPost (w : World) (lv : Int) (k : Fo) (e : Ending) (w' : World) : Prop :=
  ∃ n d : Int, e = .returned (.tuple #[.int .i64 n, .int .i64 d]) ∧ 1 ≤ n ∧ n ≤ 200 * (17 - lv) + 1 ∧ 1 ≤ d ∧ d ≤ 18 - lv ∧ (n ≤ 200 ∧ d + lv - 1 ≤ 16 ↔ 1 + (sz k : Int) ≤ 200 ∧ lv + dp k ≤ 16) ∧ (n ≤ 200 → d + lv - 1 ≤ 16 → n = 1 + sz k) ∧ Below w.heap.size w w'
def RszC (b o : Nat) (a : Nd) (k : Fo) : Prop := ∀ (w : World) (lv : Int), ExAt w b o a k → ExOk a k → 1 ≤ lv → lv ≤ 17 →
  Calls Try.prog 109 #[.agg #[.int .i64 a.op, .int .i64 a.num, .string a.name, .slice a.ptr (len k) a.cap], .int .i64 lv] w (RszPost w lv k)

set_option maxHeartbeats 2000000 in
set_option maxRecDepth 100000 in
theorem rsz_any (b o : Nat) (a : Nd) (k : Fo) : RszC b o a k := by
  refine tree_of (P := RszC) ?_ b o a k
  clear b o a k
  intro b o a k ih w lv hx hok h1 h2
  obtain ⟨op, num, name, ptr, cap⟩ := a
  show Calls Try.prog 109 #[.agg #[.int .i64 op, .int .i64 num, .string name, .slice ptr (len k) cap], .int .i64 lv] w _
  have IH := Lib.hid ih
  have HX := Lib.hid hx
  have HOK := Lib.hid hok
  clear ih hx hok
  have hk : len k ≤ 9223372036854775807 := HOK.out.1.2.2.2
  by_cases h16 : 16 < lv
  · go_enter Try.func109, Try.ntmps109
    go_wp2
    go_ret2
    exact ⟨1, 1, rfl, by omega, by omega, by omega, by omega, by omega, by omega, (Below.refl _ _).alloc (Nat.le_refl _) _⟩
  · go_enter Try.func109, Try.ntmps109
    go_wp2_with fail
    go_loopw [6, 7, 8] (fun n d i wr => ∃ (j : Nat) (r : Fo) (m q : Int), i = .int .i64 j ∧ n = .int .i64 m ∧ d = .int .i64 q ∧ 1 ≤ m ∧ m ≤ 200 * (17 - lv) + 1 ∧ 1 ≤ q ∧ q ≤ 18 - lv ∧ wr.cell? ⟨w.heap.size, 3, none⟩ = some (.slice ptr (len k) cap) ∧ w.heap.size < wr.heap.size ∧
      Hid (j + len r = len k ∧ FoAt wr r b (o + j * 4) ∧ FoOk r ∧ AllT RszC r ∧ Below w.heap.size w wr ∧ (1 + (sz k : Int) ≤ 200 ∧ lv + dp k ≤ 16 ↔ m + sz r ≤ 200 ∧ q + lv - 1 ≤ 16 ∧ lv + dp r ≤ 16) ∧ (m ≤ 200 → q + lv - 1 ≤ 16 → m + sz r = 1 + sz k))) (fun _ _ i _ => len k - (intOf i).toNat)
    case atStart =>
      refine ⟨0, k, 1, 1, rfl, rfl, rfl, by omega, by omega, by omega, by omega, by simp, by simp, by omega, ?_, HOK.out.2, IH.out, (Below.refl _ _).alloc (Nat.le_refl _) _, by omega, by omega⟩
      rw [Nat.zero_mul, Nat.add_zero]
      exact HX.out.2.next ((Below.refl _ _).alloc (Nat.le_refl _) _)
    case round =>
      obtain ⟨j, r, m, q, rfl, rfl, rfl, hm1, hm2, hq1, hq2, hc, hsz, HR⟩ := hrel
      cases r with
      | nil =>
        have hj : ¬ (j : Int) < (len k : Int) := by have := HR.out.1; simp [len] at this; omega
        go_wp2
        go_ret2
        obtain ⟨-, -, -, -, g5, g6, g7⟩ := HR.out
        simp only [sz, dp] at g6 g7
        exact ⟨m, q, rfl, hm1, hm2, hq1, hq2, by omega, by omega, g5⟩
      | node b1 o1 a1 k1 r1 =>
        have hj : j < len k := by have := HR.out.1; simp [len] at this; omega
        obtain rfl : ptr = some ⟨b, o, none⟩ := HX.out.1 (by rintro rfl; simp [len] at hj)
        obtain ⟨⟨c0, c1, c2, c3⟩, hp1, hk1, hr1⟩ := HR.out.2.1
        have X1 : Hid (ExAt wr b1 o1 a1 k1) := ⟨hp1, hk1⟩
        have N1 := Lib.hid hr1
        clear hp1 hk1 hr1
        have hj1 : (j : Int) < (len k : Int) := by omega
        by_cases hm : m ≤ 200
        · go_wp2_with fail
          refine (HR.out.2.2.2.1.1 _ (lv + 1) X1.out ⟨HR.out.2.2.1.1, HR.out.2.2.1.2.1⟩ (by omega) (by omega)).mono ?_
          rintro e w1 ⟨n1, d1, rfl, n2, n3, n4, n5, n6, n7, hb⟩
          have hc' : w1.cell? ⟨w.heap.size, 3, none⟩ = some (.slice (some ⟨b, o, none⟩) (len k) cap) := by
            rw [hb.cell (p := ⟨w.heap.size, 3, none⟩) hsz, hc]
          have hz' : w.heap.size < w1.heap.size := Nat.lt_of_lt_of_le hsz hb.size
          have N2 := Lib.hid (N1.out.next hb)
          have B2 := Lib.hid (HR.out.2.2.2.2.1.trans (hb.mono (Nat.le_of_lt hsz)))
          have K := Lib.hid (And.intro n6 n7)
          clear hc c0 c1 c2 c3 hb hsz X1 N1 n6 n7
          by_cases hd : q < d1 + 1
          all_goals
            go_wp2
            go_roundw
            case rel =>
              obtain ⟨n6, n7⟩ := K.out
              obtain ⟨g1, -, g3, g4, -, g6, g7⟩ := HR.out
              simp only [len] at g1
              have e1 : sz (BT.node b1 o1 a1 k1 r1) = 1 + sz k1 + sz r1 := rfl
              have e2 : dp (BT.node b1 o1 a1 k1 r1) = max (1 + dp k1) (dp r1) := rfl
              rw [e1, e2] at g6
              rw [e1] at g7
              refine ⟨j + 1, r1, m + n1, _, by go_num, rfl, rfl, by omega, by omega, by omega, by omega, hc', hz', by omega, ?_, g3.2.2, g4.2, B2.out, by omega, by omega⟩
              rw [Nat.add_mul, Nat.one_mul, ← Nat.add_assoc]; exact N2.out
            case measure => simp [intOf]; omega
        · go_wp2
          go_ret2
          obtain ⟨-, -, -, -, g5, g6, g7⟩ := HR.out
          exact ⟨m, q, rfl, hm1, hm2, hq1, hq2, by omega, by omega, g5⟩

end Go.Proofs.Ytinbkhchhlkjgaa
