/-
  pairingbase.Attrs, with bounds of the values.
-/
import Derived.Test.YtfoedbfkddoibaaGl
namespace Go.Proofs.Ytfoedbfkddoibaa
set_option linter.unusedVariables false
set_option linter.unusedSimpArgs false
open Go.ChangeShapes Go.WideShapes Go.ChangeAt Go.RowKit
open Go.Deep (BT)

def AvB (a : Av) : Prop := AvOk a ∧ 0 ≤ a.val ∧ a.val ≤ 1440
def BAP2 (w : World) (sc : Int) (e : Ending) (w' : World) : Prop := ∃ (L : List Av) (p : Option Addr) (cap : Nat), e = .returned (.slice p L.length cap) ∧ L.length ≤ cap ∧ AvV w' L p ∧ (L.map fun a => a.name) = ((Att.listL sc).map fun l => (⟨l.toArray⟩ : ByteArray)) ∧ (∀ a ∈ L, 0 ≤ a.val ∧ a.val ≤ 1440) ∧ Below w.heap.size w w'
theorem tmod_b (m : Nat) (k : Int) (h0 : 0 < k) (hk : k ≤ 1440) : i64B ((m : Int).tmod k) ∧ 0 ≤ (m : Int).tmod k ∧ (m : Int).tmod k ≤ 1440 := by
  have h := tmod_in (m : Int) k (by omega) h0
  unfold i64B
  omega
set_option maxHeartbeats 4000000 in
set_option maxRecDepth 100000 in
theorem battrs2_any (v : Value) (n : Nat) (sc : Int) (w : World) (h : IntsL w v n w.heap.size) (hs : sc = 1 ∨ sc = 2 ∨ sc = 3) : Calls Try.prog 12 #[v, .int .i64 sc] w (BAP2 w sc) := by
  have H := Lib.hid h
  obtain ⟨p, cap, rfl, hn63, -⟩ := h
  obtain ⟨i0, hi, hi0, hi1, hi2⟩ := info_parts Try.infoAt
  have hl25 := list_bd sc
  have hl20 := Lib.hid (list_wf sc hs)
  clear hs
  go_enter Try.func12, Try.ntmps12
  go_wp2_with fail
  refine (rattrs_any sc w).mono ?_
  rintro e w1 ⟨nv, rfl, hst, hb⟩
  have B1 := Lib.hid hb
  have ST := Lib.hid hst
  have hsl : ∃ q c, nv = .slice q (Att.listL sc).length c := by
    rcases hst with ⟨h1, h2⟩ | ⟨g, c, h1, -⟩
    · exact ⟨none, 0, by rw [h2, h1]; rfl⟩
    · exact ⟨_, c, h1⟩
  obtain ⟨nq, nc, rfl⟩ := hsl
  clear hb hst
  go_wp2_with fail
  go_loopw [5, 7] (fun u i wr => ∃ (vx : Value) (j : Nat) (D : List Av), vx = u ∧ i = .int .i64 j ∧ j ≤ (Att.listL sc).length ∧ w1.heap.size ≤ wr.heap.size ∧
    Hid (wr.ownsRow w1.heap.size 39 2 vx j (avC D) ∧ Below w1.heap.size w1 wr ∧ (∀ a ∈ D, AvB a) ∧ (D.map fun a => a.name) = (((Att.listL sc).take j).map fun l => (⟨l.toArray⟩ : ByteArray)))) (fun _ i _ => (Att.listL sc).length - (intOf i).toNat)
  case atStart => exact ⟨_, 0, [], rfl, rfl, by omega, Nat.le_refl _, World.ownsRow_nil _ _ _ _, Below.refl _ _, (fun a ha => by cases ha), rfl⟩
  case round =>
    obtain ⟨vx, j, D, rfl, rfl, hj, hsz, HR⟩ := hrel
    by_cases hlt : j < (Att.listL sc).length
    · obtain ⟨l, hl⟩ : ∃ l, (Att.listL sc)[j]? = some l := ⟨_, List.getElem?_eq_getElem hlt⟩
      have hj1 : (j : Int) < ((Att.listL sc).length : Int) := by omega
      have hj0 : (0 : Int) ≤ (j : Int) := by omega
      have SR : Hid (StrsAt wr (.slice nq (Att.listL sc).length nc) (Att.listL sc)) := ST.out.next HR.out.2.1
      obtain ⟨g, rfl, kj⟩ : ∃ g, nq = some ⟨g, 0, none⟩ ∧ wr.cell? ⟨g, j, none⟩ = some (.string ⟨l.toArray⟩) := by
        rcases SR.out with ⟨h1, -⟩ | ⟨g, c, h1, h2⟩
        · rw [h1] at hlt; simp at hlt
        · injection h1 with q1 q2 q3
          exact ⟨g, q1, h2 j _ (by simp [strV, hl])⟩
      have LS := Lib.hid (hl20.out l (List.mem_of_getElem? hl))
      have hsz20 : Hid ((⟨l.toArray⟩ : ByteArray).size ≤ 9223372036854775807) := by have := LS.out.2; show l.toArray.size ≤ _; simp; omega
      have TK : Hid ((((Att.listL sc).take (j + 1)).map fun l => (⟨l.toArray⟩ : ByteArray)) = (D.map fun a => a.name) ++ [⟨l.toArray⟩]) := by
        unfold Hid; rw [HR.out.2.2.2, List.take_add_one, hl]; simp
      clear hl
      generalize (⟨l.toArray⟩ : ByteArray) = s at *
      go_wp2_with fail
      refine (ratt_any sc s wr hsz20.out).mono ?_
      rintro e w2 ⟨rfl, hb⟩
      have B2 := Lib.hid (HR.out.2.1.trans (hb.mono hsz))
      have hz2 : w1.heap.size ≤ w2.heap.size := Nat.le_trans hsz hb.size
      have O2 := Lib.hid (own_below HR.out.1 hb)
      have k2 : w2.cell? ⟨g, j, none⟩ = some (.string s) := by rw [hb.cell (block_lt_of_cell kj)]; exact kj
      have hglt := block_lt_of_cell kj
      clear hb kj
      generalize atS sc s = kd at *
      generalize atE sc s = ke at *
      have I2 : Hid (IntsL w2 (.slice p n cap) n w.heap.size) := (H.out.below B1.out (Nat.le_refl _)).below B2.out B1.out.size
      go_wp2_with fail
      refine (at_any (.slice p n cap) n w.heap.size j (j : Int) w2 I2.out (by omega) rfl).mono ?_
      rintro e w3 ⟨⟨m, rfl⟩, hb⟩
      have B3 := Lib.hid (B2.out.trans (hb.mono hz2))
      have hz3 : w1.heap.size ≤ w3.heap.size := Nat.le_trans hz2 hb.size
      have O3 := Lib.hid (own_below O2.out hb)
      have k3 : w3.cell? ⟨g, j, none⟩ = some (.string s) := by rw [hb.cell (block_lt_of_cell k2)]; exact k2
      have hglt3 : g < w3.heap.size := block_lt_of_cell k3
      clear hb k2
      by_cases q1 : kd = 1
      · have b1 : (kd == 1) = true := by simp [q1]
        clear q1
        obtain ⟨y, hy⟩ : ∃ y, (m : Int).tmod 7 = y := ⟨_, rfl⟩
        have YB : Hid (i64B y ∧ 0 ≤ y ∧ y ≤ 1440) := by unfold Hid; rw [← hy]; exact tmod_b m 7 (by omega) (by omega)
        have AK : Hid (Below w3.heap.size w3 (w3.alloc (.cells #[.string s, .int .i64 y] 39))) := (Below.refl _ _).alloc (Nat.le_refl _) _
        go_wp2_with (at_builtin; refine wpList_append_own _ rfl _ _ 33 rfl w1.heap.size 39 i0 (.agg #[.string ⟨#[]⟩, .int .i64 0]) 2 24 Try.underlying33 hi hi0 hi1 hi2 rfl (by decide) _ _ _ rfl (O3.out.alloc _) ⟨w3.heap.size, 0, none⟩ 1 1 [.string s, .int .i64 y] rfl rfl ?c1 ?c2 ?c3 ?c4 ?c5 ?_)
        case c1 =>
          intro q u hu
          match q with
          | 0 => simp at hu; subst hu; simp [Addr.add]
          | 1 => simp at hu; subst hu; simp [Addr.add]
          | q + 2 => simp at hu
        case c2 => intro u hu; simp at hu; rcases hu with rfl | rfl <;> rfl
        case c3 => unfold maxLen; omega
        case c4 => omega
        case c5 => simp; omega
        intro v' w4 hown hgrow hnil
        have B4 : Hid (Below w1.heap.size w1 w4) := (B3.out.alloc hz3 (.cells #[.string s, .int .i64 y] 39)).grown hgrow (by simp; omega) (fun m hm => (O3.out.lt m hm).1)
        have O4 : Hid (w4.ownsRow w1.heap.size 39 2 v' (j + 1) (avC (D ++ [⟨s, y⟩]))) := by
          have h9 : avC D ++ [Value.string s, .int .i64 y] = avC (D ++ [⟨s, y⟩]) := by simp [avC]
          rw [h9] at hown; exact hown
        have hz4 : w1.heap.size ≤ w4.heap.size := B4.out.size
        clear hown hgrow hnil
        go_wp2
        go_roundw
        case rel =>
          refine ⟨_, j + 1, D ++ [⟨s, y⟩], rfl, by go_num, by omega, hz4, O4.out, B4.out, ?_, ?_⟩
          · intro a ha
            rcases List.mem_append.1 ha with ha | ha
            · exact HR.out.2.2.1 a ha
            · rw [List.mem_singleton.1 ha]; exact ⟨⟨hsz20.out, YB.out.1⟩, YB.out.2⟩
          · rw [TK.out]; simp
        case measure => simp [intOf]; omega
      · have b1 : (kd == 1) = false := by simp [q1]
        clear q1
        by_cases q2 : kd = 2
        · have b2 : (kd == 2) = true := by simp [q2]
          clear q2
          obtain ⟨y, hy⟩ : ∃ y, (m : Int).tmod 900 = y := ⟨_, rfl⟩
          have YB : Hid (i64B y ∧ 0 ≤ y ∧ y ≤ 1440) := by unfold Hid; rw [← hy]; exact tmod_b m 900 (by omega) (by omega)
          have AK : Hid (Below w3.heap.size w3 (w3.alloc (.cells #[.string s, .int .i64 y] 39))) := (Below.refl _ _).alloc (Nat.le_refl _) _
          go_wp2_with (at_builtin; refine wpList_append_own _ rfl _ _ 33 rfl w1.heap.size 39 i0 (.agg #[.string ⟨#[]⟩, .int .i64 0]) 2 24 Try.underlying33 hi hi0 hi1 hi2 rfl (by decide) _ _ _ rfl (O3.out.alloc _) ⟨w3.heap.size, 0, none⟩ 1 1 [.string s, .int .i64 y] rfl rfl ?c1 ?c2 ?c3 ?c4 ?c5 ?_)
          case c1 =>
            intro q u hu
            match q with
            | 0 => simp at hu; subst hu; simp [Addr.add]
            | 1 => simp at hu; subst hu; simp [Addr.add]
            | q + 2 => simp at hu
          case c2 => intro u hu; simp at hu; rcases hu with rfl | rfl <;> rfl
          case c3 => unfold maxLen; omega
          case c4 => omega
          case c5 => simp; omega
          intro v' w4 hown hgrow hnil
          have B4 : Hid (Below w1.heap.size w1 w4) := (B3.out.alloc hz3 (.cells #[.string s, .int .i64 y] 39)).grown hgrow (by simp; omega) (fun m hm => (O3.out.lt m hm).1)
          have O4 : Hid (w4.ownsRow w1.heap.size 39 2 v' (j + 1) (avC (D ++ [⟨s, y⟩]))) := by
            have h9 : avC D ++ [Value.string s, .int .i64 y] = avC (D ++ [⟨s, y⟩]) := by simp [avC]
            rw [h9] at hown; exact hown
          have hz4 : w1.heap.size ≤ w4.heap.size := B4.out.size
          clear hown hgrow hnil
          go_wp2
          go_roundw
          case rel =>
            refine ⟨_, j + 1, D ++ [⟨s, y⟩], rfl, by go_num, by omega, hz4, O4.out, B4.out, ?_, ?_⟩
            · intro a ha
              rcases List.mem_append.1 ha with ha | ha
              · exact HR.out.2.2.1 a ha
              · rw [List.mem_singleton.1 ha]; exact ⟨⟨hsz20.out, YB.out.1⟩, YB.out.2⟩
            · rw [TK.out]; simp
          case measure => simp [intOf]; omega
        · have b2 : (kd == 2) = false := by simp [q2]
          clear q2
          by_cases q3 : kd = 3
          · have b3 : (kd == 3) = true := by simp [q3]
            clear q3
            obtain ⟨y, hy⟩ : ∃ y, (m : Int).tmod 1440 = y := ⟨_, rfl⟩
            have YB : Hid (i64B y ∧ 0 ≤ y ∧ y ≤ 1440) := by unfold Hid; rw [← hy]; exact tmod_b m 1440 (by omega) (by omega)
            have AK : Hid (Below w3.heap.size w3 (w3.alloc (.cells #[.string s, .int .i64 y] 39))) := (Below.refl _ _).alloc (Nat.le_refl _) _
            go_wp2_with (at_builtin; refine wpList_append_own _ rfl _ _ 33 rfl w1.heap.size 39 i0 (.agg #[.string ⟨#[]⟩, .int .i64 0]) 2 24 Try.underlying33 hi hi0 hi1 hi2 rfl (by decide) _ _ _ rfl (O3.out.alloc _) ⟨w3.heap.size, 0, none⟩ 1 1 [.string s, .int .i64 y] rfl rfl ?c1 ?c2 ?c3 ?c4 ?c5 ?_)
            case c1 =>
              intro q u hu
              match q with
              | 0 => simp at hu; subst hu; simp [Addr.add]
              | 1 => simp at hu; subst hu; simp [Addr.add]
              | q + 2 => simp at hu
            case c2 => intro u hu; simp at hu; rcases hu with rfl | rfl <;> rfl
            case c3 => unfold maxLen; omega
            case c4 => omega
            case c5 => simp; omega
            intro v' w4 hown hgrow hnil
            have B4 : Hid (Below w1.heap.size w1 w4) := (B3.out.alloc hz3 (.cells #[.string s, .int .i64 y] 39)).grown hgrow (by simp; omega) (fun m hm => (O3.out.lt m hm).1)
            have O4 : Hid (w4.ownsRow w1.heap.size 39 2 v' (j + 1) (avC (D ++ [⟨s, y⟩]))) := by
              have h9 : avC D ++ [Value.string s, .int .i64 y] = avC (D ++ [⟨s, y⟩]) := by simp [avC]
              rw [h9] at hown; exact hown
            have hz4 : w1.heap.size ≤ w4.heap.size := B4.out.size
            clear hown hgrow hnil
            go_wp2
            go_roundw
            case rel =>
              refine ⟨_, j + 1, D ++ [⟨s, y⟩], rfl, by go_num, by omega, hz4, O4.out, B4.out, ?_, ?_⟩
              · intro a ha
                rcases List.mem_append.1 ha with ha | ha
                · exact HR.out.2.2.1 a ha
                · rw [List.mem_singleton.1 ha]; exact ⟨⟨hsz20.out, YB.out.1⟩, YB.out.2⟩
              · rw [TK.out]; simp
            case measure => simp [intOf]; omega
          · have b3 : (kd == 3) = false := by simp [q3]
            clear q3
            obtain ⟨y, hy⟩ : ∃ y, (m : Int).tmod 2 = y := ⟨_, rfl⟩
            have YB : Hid (i64B y ∧ 0 ≤ y ∧ y ≤ 1440) := by unfold Hid; rw [← hy]; exact tmod_b m 2 (by omega) (by omega)
            have AK : Hid (Below w3.heap.size w3 (w3.alloc (.cells #[.string s, .int .i64 y] 39))) := (Below.refl _ _).alloc (Nat.le_refl _) _
            go_wp2_with (at_builtin; refine wpList_append_own _ rfl _ _ 33 rfl w1.heap.size 39 i0 (.agg #[.string ⟨#[]⟩, .int .i64 0]) 2 24 Try.underlying33 hi hi0 hi1 hi2 rfl (by decide) _ _ _ rfl (O3.out.alloc _) ⟨w3.heap.size, 0, none⟩ 1 1 [.string s, .int .i64 y] rfl rfl ?c1 ?c2 ?c3 ?c4 ?c5 ?_)
            case c1 =>
              intro q u hu
              match q with
              | 0 => simp at hu; subst hu; simp [Addr.add]
              | 1 => simp at hu; subst hu; simp [Addr.add]
              | q + 2 => simp at hu
            case c2 => intro u hu; simp at hu; rcases hu with rfl | rfl <;> rfl
            case c3 => unfold maxLen; omega
            case c4 => omega
            case c5 => simp; omega
            intro v' w4 hown hgrow hnil
            have B4 : Hid (Below w1.heap.size w1 w4) := (B3.out.alloc hz3 (.cells #[.string s, .int .i64 y] 39)).grown hgrow (by simp; omega) (fun m hm => (O3.out.lt m hm).1)
            have O4 : Hid (w4.ownsRow w1.heap.size 39 2 v' (j + 1) (avC (D ++ [⟨s, y⟩]))) := by
              have h9 : avC D ++ [Value.string s, .int .i64 y] = avC (D ++ [⟨s, y⟩]) := by simp [avC]
              rw [h9] at hown; exact hown
            have hz4 : w1.heap.size ≤ w4.heap.size := B4.out.size
            clear hown hgrow hnil
            go_wp2
            go_roundw
            case rel =>
              refine ⟨_, j + 1, D ++ [⟨s, y⟩], rfl, by go_num, by omega, hz4, O4.out, B4.out, ?_, ?_⟩
              · intro a ha
                rcases List.mem_append.1 ha with ha | ha
                · exact HR.out.2.2.1 a ha
                · rw [List.mem_singleton.1 ha]; exact ⟨⟨hsz20.out, YB.out.1⟩, YB.out.2⟩
              · rw [TK.out]; simp
            case measure => simp [intOf]; omega
    · have hj1 : ¬ (j : Int) < ((Att.listL sc).length : Int) := by omega
      obtain rfl : j = (Att.listL sc).length := by omega
      obtain ⟨q, c, rfl, hcap, hav, -⟩ := av_of_own HR.out.1 (fun a ha => (HR.out.2.2.1 a ha).1) (by omega)
      have AVV := Lib.hid hav
      clear hav
      go_wp2
      go_ret
      exact ⟨D, q, c, rfl, hcap, AVV.out, by rw [HR.out.2.2.2, List.take_length], (fun a ha => (HR.out.2.2.1 a ha).2), B1.out.trans (HR.out.2.1.mono B1.out.size)⟩
end Go.Proofs.Ytfoedbfkddoibaa
