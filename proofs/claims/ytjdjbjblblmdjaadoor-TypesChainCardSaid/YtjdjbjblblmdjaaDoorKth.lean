/-
  The contracts of both FormatClocks.
-/
import Derived.Test.YtjdjbjblblmdjaaDoorKtf
import Derived.Test.YtjdjbjblblmdjaaDoorKtd
namespace Go.Proofs.YtjdjbjblblmdjaaDoor
set_option linter.unusedVariables false
set_option linter.unusedSimpArgs false
open Go.ChangeShapes Go.WideShapes Go.ChangeAt Go.RowKit

/-- The digits of a number, kept whole. -/
def padS (n : Int) (k : Nat) : ByteArray := ⟨(Txt.pad n.toNat k).toArray⟩
theorem padS_size (n : Int) (k : Nat) (hk : 1 ≤ k) (h1 : n < (10 ^ k : Nat)) : (padS n k).size = k := by
  show (Txt.pad n.toNat k).toArray.size = k
  rw [List.size_toArray]
  refine Txt.pad_len _ _ (Txt.dec_len_le _ _ hk ?_)
  have hp : 0 < 10 ^ k := Nat.pow_pos (by omega)
  generalize 10 ^ k = K at *
  omega
theorem two_int (n : Int) (k : Nat) (w : World) (h0 : 0 ≤ n) (hn : n ≤ 9223372036854775807) (hk : k ≤ 100) (ht : Tab w) :
    Calls Tryd.prog 16 #[.int .i64 n, .int .i64 k] w fun e w' => e = .returned (.string (padS n k)) ∧ Below w.heap.size w w' := by
  obtain ⟨m, rfl⟩ := Int.eq_ofNat_of_zero_le h0
  have := two_any m k w (by omega) hk ht
  simpa [padS] using this
theorem two2 (n : Int) (w : World) (h0 : 0 ≤ n) (hn : n ≤ 9223372036854775807) (ht : Tab w) :
    Calls Tryd.prog 16 #[.int .i64 n, .int .i64 2] w fun e w' => e = .returned (.string (padS n 2)) ∧ Below w.heap.size w w' := two_int n 2 w h0 hn (by omega) ht
/-- What both FormatClocks return. -/
def fcS (c : Int) : ByteArray := padS (c / 60) 2 ++ ⟨#[58]⟩ ++ padS (c % 60) 2
def fcB (c : Int) : Bool := decide (0 ≤ c ∧ c < 1440)
def fcV (c : Int) : ByteArray := if fcB c = true then fcS c else ⟨#[]⟩
def fcE (c : Int) : Int := if fcB c = true then 0 else 5
set_option maxHeartbeats 2000000 in
theorem fclock_ref_any (c : Int) (w : World) (ht : Tab w) :
    Calls Tryd.prog 9 #[.int .i64 c] w fun e w' => e = .returned (.tuple #[.string (fcV c), .int .i64 (fcE c)]) ∧ Below w.heap.size w w' := by
  by_cases h : 0 ≤ c ∧ c < 1440
  · have hB : fcB c = true := by simp [fcB]; exact h
    have E1 : Hid (fcV c = fcS c) := by unfold Hid fcV; rw [if_pos hB]
    have E2 : Hid (fcE c = 0) := by unfold Hid fcE; rw [if_pos hB]
    obtain ⟨h0, h1⟩ := h
    clear hB
    have h2 : c ≤ 1439 := by omega
    have d1 : 0 ≤ c / 60 := by omega
    have d2 : c / 60 ≤ 23 := by omega
    have d3 : 0 ≤ c % 60 := by omega
    have d4 : c % 60 ≤ 59 := by omega
    have z1 : (padS (c / 60) 2).size = 2 := padS_size _ 2 (by omega) (by omega)
    have z2 : (padS (c % 60) 2).size = 2 := padS_size _ 2 (by omega) (by omega)
    go_enter Tryd.func9, Tryd.ntmps9
    go_wp2_with fail
    refine (two2 _ _ (by omega) (by omega) ht).mono ?_
    rintro e w1 ⟨rfl, hb1⟩
    go_wp2_with fail
    refine (two2 _ _ (by omega) (by omega) (ht.next hb1)).mono ?_
    rintro e w2 ⟨rfl, hb2⟩
    go_wp2
    go_ret2
    exact ⟨by rw [E1.out, E2.out]; rfl, hb1.trans (hb2.mono hb1.size)⟩
  · have hB : fcB c = false := by simp [fcB]; omega
    have E1 : Hid (fcV c = ⟨#[]⟩) := by unfold Hid fcV; rw [if_neg (by rw [hB]; simp)]
    have E2 : Hid (fcE c = 5) := by unfold Hid fcE; rw [if_neg (by rw [hB]; simp)]
    clear hB
    by_cases h0 : 0 ≤ c
    · have h1 : ¬ c < 1440 := fun q => h ⟨h0, q⟩
      clear h
      go_enter Tryd.func9, Tryd.ntmps9
      go_wp2
      go_ret2
      exact ⟨by rw [E1.out, E2.out]; rfl, Below.refl _ _⟩
    · clear h
      go_enter Tryd.func9, Tryd.ntmps9
      go_wp2
      go_ret2
      exact ⟨by rw [E1.out, E2.out]; rfl, Below.refl _ _⟩

end Go.Proofs.YtjdjbjblblmdjaaDoor
