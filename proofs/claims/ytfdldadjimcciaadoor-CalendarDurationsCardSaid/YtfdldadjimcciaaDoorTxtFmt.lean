/-
  The contracts of FormatDate and FormatClock, of the program and of the reference.
-/
import Derived.Test.YtfdldadjimcciaaDoorTxtDate
namespace Go.Proofs.YtfdldadjimcciaaDoor
set_option linter.unusedVariables false
set_option linter.unusedSimpArgs false
open Go.ChangeShapes Go.WideShapes Go.ChangeAt Go.RowKit

/-- The digits of a number, kept whole. -/
def padS (n : Int) (k : Nat) : ByteArray := ⟨(Txt.pad n.toNat k).toArray⟩
theorem padS_size (n : Int) (k : Nat) (hk : 1 ≤ k) (h1 : n < (10 ^ k : Nat)) : (padS n k).size = k := by
  show (Txt.pad n.toNat k).toArray.size = k
  rw [List.size_toArray]
  refine Txt.pad_len _ _ (Txt.dec_len_le _ _ hk ?_)
  have hp : 0 < 10 ^ k := Nat.pow_pos (by omega)
  generalize 10 ^ k = K at *
  omega
theorem padded_int (n : Int) (k : Nat) (w : World) (h0 : 0 ≤ n) (hn : n ≤ 9223372036854775807) (hk : k ≤ 100) (ht : Tab w) :
    Calls Tryd.prog 28 #[.int .i64 n, .int .i64 k] w fun e w' => e = .returned (.string (padS n k)) ∧ Below w.heap.size w w' := by
  obtain ⟨m, rfl⟩ := Int.eq_ofNat_of_zero_le h0
  have := padded_any m k w (by omega) hk ht
  simpa [padS] using this
theorem two_int (n : Int) (k : Nat) (w : World) (h0 : 0 ≤ n) (hn : n ≤ 9223372036854775807) (hk : k ≤ 100) (ht : Tab w) :
    Calls Tryd.prog 29 #[.int .i64 n, .int .i64 k] w fun e w' => e = .returned (.string (padS n k)) ∧ Below w.heap.size w w' := by
  obtain ⟨m, rfl⟩ := Int.eq_ofNat_of_zero_le h0
  have := two_any m k w (by omega) hk ht
  simpa [padS] using this

theorem padded4 (n : Int) (w : World) (h0 : 0 ≤ n) (hn : n ≤ 9223372036854775807) (ht : Tab w) :
    Calls Tryd.prog 28 #[.int .i64 n, .int .i64 4] w fun e w' => e = .returned (.string (padS n 4)) ∧ Below w.heap.size w w' := padded_int n 4 w h0 hn (by omega) ht
theorem padded2 (n : Int) (w : World) (h0 : 0 ≤ n) (hn : n ≤ 9223372036854775807) (ht : Tab w) :
    Calls Tryd.prog 28 #[.int .i64 n, .int .i64 2] w fun e w' => e = .returned (.string (padS n 2)) ∧ Below w.heap.size w w' := padded_int n 2 w h0 hn (by omega) ht
theorem two4 (n : Int) (w : World) (h0 : 0 ≤ n) (hn : n ≤ 9223372036854775807) (ht : Tab w) :
    Calls Tryd.prog 29 #[.int .i64 n, .int .i64 4] w fun e w' => e = .returned (.string (padS n 4)) ∧ Below w.heap.size w w' := two_int n 4 w h0 hn (by omega) ht
theorem two2 (n : Int) (w : World) (h0 : 0 ≤ n) (hn : n ≤ 9223372036854775807) (ht : Tab w) :
    Calls Tryd.prog 29 #[.int .i64 n, .int .i64 2] w fun e w' => e = .returned (.string (padS n 2)) ∧ Below w.heap.size w w' := two_int n 2 w h0 hn (by omega) ht

theorem Tab.regrown {w : World} (h : Tab w) (d : Nat) (os : Array Obj) : Tab (Sort.grow (redrawn w d) os) := h.next (below_regrown w d os)

/-- What both FormatDates return. -/
def fdS (y m d : Int) : ByteArray := padS y 4 ++ ⟨#[45]⟩ ++ padS m 2 ++ ⟨#[45]⟩ ++ padS d 2
def fdV (y m d : Int) : ByteArray := if Cal.vldB y m d = true then fdS y m d else ⟨#[]⟩
def fdE (y m d : Int) : Int := if Cal.vldB y m d = true then 0 else 5

set_option maxHeartbeats 2000000 in
theorem fdate_yes (y m d : Int) (w : World) (h : Cal.vldB y m d = true) (ht : Tab w) :
    Calls Tryd.prog 8 #[.agg #[.int .i64 y, .int .i64 m, .int .i64 d]] w fun e w' => e = .returned (.tuple #[.string (fdS y m d), .int .i64 0]) ∧ Below w.heap.size w w' := by
  obtain ⟨a1, a2, a3, a4, a5, a6⟩ := (Cal.vld_iff y m d).1 h
  have hd := Cal.dim_bd y m
  have H := Lib.hid h
  clear h
  have z1 : (padS y 4).size = 4 := padS_size y 4 (by omega) (by omega)
  have z2 : (padS m 2).size = 2 := padS_size m 2 (by omega) (by omega)
  have z3 : (padS d 2).size = 2 := padS_size d 2 (by omega) (by omega)
  go_enter Tryd.func8, Tryd.ntmps8
  go_wp2_with (go_at_call 25; refine (valid_yes _ _ _ _ H.out).mono ?_; rintro e w1 ⟨rfl, hb⟩)
  have c0 := box_cell hb 0
  have c1 := box_cell hb 1
  have c2 := box_cell hb 2
  simp at c0 c1 c2
  have e0 := fun d os => cell_regrown c0 d os
  have e1 := fun d os => cell_regrown c1 d os
  have e2 := fun d os => cell_regrown c2 d os
  have ht1 : Tab w1 := (ht.alloc _).next hb
  have CY : Hid (∀ dq os, Calls Tryd.prog 28 #[.int .i64 y, .int .i64 4] (Sort.grow (redrawn w1 dq) os) fun e w'' => e = .returned (.string (padS y 4)) ∧ ∃ p : Regrown, w'' = Sort.grow (redrawn w1 p.d) p.os) :=
    fun dq os => Calls.regrown_of (padded4 y _ (by omega) (by omega) (ht1.regrown dq os))
  have CM : Hid (∀ dq os, Calls Tryd.prog 28 #[.int .i64 m, .int .i64 2] (Sort.grow (redrawn w1 dq) os) fun e w'' => e = .returned (.string (padS m 2)) ∧ ∃ p : Regrown, w'' = Sort.grow (redrawn w1 p.d) p.os) :=
    fun dq os => Calls.regrown_of (padded2 m _ (by omega) (by omega) (ht1.regrown dq os))
  have CD : Hid (∀ dq os, Calls Tryd.prog 28 #[.int .i64 d, .int .i64 2] (Sort.grow (redrawn w1 dq) os) fun e w'' => e = .returned (.string (padS d 2)) ∧ ∃ p : Regrown, w'' = Sort.grow (redrawn w1 p.d) p.os) :=
    fun dq os => Calls.regrown_of (padded2 d _ (by omega) (by omega) (ht1.regrown dq os))
  refine wp_region_quiet_below (by kernel_rfl) (by kernel_rfl) ?_
  repeat (quiet_step (first | (with_reducible exact CY.out _ _) | (with_reducible exact CM.out _ _) | (with_reducible exact CD.out _ _)))
  refine wpQuiet_nil ?_
  intro _ hw'
  obtain ⟨⟨dq, osq⟩, hw''⟩ := hw'
  subst hw''
  go_wp2
  go_ret2
  exact ⟨rfl, (below2 hb).trans ((below_regrown w1 dq osq).mono (below2 hb).size)⟩

set_option maxHeartbeats 2000000 in
theorem fdate_no (y m d : Int) (w : World) (h : Cal.vldB y m d = false) :
    Calls Tryd.prog 8 #[.agg #[.int .i64 y, .int .i64 m, .int .i64 d]] w fun e w' => e = .returned (.tuple #[.string ⟨#[]⟩, .int .i64 5]) ∧ Below w.heap.size w w' := by
  have H := Lib.hid h
  clear h
  go_enter Tryd.func8, Tryd.ntmps8
  go_wp2_with (go_at_call 25; refine (valid_no _ _ _ _ H.out).mono ?_; rintro e w1 ⟨rfl, hb⟩)
  go_ret2
  exact ⟨rfl, below2 hb⟩
theorem fdate_any (y m d : Int) (w : World) (ht : Tab w) :
    Calls Tryd.prog 8 #[.agg #[.int .i64 y, .int .i64 m, .int .i64 d]] w fun e w' => e = .returned (.tuple #[.string (fdV y m d), .int .i64 (fdE y m d)]) ∧ Below w.heap.size w w' := by
  unfold fdV fdE
  cases h : Cal.vldB y m d
  · exact fdate_no y m d w h
  · exact fdate_yes y m d w h ht

set_option maxHeartbeats 2000000 in
theorem fdate_ref_yes (y m d : Int) (w : World) (h : Cal.vldB y m d = true) (ht : Tab w) :
    Calls Tryd.prog 9 #[.agg #[.int .i64 y, .int .i64 m, .int .i64 d]] w fun e w' => e = .returned (.tuple #[.string (fdS y m d), .int .i64 0]) ∧ Below w.heap.size w w' := by
  obtain ⟨a1, a2, a3, a4, a5, a6⟩ := (Cal.vld_iff y m d).1 h
  have hd := Cal.dim_bd y m
  have H := Lib.hid h
  clear h
  have z1 : (padS y 4).size = 4 := padS_size y 4 (by omega) (by omega)
  have z2 : (padS m 2).size = 2 := padS_size m 2 (by omega) (by omega)
  have z3 : (padS d 2).size = 2 := padS_size d 2 (by omega) (by omega)
  go_enter Tryd.func9, Tryd.ntmps9
  go_wp2_with (go_at_call 27; refine (isdate_yes _ _ _ _ H.out).mono ?_; rintro e w1 ⟨rfl, hb⟩)
  have c0 := box_cell hb 0
  have c1 := box_cell hb 1
  have c2 := box_cell hb 2
  simp at c0 c1 c2
  have e0 := fun d os => cell_regrown c0 d os
  have e1 := fun d os => cell_regrown c1 d os
  have e2 := fun d os => cell_regrown c2 d os
  have ht1 : Tab w1 := (ht.alloc _).next hb
  have CY : Hid (∀ dq os, Calls Tryd.prog 29 #[.int .i64 y, .int .i64 4] (Sort.grow (redrawn w1 dq) os) fun e w'' => e = .returned (.string (padS y 4)) ∧ ∃ p : Regrown, w'' = Sort.grow (redrawn w1 p.d) p.os) :=
    fun dq os => Calls.regrown_of (two4 y _ (by omega) (by omega) (ht1.regrown dq os))
  have CM : Hid (∀ dq os, Calls Tryd.prog 29 #[.int .i64 m, .int .i64 2] (Sort.grow (redrawn w1 dq) os) fun e w'' => e = .returned (.string (padS m 2)) ∧ ∃ p : Regrown, w'' = Sort.grow (redrawn w1 p.d) p.os) :=
    fun dq os => Calls.regrown_of (two2 m _ (by omega) (by omega) (ht1.regrown dq os))
  have CD : Hid (∀ dq os, Calls Tryd.prog 29 #[.int .i64 d, .int .i64 2] (Sort.grow (redrawn w1 dq) os) fun e w'' => e = .returned (.string (padS d 2)) ∧ ∃ p : Regrown, w'' = Sort.grow (redrawn w1 p.d) p.os) :=
    fun dq os => Calls.regrown_of (two2 d _ (by omega) (by omega) (ht1.regrown dq os))
  refine wp_region_quiet_below (by kernel_rfl) (by kernel_rfl) ?_
  repeat (quiet_step (first | (with_reducible exact CY.out _ _) | (with_reducible exact CM.out _ _) | (with_reducible exact CD.out _ _)))
  refine wpQuiet_nil ?_
  intro _ hw'
  obtain ⟨⟨dq, osq⟩, hw''⟩ := hw'
  subst hw''
  go_wp2
  go_ret2
  exact ⟨rfl, (below2 hb).trans ((below_regrown w1 dq osq).mono (below2 hb).size)⟩

set_option maxHeartbeats 2000000 in
theorem fdate_ref_no (y m d : Int) (w : World) (h : Cal.vldB y m d = false) :
    Calls Tryd.prog 9 #[.agg #[.int .i64 y, .int .i64 m, .int .i64 d]] w fun e w' => e = .returned (.tuple #[.string ⟨#[]⟩, .int .i64 5]) ∧ Below w.heap.size w w' := by
  have H := Lib.hid h
  clear h
  go_enter Tryd.func9, Tryd.ntmps9
  go_wp2_with (go_at_call 27; refine (isdate_no _ _ _ _ H.out).mono ?_; rintro e w1 ⟨rfl, hb⟩)
  go_ret2
  exact ⟨rfl, below2 hb⟩
theorem fdate_ref_any (y m d : Int) (w : World) (ht : Tab w) :
    Calls Tryd.prog 9 #[.agg #[.int .i64 y, .int .i64 m, .int .i64 d]] w fun e w' => e = .returned (.tuple #[.string (fdV y m d), .int .i64 (fdE y m d)]) ∧ Below w.heap.size w w' := by
  unfold fdV fdE
  cases h : Cal.vldB y m d
  · exact fdate_ref_no y m d w h
  · exact fdate_ref_yes y m d w h ht

/-- What both FormatClocks return. -/
def fcS (c : Int) : ByteArray := padS (c / 60) 2 ++ ⟨#[58]⟩ ++ padS (c % 60) 2
def fcB (c : Int) : Bool := decide (0 ≤ c ∧ c < 1440)
def fcV (c : Int) : ByteArray := if fcB c = true then fcS c else ⟨#[]⟩
def fcE (c : Int) : Int := if fcB c = true then 0 else 5

set_option maxHeartbeats 2000000 in
theorem fclock_any (c : Int) (w : World) (ht : Tab w) :
    Calls Tryd.prog 12 #[.int .i64 c] w fun e w' => e = .returned (.tuple #[.string (fcV c), .int .i64 (fcE c)]) ∧ Below w.heap.size w w' := by
  by_cases h : 0 ≤ c ∧ c < 1440
  · have hB : fcB c = true := by simp [fcB]; exact h
    have E1 : Hid (fcV c = fcS c) := by unfold Hid fcV; rw [if_pos hB]
    have E2 : Hid (fcE c = 0) := by unfold Hid fcE; rw [if_pos hB]
    obtain ⟨h0, h1⟩ := h
    clear hB
    have h2 : c ≤ 1439 := by omega
    have d1 : 0 ≤ c / 60 := by omega
    have d2 : c / 60 ≤ 23 := by omega
    have d3 : 0 ≤ c % 60 := by omega
    have d4 : c % 60 ≤ 59 := by omega
    have z1 : (padS (c / 60) 2).size = 2 := padS_size _ 2 (by omega) (by omega)
    have z2 : (padS (c % 60) 2).size = 2 := padS_size _ 2 (by omega) (by omega)
    go_enter Tryd.func12, Tryd.ntmps12
    go_wp2_with fail
    refine (padded2 _ _ (by omega) (by omega) ht).mono ?_
    rintro e w1 ⟨rfl, hb1⟩
    go_wp2_with fail
    refine (padded2 _ _ (by omega) (by omega) (ht.next hb1)).mono ?_
    rintro e w2 ⟨rfl, hb2⟩
    go_wp2
    go_ret2
    exact ⟨by rw [E1.out, E2.out]; rfl, hb1.trans (hb2.mono hb1.size)⟩
  · have hB : fcB c = false := by simp [fcB]; omega
    have E1 : Hid (fcV c = ⟨#[]⟩) := by unfold Hid fcV; rw [if_neg (by rw [hB]; simp)]
    have E2 : Hid (fcE c = 5) := by unfold Hid fcE; rw [if_neg (by rw [hB]; simp)]
    clear hB
    by_cases h0 : 0 ≤ c
    · have h1 : ¬ c < 1440 := fun q => h ⟨h0, q⟩
      clear h
      go_enter Tryd.func12, Tryd.ntmps12
      go_wp2
      go_ret2
      exact ⟨by rw [E1.out, E2.out]; rfl, Below.refl _ _⟩
    · clear h
      go_enter Tryd.func12, Tryd.ntmps12
      go_wp2
      go_ret2
      exact ⟨by rw [E1.out, E2.out]; rfl, Below.refl _ _⟩

set_option maxHeartbeats 2000000 in
theorem fclock_ref_any (c : Int) (w : World) (ht : Tab w) :
    Calls Tryd.prog 13 #[.int .i64 c] w fun e w' => e = .returned (.tuple #[.string (fcV c), .int .i64 (fcE c)]) ∧ Below w.heap.size w w' := by
  by_cases h : 0 ≤ c ∧ c < 1440
  · have hB : fcB c = true := by simp [fcB]; exact h
    have E1 : Hid (fcV c = fcS c) := by unfold Hid fcV; rw [if_pos hB]
    have E2 : Hid (fcE c = 0) := by unfold Hid fcE; rw [if_pos hB]
    obtain ⟨h0, h1⟩ := h
    clear hB
    have h2 : c ≤ 1439 := by omega
    have d1 : 0 ≤ c / 60 := by omega
    have d2 : c / 60 ≤ 23 := by omega
    have d3 : 0 ≤ c % 60 := by omega
    have d4 : c % 60 ≤ 59 := by omega
    have z1 : (padS (c / 60) 2).size = 2 := padS_size _ 2 (by omega) (by omega)
    have z2 : (padS (c % 60) 2).size = 2 := padS_size _ 2 (by omega) (by omega)
    go_enter Tryd.func13, Tryd.ntmps13
    go_wp2_with fail
    refine (two2 _ _ (by omega) (by omega) ht).mono ?_
    rintro e w1 ⟨rfl, hb1⟩
    go_wp2_with fail
    refine (two2 _ _ (by omega) (by omega) (ht.next hb1)).mono ?_
    rintro e w2 ⟨rfl, hb2⟩
    go_wp2
    go_ret2
    exact ⟨by rw [E1.out, E2.out]; rfl, hb1.trans (hb2.mono hb1.size)⟩
  · have hB : fcB c = false := by simp [fcB]; omega
    have E1 : Hid (fcV c = ⟨#[]⟩) := by unfold Hid fcV; rw [if_neg (by rw [hB]; simp)]
    have E2 : Hid (fcE c = 5) := by unfold Hid fcE; rw [if_neg (by rw [hB]; simp)]
    clear hB
    by_cases h0 : 0 ≤ c
    · have h1 : ¬ c < 1440 := fun q => h ⟨h0, q⟩
      clear h
      go_enter Tryd.func13, Tryd.ntmps13
      go_wp2
      go_ret2
      exact ⟨by rw [E1.out, E2.out]; rfl, Below.refl _ _⟩
    · clear h
      go_enter Tryd.func13, Tryd.ntmps13
      go_wp2
      go_ret2
      exact ⟨by rw [E1.out, E2.out]; rfl, Below.refl _ _⟩

end Go.Proofs.YtfdldadjimcciaaDoor
